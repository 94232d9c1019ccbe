/- Parts of the proof: Ja. No condition of its own. -/
import Derived.Test.YtocknfhgjmaibaaGreatDoorRk
import Derived.Test.YtocknfhgjmaibaaGreatDoorIa
import Derived.Test.YtocknfhgjmaibaaGreatDoorMem
import Derived.Test.YtocknfhgjmaibaaGreatDoorReg
set_option linter.unusedSimpArgs false
set_option linter.unusedVariables false
set_option linter.unusedSectionVars false
set_option maxRecDepth 100000
set_option maxHeartbeats 4000000
namespace Go.Proofs.YtocknfhgjmaibaaGreatDoor
open Go.RowKit Dg

theorem str_ne1 {s : ByteArray} (h : s ≠ ⟨#[49]⟩) : (s.toList == [49]) = false := by
  rw [beq_eq_false_iff_ne]; intro e
  apply h
  apply ba_ext
  rw [← ByteArray.toList_eq, e]
theorem sg_of (g : Nat) : ∃ sg, S g = sg ∧ (sg.toList == [49]) = decide (g = 1) := by
  refine ⟨_, rfl, ?_⟩
  by_cases h1 : g = 1
  · subst h1; rw [okS_1, ByteArray.toList_eq]; rfl
  · rw [str_ne1 (fun e => h1 (by rw [← okS_1] at e; exact S_inj e))]; simp [h1]
theorem dk_gcd {m n : Nat} (hm : (dk m).length ≤ 20000) (hn : (dk n).length ≤ 20000) : (dk (Nat.gcd m n)).length ≤ 20000 := by
  rcases Nat.eq_zero_or_pos m with rfl | h0
  · rw [Nat.gcd_zero_left]; exact hn
  · exact Nat.le_trans (Dg.dg_mono b10k (Nat.gcd_le_left n h0)) hm

theorem isratior_nat (neg : Bool) (m n : Nat) (w : World) (hm : OkN m) (hn : OkN n) :
    Calls Tryz.prog 57 #[RatV neg m n] w fun e w' => e = .returned (.bool (isRB neg m n)) ∧ Below w.heap.size w w' := by
  have HV1 := Lib.hid hm.vld; have HV2 := Lib.hid hn.vld; have HG1 := fun W => Lib.hid (big_S m W hm); have HG2 := fun W => Lib.hid (big_S n W hn); have hdm := hm.dk; have hdn := hn.dk; have hdg := dk_gcd hdm hdn; clear hm hn
  rcases Nat.eq_zero_or_pos n with rfl | hn0
  · have HR : Hid (isRB neg m 0 = false) := by show _ = _; unfold isRB; simp
    show Calls _ _ #[.agg #[.bool neg, .string (S m), .string (S 0)]] _ _
    rw [okS_0] at HV2 ⊢; clear HG1 HG2 hdg; generalize S m = sm at *; obtain ⟨o1, hbw⟩ := new1 w [.bool neg, .string sm, .string ⟨#[48]⟩] 27
    go_enter Tryz.func57, Tryz.ntmps57
    go_upto_region 1 with (fail)
    generalize (w.alloc (.cells #[.bool neg, .string sm, .string ⟨#[48]⟩] 27)) = wb at o1 hbw ⊢; have c1 : wb.cell? ⟨w.heap.size, 1, none⟩ = some (.string sm) := o1.cell 1; have c2 : wb.cell? ⟨w.heap.size, 2, none⟩ = some (.string ⟨#[48]⟩) := o1.cell 2
    go_wp2_with fail
    refine (validr_yes _ HV1.out).mono ?_; rintro e w1 ⟨rfl, rfl⟩
    go_wp2_with fail
    refine (validr_yes _ HV2.out).mono ?_; rintro e w1 ⟨rfl, rfl⟩
    go_wp2
    go_ret
    exact ⟨ret_bool HR.out.symm, hbw⟩
  have hb0 := str_ne (s := S n) (by rw [← okS_0]; exact S_ne_0 hn0)
  rcases Nat.eq_zero_or_pos m with rfl | hm0
  · show Calls _ _ #[.agg #[.bool neg, .string (S 0), .string (S n)]] _ _
    rw [okS_0] at HV1 ⊢; clear HG1 HG2 hdg
    by_cases hn1 : n = 1
    · subst hn1; rw [okS_1] at HV2 hb0 ⊢; have HR : Hid (isRB neg 0 1 = !neg) := by show _ = _; unfold isRB; cases neg <;> decide
      clear hn0 hb0; obtain ⟨o1, hbw⟩ := new1 w [.bool neg, .string ⟨#[48]⟩, .string ⟨#[49]⟩] 27
      go_enter Tryz.func57, Tryz.ntmps57
      go_upto_region 1 with (fail)
      generalize (w.alloc (.cells #[.bool neg, .string ⟨#[48]⟩, .string ⟨#[49]⟩] 27)) = wb at o1 hbw ⊢; obtain ⟨c0, c1, c2⟩ := o1.cells3
      go_wp2_with fail
      refine (validr_yes _ HV1.out).mono ?_; rintro e w1 ⟨rfl, rfl⟩
      go_wp2_with fail
      refine (validr_yes _ HV2.out).mono ?_; rintro e w1 ⟨rfl, rfl⟩
      cases neg with
      | true =>
        go_wp2
        go_ret
        exact ⟨ret_bool HR.out.symm, hbw⟩
      | false =>
        go_wp2
        go_ret
        exact ⟨ret_bool HR.out.symm, hbw⟩
    · have hb1 := str_ne1 (s := S n) (fun e => hn1 (by rw [← okS_1] at e; exact S_inj e)); have HR : Hid (isRB neg 0 n = false) := by show _ = _; unfold isRB; simp [hn1]
      clear hn0 hn1; generalize S n = sn at *; obtain ⟨o1, hbw⟩ := new1 w [.bool neg, .string ⟨#[48]⟩, .string sn] 27
      go_enter Tryz.func57, Tryz.ntmps57
      go_upto_region 1 with (fail)
      generalize (w.alloc (.cells #[.bool neg, .string ⟨#[48]⟩, .string sn] 27)) = wb at o1 hbw ⊢; obtain ⟨c0, c1, c2⟩ := o1.cells3
      go_wp2_with fail
      refine (validr_yes _ HV1.out).mono ?_; rintro e w1 ⟨rfl, rfl⟩
      go_wp2_with fail
      refine (validr_yes _ HV2.out).mono ?_; rintro e w1 ⟨rfl, rfl⟩
      cases neg with
      | true =>
        go_wp2
        go_ret
        exact ⟨ret_bool HR.out.symm, hbw⟩
      | false =>
        go_wp2
        go_ret
        exact ⟨ret_bool HR.out.symm, hbw⟩
  have hb2 := str_ne (s := S m) (by rw [← okS_0]; exact S_ne_0 hm0); have HR := Lib.hid (isRB_gcd (neg := neg) (m := m) hn0 (fun h => by omega)); obtain ⟨sg, HSG, HE⟩ := sg_of (Nat.gcd m n); have HSG := Lib.hid HSG; have HE := Lib.hid HE; clear hn0 hm0
  show Calls _ _ #[.agg #[.bool neg, .string (S m), .string (S n)]] _ _
  generalize S m = sm at *; generalize S n = sn at *; obtain ⟨o1, hbw⟩ := new1 w [.bool neg, .string sm, .string sn] 27
  go_enter Tryz.func57, Tryz.ntmps57
  go_upto_region 1 with (fail)
  generalize (w.alloc (.cells #[.bool neg, .string sm, .string sn] 27)) = wb at o1 hbw ⊢; obtain ⟨c0, c1, c2⟩ := o1.cells3
  go_wp2_with fail
  refine (validr_yes _ HV1.out).mono ?_; rintro e w1 ⟨rfl, rfl⟩
  go_wp2_with fail
  refine (validr_yes _ HV2.out).mono ?_; rintro e w1 ⟨rfl, rfl⟩
  go_upto_region 5 with (fail)
  refine wp_reg_ra [some 29, some 30, some 31, some 32, some 33, some 34, some 35, some 36, some 37, some 2] [isV ?v1_0, isV ?v1_1, (fun v w' => BigV w' v (m)), isV ?v1_3, isV ?v1_4, (fun v w' => BigV w' v (n)), (fun v w' => BigV w' v (Nat.gcd m n)), isV (.string sg), isV ?v1_8, isV ?v1_9] rfl (by kernel_rfl) rfl rfl ?k1 ⟨?s1_0, ?s1_1, ?s1_2, ?s1_3, ?s1_4, ?s1_5, ?s1_6, ?s1_7, ?s1_8, ?s1_9, trivial⟩ ?p1
  case s1_0 =>
    intro t9 w9 hT9 hV9 hO9 K9 hK9; have o9_1 := hO9 1 _ (show List.contains _ _ = false from by kernel_rfl) rfl; clear hV9 hO9; go_simp
    (refine hK9 _ _ (Grow.refl _) ?_; exact rfl)
  case s1_1 =>
    intro t9 w9 hT9 hV9 hO9 K9 hK9; obtain ⟨x9_0, p9_0, q9_0⟩ := hV9.g 0 29 rfl rfl (by kernel_rfl); obtain rfl : x9_0 = ?v1_0 := q9_0; clear hV9 hO9; have d9_0 := grow_cell hT9 c0; have d9_1 := grow_cell hT9 c1; have d9_2 := grow_cell hT9 c2; go_simp
    (refine hK9 _ _ (Grow.refl _) ?_; exact rfl)
  case s1_2 =>
    intro t9 w9 hT9 hV9 hO9 K9 hK9; obtain ⟨x9_1, p9_1, q9_1⟩ := hV9.g 1 30 rfl rfl (by kernel_rfl); obtain rfl : x9_1 = ?v1_1 := q9_1; clear hV9 hO9; go_simp; refine ((HG1 _).out).mono ?_; rintro _ w8 ⟨v8, rfl, hv8, hb8⟩; exact hK9 _ _ hb8 hv8
  case s1_3 =>
    intro t9 w9 hT9 hV9 hO9 K9 hK9; have o9_1 := hO9 1 _ (show List.contains _ _ = false from by kernel_rfl) rfl; clear hV9 hO9; go_simp
    (refine hK9 _ _ (Grow.refl _) ?_; exact rfl)
  case s1_4 =>
    intro t9 w9 hT9 hV9 hO9 K9 hK9; obtain ⟨x9_3, p9_3, q9_3⟩ := hV9.g 3 32 rfl rfl (by kernel_rfl); obtain rfl : x9_3 = ?v1_3 := q9_3; clear hV9 hO9; have d9_0 := grow_cell hT9 c0; have d9_1 := grow_cell hT9 c1; have d9_2 := grow_cell hT9 c2; go_simp
    (refine hK9 _ _ (Grow.refl _) ?_; exact rfl)
  case s1_5 =>
    intro t9 w9 hT9 hV9 hO9 K9 hK9; obtain ⟨x9_4, p9_4, q9_4⟩ := hV9.g 4 33 rfl rfl (by kernel_rfl); obtain rfl : x9_4 = ?v1_4 := q9_4; clear hV9 hO9; go_simp; refine ((HG2 _).out).mono ?_; rintro _ w8 ⟨v8, rfl, hv8, hb8⟩; exact hK9 _ _ hb8 hv8
  case s1_6 =>
    intro t9 w9 hT9 hV9 hO9 K9 hK9; obtain ⟨x9_2, p9_2, q9_2⟩ := hV9.g 2 31 rfl rfl (by kernel_rfl); replace q9_2 : ((fun v w' => BigV w' v (m))) x9_2 _ := q9_2; obtain ⟨x9_5, p9_5, q9_5⟩ := hV9.g 5 34 rfl rfl (by kernel_rfl); replace q9_5 : ((fun v w' => BigV w' v (n))) x9_5 _ := q9_5; clear hV9 hO9; go_simp; refine (gcd_ref _ q9_2 q9_5 (by omega) (by omega)).mono ?_; rintro _ w8 ⟨v8, rfl, hv8, hb8⟩; exact hK9 _ _ hb8 hv8
  case s1_7 =>
    intro t9 w9 hT9 hV9 hO9 K9 hK9; obtain ⟨x9_6, p9_6, q9_6⟩ := hV9.g 6 35 rfl rfl (by kernel_rfl); replace q9_6 : ((fun v w' => BigV w' v (Nat.gcd m n))) x9_6 _ := q9_6; clear hV9 hO9; go_simp; refine (textr_any _ q9_6 (by omega)).mono ?_; rintro _ w8 ⟨rfl, hb8⟩; rw [HSG.out]; exact hK9 _ _ hb8 rfl
  case s1_8 =>
    intro t9 w9 hT9 hV9 hO9 K9 hK9; obtain ⟨x9_7, p9_7, q9_7⟩ := hV9.g 7 36 rfl rfl (by kernel_rfl); obtain rfl : x9_7 = (.string sg) := q9_7; clear hV9 hO9; go_simp
    (refine hK9 _ _ (Grow.refl _) ?_; exact rfl)
  case s1_9 =>
    intro t9 w9 hT9 hV9 hO9 K9 hK9; obtain ⟨x9_8, p9_8, q9_8⟩ := hV9.g 8 37 rfl rfl (by kernel_rfl); obtain rfl : x9_8 = ?v1_8 := q9_8; clear hV9 hO9; go_simp
    (refine hK9 _ _ (Grow.refl _) ?_; exact rfl)
  case k1 =>
    intro i9 v9 w9 x9 h9 g9
    match i9, h9 with
    | 0, h9 => exact h9
    | 1, h9 => exact h9
    | 2, h9 => (replace h9 : (fun v w' => BigV w' v (m)) v9 w9 := h9); exact BigV.below h9 g9
    | 3, h9 => exact h9
    | 4, h9 => exact h9
    | 5, h9 => (replace h9 : (fun v w' => BigV w' v (n)) v9 w9 := h9); exact BigV.below h9 g9
    | 6, h9 => (replace h9 : (fun v w' => BigV w' v (Nat.gcd m n)) v9 w9 := h9); exact BigV.below h9 g9
    | 7, h9 => exact h9
    | 8, h9 => exact h9
    | 9, h9 => exact h9
    | _ + 10, h9 => exact trivial
  intro u9 w9 hE9 hu9; have r9_0 : u9 0 = ?v1_0 := hu9 0 (by decide); have r9_1 : u9 1 = ?v1_1 := hu9 1 (by decide); have r9_2 : (fun v w' => BigV w' v (m)) (u9 2) w9 := hu9 2 (by decide); have r9_3 : u9 3 = ?v1_3 := hu9 3 (by decide); have r9_4 : u9 4 = ?v1_4 := hu9 4 (by decide); have r9_5 : (fun v w' => BigV w' v (n)) (u9 5) w9 := hu9 5 (by decide); have r9_6 : (fun v w' => BigV w' v (Nat.gcd m n)) (u9 6) w9 := hu9 6 (by decide); have r9_7 : u9 7 = (.string sg) := hu9 7 (by decide); have r9_8 : u9 8 = ?v1_8 := hu9 8 (by decide); have r9_9 : u9 9 = ?v1_9 := hu9 9 (by decide); clear hu9
  simp only [putAll, Act.put, List.setIfInBounds_toArray, List.set_cons_succ, List.set_cons_zero, List.getD_cons_succ, List.getD_cons_zero, Nat.reduceAdd, Nat.zero_add]
  simp only [r9_0, r9_1, r9_3, r9_4, r9_7, r9_8, r9_9]
  clear r9_0 r9_1 r9_3 r9_4 r9_7 r9_8 r9_9
  go_wp2_with fail
  go_ret
  exact ⟨ret_bool (by rw [HR.out]), hbw.trans (hE9.mono hbw.size)⟩

theorem isratior_yes {x : Rat} (w : World) (h : OkR x) : Calls Tryz.prog 57 #[RV x] w fun e w' => e = .returned (.bool true) ∧ Below w.heap.size w w' := by
  refine (isratior_nat _ _ _ w h.1 h.2).mono ?_; rintro e w' ⟨rfl, hb⟩; refine ⟨ret_bool (decide_eq_true ?_), hb⟩; exact (isR_iff h.1 h.2).1 (isR_RV h)
end Go.Proofs.YtocknfhgjmaibaaGreatDoor
