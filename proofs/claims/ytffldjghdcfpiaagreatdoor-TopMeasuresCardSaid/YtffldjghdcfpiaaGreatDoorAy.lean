/- Parts of the proof: Ay. No condition of its own. -/
import Derived.Test.YtffldjghdcfpiaaGreatDoorAx
set_option linter.unusedSimpArgs false
set_option linter.unusedVariables false
set_option linter.unusedSectionVars false
namespace Go.Proofs.YtffldjghdcfpiaaGreatDoor
open Go.RowKit Dg

abbrev Sc9 (w : World) (g : Nat) (s : ByteArray) (i : Nat) : Prop := Own w g 167 [.string s, .int .i64 (i : Int)]
theorem sees_yes (g i : Nat) (s : ByteArray) (c : Int) (w : World) (ho : Sc9 w g s i) (hi : i < s.size) (hc : ((s[i]'hi).toNat : Int) = c) :
    Calls Tryz.prog 125 #[.pointer (some ⟨g, 0, none⟩), .int .u8 c] w fun e w' => e = .returned (.bool true) ∧ Below w.heap.size w w' := by
  obtain ⟨p0, p1⟩ := ho.cells2; have t1 : decide ((i : Int) < (s.size : Int)) = true := decide_eq_true (by omega); have t2 : decide (i < s.size) = true := decide_eq_true hi; have t3 : (((s[i]'hi).toNat : Int) == c) = true := beq_iff_eq.2 hc; have hbw := Below.refl w.heap.size w
  go_enter Tryz.func125, Tryz.ntmps125
  go_upto_region 1 with (fail)
  refine wp_reg_abs [some 5, some 6, some 7, some 8, some 9, some 10, some 11, some 12, some 13, some 14, some 15, some 16, some 17, some 18, some 19, some 20, some 21, some 22, some 23, some 24, some 25, some 26, some 27, some 4] [?v1_0, ?v1_1, ?v1_2, ?v1_3, ?v1_4, ?v1_5, ?v1_6, ?v1_7, ?v1_8, ?v1_9, ?v1_10, ?v1_11, ?v1_12, ?v1_13, ?v1_14, ?v1_15, ?v1_16, ?v1_17, ?v1_18, ?v1_19, ?v1_20, ?v1_21, ?v1_22, ?v1_23] rfl (by kernel_rfl) rfl rfl ⟨?s1_0, ?s1_1, ?s1_2, ?s1_3, ?s1_4, ?s1_5, ?s1_6, ?s1_7, ?s1_8, ?s1_9, ?s1_10, ?s1_11, ?s1_12, ?s1_13, ?s1_14, ?s1_15, ?s1_16, ?s1_17, ?s1_18, ?s1_19, ?s1_20, ?s1_21, ?s1_22, ?s1_23, trivial⟩ ?p1
  case s1_0 =>
    intro t9 w9 hT9 hV9 hO9 K9 hK9; have o9_0 := hO9 0 _ (by kernel_rfl) rfl; clear hV9 hO9; go_simp; exact hK9 _ (Grow.refl _)
  case s1_1 =>
    intro t9 w9 hT9 hV9 hO9 K9 hK9; have p9_0 : t9[5]? = some ?v1_0 := hV9 0 5 rfl rfl (of_decide_eq_true (by kernel_rfl)); clear hV9 hO9; go_simp; exact hK9 _ (Grow.refl _)
  case s1_2 =>
    intro t9 w9 hT9 hV9 hO9 K9 hK9; have p9_1 : t9[6]? = some ?v1_1 := hV9 1 6 rfl rfl (of_decide_eq_true (by kernel_rfl)); clear hV9 hO9; go_simp; exact hK9 _ (Grow.refl _)
  case s1_3 =>
    intro t9 w9 hT9 hV9 hO9 K9 hK9; have p9_2 : t9[7]? = some ?v1_2 := hV9 2 7 rfl rfl (of_decide_eq_true (by kernel_rfl)); clear hV9 hO9; have d9_0 := grow_cell hT9 p0; have d9_1 := grow_cell hT9 p1; go_simp; exact hK9 _ (Grow.refl _)
  case s1_4 =>
    intro t9 w9 hT9 hV9 hO9 K9 hK9; have o9_0 := hO9 0 _ (by kernel_rfl) rfl; clear hV9 hO9; go_simp; exact hK9 _ (Grow.refl _)
  case s1_5 =>
    intro t9 w9 hT9 hV9 hO9 K9 hK9; have p9_4 : t9[9]? = some ?v1_4 := hV9 4 9 rfl rfl (of_decide_eq_true (by kernel_rfl)); clear hV9 hO9; go_simp; exact hK9 _ (Grow.refl _)
  case s1_6 =>
    intro t9 w9 hT9 hV9 hO9 K9 hK9; have p9_5 : t9[10]? = some ?v1_5 := hV9 5 10 rfl rfl (of_decide_eq_true (by kernel_rfl)); clear hV9 hO9; go_simp; exact hK9 _ (Grow.refl _)
  case s1_7 =>
    intro t9 w9 hT9 hV9 hO9 K9 hK9; have p9_6 : t9[11]? = some ?v1_6 := hV9 6 11 rfl rfl (of_decide_eq_true (by kernel_rfl)); clear hV9 hO9; have d9_0 := grow_cell hT9 p0; have d9_1 := grow_cell hT9 p1; go_simp; exact hK9 _ (Grow.refl _)
  case s1_8 =>
    intro t9 w9 hT9 hV9 hO9 K9 hK9; have p9_7 : t9[12]? = some ?v1_7 := hV9 7 12 rfl rfl (of_decide_eq_true (by kernel_rfl)); clear hV9 hO9; go_simp; exact hK9 _ (Grow.refl _)
  case s1_9 =>
    intro t9 w9 hT9 hV9 hO9 K9 hK9; have p9_3 : t9[8]? = some ?v1_3 := hV9 3 8 rfl rfl (of_decide_eq_true (by kernel_rfl)); have p9_8 : t9[13]? = some ?v1_8 := hV9 8 13 rfl rfl (of_decide_eq_true (by kernel_rfl)); clear hV9 hO9; go_simp; exact hK9 _ (Grow.refl _)
  case s1_10 =>
    intro t9 w9 hT9 hV9 hO9 K9 hK9; have p9_9 : t9[14]? = some ?v1_9 := hV9 9 14 rfl rfl (of_decide_eq_true (by kernel_rfl)); clear hV9 hO9; go_simp; exact hK9 _ (Grow.refl _)
  case s1_11 =>
    intro t9 w9 hT9 hV9 hO9 K9 hK9; have p9_10 : t9[15]? = some ?v1_10 := hV9 10 15 rfl rfl (of_decide_eq_true (by kernel_rfl)); have o9_0 := hO9 0 _ (by kernel_rfl) rfl; clear hV9 hO9; go_simp; exact hK9 _ (Grow.refl _)
  case s1_12 =>
    intro t9 w9 hT9 hV9 hO9 K9 hK9; have p9_10 : t9[15]? = some ?v1_10 := hV9 10 15 rfl rfl (of_decide_eq_true (by kernel_rfl)); have p9_11 : t9[16]? = some ?v1_11 := hV9 11 16 rfl rfl (of_decide_eq_true (by kernel_rfl)); clear hV9 hO9; go_simp; exact hK9 _ (Grow.refl _)
  case s1_13 =>
    intro t9 w9 hT9 hV9 hO9 K9 hK9; have p9_10 : t9[15]? = some ?v1_10 := hV9 10 15 rfl rfl (of_decide_eq_true (by kernel_rfl)); have p9_12 : t9[17]? = some ?v1_12 := hV9 12 17 rfl rfl (of_decide_eq_true (by kernel_rfl)); clear hV9 hO9; go_simp; exact hK9 _ (Grow.refl _)
  case s1_14 =>
    intro t9 w9 hT9 hV9 hO9 K9 hK9; have p9_10 : t9[15]? = some ?v1_10 := hV9 10 15 rfl rfl (of_decide_eq_true (by kernel_rfl)); have p9_13 : t9[18]? = some ?v1_13 := hV9 13 18 rfl rfl (of_decide_eq_true (by kernel_rfl)); clear hV9 hO9; have d9_0 := grow_cell hT9 p0; have d9_1 := grow_cell hT9 p1; go_simp; exact hK9 _ (Grow.refl _)
  case s1_15 =>
    intro t9 w9 hT9 hV9 hO9 K9 hK9; have p9_10 : t9[15]? = some ?v1_10 := hV9 10 15 rfl rfl (of_decide_eq_true (by kernel_rfl)); have o9_0 := hO9 0 _ (by kernel_rfl) rfl; clear hV9 hO9; go_simp; exact hK9 _ (Grow.refl _)
  case s1_16 =>
    intro t9 w9 hT9 hV9 hO9 K9 hK9; have p9_10 : t9[15]? = some ?v1_10 := hV9 10 15 rfl rfl (of_decide_eq_true (by kernel_rfl)); have p9_15 : t9[20]? = some ?v1_15 := hV9 15 20 rfl rfl (of_decide_eq_true (by kernel_rfl)); clear hV9 hO9; go_simp; exact hK9 _ (Grow.refl _)
  case s1_17 =>
    intro t9 w9 hT9 hV9 hO9 K9 hK9; have p9_10 : t9[15]? = some ?v1_10 := hV9 10 15 rfl rfl (of_decide_eq_true (by kernel_rfl)); have p9_16 : t9[21]? = some ?v1_16 := hV9 16 21 rfl rfl (of_decide_eq_true (by kernel_rfl)); clear hV9 hO9; go_simp; exact hK9 _ (Grow.refl _)
  case s1_18 =>
    intro t9 w9 hT9 hV9 hO9 K9 hK9; have p9_10 : t9[15]? = some ?v1_10 := hV9 10 15 rfl rfl (of_decide_eq_true (by kernel_rfl)); have p9_17 : t9[22]? = some ?v1_17 := hV9 17 22 rfl rfl (of_decide_eq_true (by kernel_rfl)); clear hV9 hO9; have d9_0 := grow_cell hT9 p0; have d9_1 := grow_cell hT9 p1; go_simp; exact hK9 _ (Grow.refl _)
  case s1_19 =>
    intro t9 w9 hT9 hV9 hO9 K9 hK9; have p9_10 : t9[15]? = some ?v1_10 := hV9 10 15 rfl rfl (of_decide_eq_true (by kernel_rfl)); have p9_14 : t9[19]? = some ?v1_14 := hV9 14 19 rfl rfl (of_decide_eq_true (by kernel_rfl)); have p9_18 : t9[23]? = some ?v1_18 := hV9 18 23 rfl rfl (of_decide_eq_true (by kernel_rfl)); clear hV9 hO9; go_simp; exact hK9 _ (Grow.refl _)
  case s1_20 =>
    intro t9 w9 hT9 hV9 hO9 K9 hK9; have p9_10 : t9[15]? = some ?v1_10 := hV9 10 15 rfl rfl (of_decide_eq_true (by kernel_rfl)); have o9_1 := hO9 1 _ (by kernel_rfl) rfl; clear hV9 hO9; go_simp; exact hK9 _ (Grow.refl _)
  case s1_21 =>
    intro t9 w9 hT9 hV9 hO9 K9 hK9; have p9_10 : t9[15]? = some ?v1_10 := hV9 10 15 rfl rfl (of_decide_eq_true (by kernel_rfl)); have p9_19 : t9[24]? = some ?v1_19 := hV9 19 24 rfl rfl (of_decide_eq_true (by kernel_rfl)); have p9_20 : t9[25]? = some ?v1_20 := hV9 20 25 rfl rfl (of_decide_eq_true (by kernel_rfl)); clear hV9 hO9; go_simp; exact hK9 _ (Grow.refl _)
  case s1_22 =>
    intro t9 w9 hT9 hV9 hO9 K9 hK9; have p9_10 : t9[15]? = some ?v1_10 := hV9 10 15 rfl rfl (of_decide_eq_true (by kernel_rfl)); have p9_21 : t9[26]? = some ?v1_21 := hV9 21 26 rfl rfl (of_decide_eq_true (by kernel_rfl)); clear hV9 hO9; go_simp; exact hK9 _ (Grow.refl _)
  case s1_23 =>
    intro t9 w9 hT9 hV9 hO9 K9 hK9; have p9_22 : t9[27]? = some ?v1_22 := hV9 22 27 rfl rfl (of_decide_eq_true (by kernel_rfl)); clear hV9 hO9; go_simp; exact hK9 _ (Grow.refl _)
  intro w9 hb9
  simp only [putAll, Act.put, List.setIfInBounds_toArray, List.set_cons_succ, List.set_cons_zero, List.getD_cons_succ, List.getD_cons_zero, Nat.reduceAdd, Nat.zero_add]
  replace hbw := below6 hbw hb9
  go_wp2
  go_ret
  exact ⟨rfl, hbw⟩
theorem sees_no (g i : Nat) (s : ByteArray) (c : Int) (w : World) (ho : Sc9 w g s i) (hi : i < s.size) (hc : ((s[i]'hi).toNat : Int) ≠ c) :
    Calls Tryz.prog 125 #[.pointer (some ⟨g, 0, none⟩), .int .u8 c] w fun e w' => e = .returned (.bool false) ∧ Below w.heap.size w w' := by
  obtain ⟨p0, p1⟩ := ho.cells2; have t1 : decide ((i : Int) < (s.size : Int)) = true := decide_eq_true (by omega); have t2 : decide (i < s.size) = true := decide_eq_true hi; have t3 : (((s[i]'hi).toNat : Int) == c) = false := beq_eq_false_iff_ne.2 hc; have hbw := Below.refl w.heap.size w
  go_enter Tryz.func125, Tryz.ntmps125
  go_upto_region 1 with (fail)
  refine wp_reg_abs [some 5, some 6, some 7, some 8, some 9, some 10, some 11, some 12, some 13, some 14, some 15, some 16, some 17, some 18, some 19, some 20, some 21, some 22, some 23, some 24, some 25, some 26, some 27, some 4] [?v2_0, ?v2_1, ?v2_2, ?v2_3, ?v2_4, ?v2_5, ?v2_6, ?v2_7, ?v2_8, ?v2_9, ?v2_10, ?v2_11, ?v2_12, ?v2_13, ?v2_14, ?v2_15, ?v2_16, ?v2_17, ?v2_18, ?v2_19, ?v2_20, ?v2_21, ?v2_22, ?v2_23] rfl (by kernel_rfl) rfl rfl ⟨?s2_0, ?s2_1, ?s2_2, ?s2_3, ?s2_4, ?s2_5, ?s2_6, ?s2_7, ?s2_8, ?s2_9, ?s2_10, ?s2_11, ?s2_12, ?s2_13, ?s2_14, ?s2_15, ?s2_16, ?s2_17, ?s2_18, ?s2_19, ?s2_20, ?s2_21, ?s2_22, ?s2_23, trivial⟩ ?p2
  case s2_0 =>
    intro t9 w9 hT9 hV9 hO9 K9 hK9; have o9_0 := hO9 0 _ (by kernel_rfl) rfl; clear hV9 hO9; go_simp; exact hK9 _ (Grow.refl _)
  case s2_1 =>
    intro t9 w9 hT9 hV9 hO9 K9 hK9; have p9_0 : t9[5]? = some ?v2_0 := hV9 0 5 rfl rfl (of_decide_eq_true (by kernel_rfl)); clear hV9 hO9; go_simp; exact hK9 _ (Grow.refl _)
  case s2_2 =>
    intro t9 w9 hT9 hV9 hO9 K9 hK9; have p9_1 : t9[6]? = some ?v2_1 := hV9 1 6 rfl rfl (of_decide_eq_true (by kernel_rfl)); clear hV9 hO9; go_simp; exact hK9 _ (Grow.refl _)
  case s2_3 =>
    intro t9 w9 hT9 hV9 hO9 K9 hK9; have p9_2 : t9[7]? = some ?v2_2 := hV9 2 7 rfl rfl (of_decide_eq_true (by kernel_rfl)); clear hV9 hO9; have d9_0 := grow_cell hT9 p0; have d9_1 := grow_cell hT9 p1; go_simp; exact hK9 _ (Grow.refl _)
  case s2_4 =>
    intro t9 w9 hT9 hV9 hO9 K9 hK9; have o9_0 := hO9 0 _ (by kernel_rfl) rfl; clear hV9 hO9; go_simp; exact hK9 _ (Grow.refl _)
  case s2_5 =>
    intro t9 w9 hT9 hV9 hO9 K9 hK9; have p9_4 : t9[9]? = some ?v2_4 := hV9 4 9 rfl rfl (of_decide_eq_true (by kernel_rfl)); clear hV9 hO9; go_simp; exact hK9 _ (Grow.refl _)
  case s2_6 =>
    intro t9 w9 hT9 hV9 hO9 K9 hK9; have p9_5 : t9[10]? = some ?v2_5 := hV9 5 10 rfl rfl (of_decide_eq_true (by kernel_rfl)); clear hV9 hO9; go_simp; exact hK9 _ (Grow.refl _)
  case s2_7 =>
    intro t9 w9 hT9 hV9 hO9 K9 hK9; have p9_6 : t9[11]? = some ?v2_6 := hV9 6 11 rfl rfl (of_decide_eq_true (by kernel_rfl)); clear hV9 hO9; have d9_0 := grow_cell hT9 p0; have d9_1 := grow_cell hT9 p1; go_simp; exact hK9 _ (Grow.refl _)
  case s2_8 =>
    intro t9 w9 hT9 hV9 hO9 K9 hK9; have p9_7 : t9[12]? = some ?v2_7 := hV9 7 12 rfl rfl (of_decide_eq_true (by kernel_rfl)); clear hV9 hO9; go_simp; exact hK9 _ (Grow.refl _)
  case s2_9 =>
    intro t9 w9 hT9 hV9 hO9 K9 hK9; have p9_3 : t9[8]? = some ?v2_3 := hV9 3 8 rfl rfl (of_decide_eq_true (by kernel_rfl)); have p9_8 : t9[13]? = some ?v2_8 := hV9 8 13 rfl rfl (of_decide_eq_true (by kernel_rfl)); clear hV9 hO9; go_simp; exact hK9 _ (Grow.refl _)
  case s2_10 =>
    intro t9 w9 hT9 hV9 hO9 K9 hK9; have p9_9 : t9[14]? = some ?v2_9 := hV9 9 14 rfl rfl (of_decide_eq_true (by kernel_rfl)); clear hV9 hO9; go_simp; exact hK9 _ (Grow.refl _)
  case s2_11 =>
    intro t9 w9 hT9 hV9 hO9 K9 hK9; have p9_10 : t9[15]? = some ?v2_10 := hV9 10 15 rfl rfl (of_decide_eq_true (by kernel_rfl)); have o9_0 := hO9 0 _ (by kernel_rfl) rfl; clear hV9 hO9; go_simp; exact hK9 _ (Grow.refl _)
  case s2_12 =>
    intro t9 w9 hT9 hV9 hO9 K9 hK9; have p9_10 : t9[15]? = some ?v2_10 := hV9 10 15 rfl rfl (of_decide_eq_true (by kernel_rfl)); have p9_11 : t9[16]? = some ?v2_11 := hV9 11 16 rfl rfl (of_decide_eq_true (by kernel_rfl)); clear hV9 hO9; go_simp; exact hK9 _ (Grow.refl _)
  case s2_13 =>
    intro t9 w9 hT9 hV9 hO9 K9 hK9; have p9_10 : t9[15]? = some ?v2_10 := hV9 10 15 rfl rfl (of_decide_eq_true (by kernel_rfl)); have p9_12 : t9[17]? = some ?v2_12 := hV9 12 17 rfl rfl (of_decide_eq_true (by kernel_rfl)); clear hV9 hO9; go_simp; exact hK9 _ (Grow.refl _)
  case s2_14 =>
    intro t9 w9 hT9 hV9 hO9 K9 hK9; have p9_10 : t9[15]? = some ?v2_10 := hV9 10 15 rfl rfl (of_decide_eq_true (by kernel_rfl)); have p9_13 : t9[18]? = some ?v2_13 := hV9 13 18 rfl rfl (of_decide_eq_true (by kernel_rfl)); clear hV9 hO9; have d9_0 := grow_cell hT9 p0; have d9_1 := grow_cell hT9 p1; go_simp; exact hK9 _ (Grow.refl _)
  case s2_15 =>
    intro t9 w9 hT9 hV9 hO9 K9 hK9; have p9_10 : t9[15]? = some ?v2_10 := hV9 10 15 rfl rfl (of_decide_eq_true (by kernel_rfl)); have o9_0 := hO9 0 _ (by kernel_rfl) rfl; clear hV9 hO9; go_simp; exact hK9 _ (Grow.refl _)
  case s2_16 =>
    intro t9 w9 hT9 hV9 hO9 K9 hK9; have p9_10 : t9[15]? = some ?v2_10 := hV9 10 15 rfl rfl (of_decide_eq_true (by kernel_rfl)); have p9_15 : t9[20]? = some ?v2_15 := hV9 15 20 rfl rfl (of_decide_eq_true (by kernel_rfl)); clear hV9 hO9; go_simp; exact hK9 _ (Grow.refl _)
  case s2_17 =>
    intro t9 w9 hT9 hV9 hO9 K9 hK9; have p9_10 : t9[15]? = some ?v2_10 := hV9 10 15 rfl rfl (of_decide_eq_true (by kernel_rfl)); have p9_16 : t9[21]? = some ?v2_16 := hV9 16 21 rfl rfl (of_decide_eq_true (by kernel_rfl)); clear hV9 hO9; go_simp; exact hK9 _ (Grow.refl _)
  case s2_18 =>
    intro t9 w9 hT9 hV9 hO9 K9 hK9; have p9_10 : t9[15]? = some ?v2_10 := hV9 10 15 rfl rfl (of_decide_eq_true (by kernel_rfl)); have p9_17 : t9[22]? = some ?v2_17 := hV9 17 22 rfl rfl (of_decide_eq_true (by kernel_rfl)); clear hV9 hO9; have d9_0 := grow_cell hT9 p0; have d9_1 := grow_cell hT9 p1; go_simp; exact hK9 _ (Grow.refl _)
  case s2_19 =>
    intro t9 w9 hT9 hV9 hO9 K9 hK9; have p9_10 : t9[15]? = some ?v2_10 := hV9 10 15 rfl rfl (of_decide_eq_true (by kernel_rfl)); have p9_14 : t9[19]? = some ?v2_14 := hV9 14 19 rfl rfl (of_decide_eq_true (by kernel_rfl)); have p9_18 : t9[23]? = some ?v2_18 := hV9 18 23 rfl rfl (of_decide_eq_true (by kernel_rfl)); clear hV9 hO9; go_simp; exact hK9 _ (Grow.refl _)
  case s2_20 =>
    intro t9 w9 hT9 hV9 hO9 K9 hK9; have p9_10 : t9[15]? = some ?v2_10 := hV9 10 15 rfl rfl (of_decide_eq_true (by kernel_rfl)); have o9_1 := hO9 1 _ (by kernel_rfl) rfl; clear hV9 hO9; go_simp; exact hK9 _ (Grow.refl _)
  case s2_21 =>
    intro t9 w9 hT9 hV9 hO9 K9 hK9; have p9_10 : t9[15]? = some ?v2_10 := hV9 10 15 rfl rfl (of_decide_eq_true (by kernel_rfl)); have p9_19 : t9[24]? = some ?v2_19 := hV9 19 24 rfl rfl (of_decide_eq_true (by kernel_rfl)); have p9_20 : t9[25]? = some ?v2_20 := hV9 20 25 rfl rfl (of_decide_eq_true (by kernel_rfl)); clear hV9 hO9; go_simp; exact hK9 _ (Grow.refl _)
  case s2_22 =>
    intro t9 w9 hT9 hV9 hO9 K9 hK9; have p9_10 : t9[15]? = some ?v2_10 := hV9 10 15 rfl rfl (of_decide_eq_true (by kernel_rfl)); have p9_21 : t9[26]? = some ?v2_21 := hV9 21 26 rfl rfl (of_decide_eq_true (by kernel_rfl)); clear hV9 hO9; go_simp; exact hK9 _ (Grow.refl _)
  case s2_23 =>
    intro t9 w9 hT9 hV9 hO9 K9 hK9; have p9_22 : t9[27]? = some ?v2_22 := hV9 22 27 rfl rfl (of_decide_eq_true (by kernel_rfl)); clear hV9 hO9; go_simp; exact hK9 _ (Grow.refl _)
  intro w9 hb9
  simp only [putAll, Act.put, List.setIfInBounds_toArray, List.set_cons_succ, List.set_cons_zero, List.getD_cons_succ, List.getD_cons_zero, Nat.reduceAdd, Nat.zero_add]
  replace hbw := below6 hbw hb9
  go_wp2
  go_ret
  exact ⟨rfl, hbw⟩
theorem eat_yes (g i : Nat) (s : ByteArray) (c : Int) (w : World) (ho : Sc9 w g s i) (hi : i < s.size) (hs : s.size ≤ 1000) (hc : ((s[i]'hi).toNat : Int) = c) :
    Calls Tryz.prog 124 #[.pointer (some ⟨g, 0, none⟩), .int .u8 c] w fun e w' => e = .returned (.tuple #[]) ∧ Sc9 w' g s (i + 1) ∧ Chg (fun k => k = g) w w' := by
  have z1 : IntKind.i64.wrap ((i : Int) + 1) = ((i + 1 : Nat) : Int) := by rw [IntWalk.i64_in _ (by omega)]; omega
  go_enter Tryz.func124, Tryz.ntmps124
  go_wp2_with fail
  refine (sees_yes g i s c _ ho hi hc).mono ?_; rintro e w1 ⟨rfl, hb1⟩; have ho1 := ho.below hb1 ho.lt; have p1 : w1.cell? ⟨g, 1, none⟩ = some (.int .i64 (i : Int)) := ho1.cell 1; have f1 := ho1.frozen 1; have hlt := ho.lt; have hch : Chg (fun k => k = g) w w1 := Chg.of_below hb1 fun k h1 h2 => by omega
  go_wp2
  go_end0
  exact ⟨rfl, ho1.set_ 1 (.int .i64 ((i : Int) + 1)), hch.setCell (p := ⟨g, 1, none⟩) rfl _⟩
def EndN (s : ByteArray) (i : Nat) : Prop := ∃ h : i < s.size, ((s[i]'h).toNat : Int) < 65 ∧ (((s[i]'h).toNat : Int) < 45 ∨ 57 < ((s[i]'h).toNat : Int))
theorem name_yes (g i k : Nat) (s : ByteArray) (w : World) (ho : Sc9 w g s i) (hs : s.size ≤ 1000) (hk : 0 < k) (hk2 : k ≤ 32) (hl : Low s i k) (he : EndN s (i + k)) :
    Calls Tryz.prog 126 #[.pointer (some ⟨g, 0, none⟩)] w fun e w' => e = .returned (.string (s.extract i (i + k))) ∧ Sc9 w' g s (i + k) ∧ Chg (fun k => k = g) w w' := by
  have HL := Lib.hid hl; have HE := Lib.hid he; have hik : i + k < s.size := by obtain ⟨h, _⟩ := he; exact h
  clear hl he; have hi : i < s.size := by omega
  have c0 := HL.out i hi (Nat.le_refl _) (by omega); obtain ⟨p0, p1⟩ := ho.cells2; have t1 : ((i : Int) == (s.size : Int)) = false := beq_eq_false_iff_ne.2 (by omega); have t2 : decide ((i : Int) = (s.size : Int)) = false := decide_eq_false (by omega); have t3 : decide (i = s.size) = false := decide_eq_false (by omega); have t4 : (i == s.size) = false := beq_eq_false_iff_ne.2 (by omega); have hlt := ho.lt
  go_enter Tryz.func126, Tryz.ntmps126
  go_wp2_with fail
  refine (begins_low _ (by omega) (by omega) _).mono ?_; rintro e w1 ⟨rfl, hb1⟩; replace ho := ho.below hb1 ho.lt; have hch : Chg (fun k => k = g) w w1 := Chg.of_below hb1 fun k h1 h2 => by omega
  clear hb1 p0 p1 c0 t1 t2 t3 t4
  go_wp2_with fail
  go_loopg [] k (fun qn wr => ∃ m : Nat, qn = i + k - m ∧ i ≤ m ∧ m ≤ i + k ∧ Sc9 wr g s m ∧ Chg (fun k => k = g) w wr)
  case atStart => exact ⟨i, by omega, Nat.le_refl _, by omega, ho, hch⟩
  case round =>
    clear ho hch; obtain ⟨m, hqn, hm1, hm2, ho, hch⟩ := hrel; have HQ := Lib.hid hqn; clear hqn; have hms : m < s.size := by omega
    obtain ⟨p0, p1⟩ := ho.cells2; have t1 : decide ((m : Int) < (s.size : Int)) = true := decide_eq_true (by omega); have t2 : decide (m < s.size) = true := decide_eq_true hms; have hltr := ho.lt
    by_cases hlk : m < i + k
    · have c0 := HL.out m hms hm1 hlk; have C1 : Hid (97 ≤ ((s[m]'hms).toNat : Int)) := by show 97 ≤ _; omega
      have C2 : Hid (((s[m]'hms).toNat : Int) ≤ 122) := by show _ ≤ 122; omega
      have z1 : IntKind.i64.wrap ((m : Int) + 1) = (m : Int) + 1 := IntWalk.i64_in _ (by omega); clear c0
      go_upto_region 4 with (fail)
      refine wp_reg_abs [some 28, some 29, some 30, some 31, some 32, some 33, some 34, some 35, some 36, some 37, some 38, some 39, some 40, some 41, some 42, some 43, some 44, some 45, some 46, some 47, some 48, some 49] [?v3_0, ?v3_1, ?v3_2, ?v3_3, ?v3_4, ?v3_5, ?v3_6, ?v3_7, ?v3_8, ?v3_9, ?v3_10, ?v3_11, ?v3_12, ?v3_13, ?v3_14, ?v3_15, ?v3_16, ?v3_17, ?v3_18, ?v3_19, ?v3_20, ?v3_21] rfl (by kernel_rfl) rfl rfl ⟨?s3_0, ?s3_1, ?s3_2, ?s3_3, ?s3_4, ?s3_5, ?s3_6, ?s3_7, ?s3_8, ?s3_9, ?s3_10, ?s3_11, ?s3_12, ?s3_13, ?s3_14, ?s3_15, ?s3_16, ?s3_17, ?s3_18, ?s3_19, ?s3_20, ?s3_21, trivial⟩ ?p3
      case s3_0 =>
        intro t9 w9 hT9 hV9 hO9 K9 hK9; have o9_0 := hO9 0 _ (by kernel_rfl) rfl; clear hV9 hO9; go_simp; exact hK9 _ (Grow.refl _)
      case s3_1 =>
        intro t9 w9 hT9 hV9 hO9 K9 hK9; have p9_0 : t9[28]? = some ?v3_0 := hV9 0 28 rfl rfl (of_decide_eq_true (by kernel_rfl)); clear hV9 hO9; go_simp; exact hK9 _ (Grow.refl _)
      case s3_2 =>
        intro t9 w9 hT9 hV9 hO9 K9 hK9; have p9_1 : t9[29]? = some ?v3_1 := hV9 1 29 rfl rfl (of_decide_eq_true (by kernel_rfl)); clear hV9 hO9; go_simp; exact hK9 _ (Grow.refl _)
      case s3_3 =>
        intro t9 w9 hT9 hV9 hO9 K9 hK9; have p9_2 : t9[30]? = some ?v3_2 := hV9 2 30 rfl rfl (of_decide_eq_true (by kernel_rfl)); clear hV9 hO9; have d9_0 := grow_cell hT9 p0; have d9_1 := grow_cell hT9 p1; go_simp; exact hK9 _ (Grow.refl _)
      case s3_4 =>
        intro t9 w9 hT9 hV9 hO9 K9 hK9; have o9_0 := hO9 0 _ (by kernel_rfl) rfl; clear hV9 hO9; go_simp; exact hK9 _ (Grow.refl _)
      case s3_5 =>
        intro t9 w9 hT9 hV9 hO9 K9 hK9; have p9_4 : t9[32]? = some ?v3_4 := hV9 4 32 rfl rfl (of_decide_eq_true (by kernel_rfl)); clear hV9 hO9; go_simp; exact hK9 _ (Grow.refl _)
      case s3_6 =>
        intro t9 w9 hT9 hV9 hO9 K9 hK9; have p9_5 : t9[33]? = some ?v3_5 := hV9 5 33 rfl rfl (of_decide_eq_true (by kernel_rfl)); clear hV9 hO9; go_simp; exact hK9 _ (Grow.refl _)
      case s3_7 =>
        intro t9 w9 hT9 hV9 hO9 K9 hK9; have p9_6 : t9[34]? = some ?v3_6 := hV9 6 34 rfl rfl (of_decide_eq_true (by kernel_rfl)); clear hV9 hO9; have d9_0 := grow_cell hT9 p0; have d9_1 := grow_cell hT9 p1; go_simp; exact hK9 _ (Grow.refl _)
      case s3_8 =>
        intro t9 w9 hT9 hV9 hO9 K9 hK9; have p9_7 : t9[35]? = some ?v3_7 := hV9 7 35 rfl rfl (of_decide_eq_true (by kernel_rfl)); clear hV9 hO9; go_simp; exact hK9 _ (Grow.refl _)
      case s3_9 =>
        intro t9 w9 hT9 hV9 hO9 K9 hK9; have p9_3 : t9[31]? = some ?v3_3 := hV9 3 31 rfl rfl (of_decide_eq_true (by kernel_rfl)); have p9_8 : t9[36]? = some ?v3_8 := hV9 8 36 rfl rfl (of_decide_eq_true (by kernel_rfl)); clear hV9 hO9; go_simp; exact hK9 _ (Grow.refl _)
      case s3_10 =>
        intro t9 w9 hT9 hV9 hO9 K9 hK9; have p9_9 : t9[37]? = some ?v3_9 := hV9 9 37 rfl rfl (of_decide_eq_true (by kernel_rfl)); clear hV9 hO9; go_simp; exact hK9 _ (Grow.refl _)
      case s3_11 =>
        intro t9 w9 hT9 hV9 hO9 K9 hK9; have p9_10 : t9[38]? = some ?v3_10 := hV9 10 38 rfl rfl (of_decide_eq_true (by kernel_rfl)); have o9_0 := hO9 0 _ (by kernel_rfl) rfl; clear hV9 hO9; go_simp; exact hK9 _ (Grow.refl _)
      case s3_12 =>
        intro t9 w9 hT9 hV9 hO9 K9 hK9; have p9_10 : t9[38]? = some ?v3_10 := hV9 10 38 rfl rfl (of_decide_eq_true (by kernel_rfl)); have p9_11 : t9[39]? = some ?v3_11 := hV9 11 39 rfl rfl (of_decide_eq_true (by kernel_rfl)); clear hV9 hO9; go_simp; exact hK9 _ (Grow.refl _)
      case s3_13 =>
        intro t9 w9 hT9 hV9 hO9 K9 hK9; have p9_10 : t9[38]? = some ?v3_10 := hV9 10 38 rfl rfl (of_decide_eq_true (by kernel_rfl)); have p9_12 : t9[40]? = some ?v3_12 := hV9 12 40 rfl rfl (of_decide_eq_true (by kernel_rfl)); clear hV9 hO9; go_simp; exact hK9 _ (Grow.refl _)
      case s3_14 =>
        intro t9 w9 hT9 hV9 hO9 K9 hK9; have p9_10 : t9[38]? = some ?v3_10 := hV9 10 38 rfl rfl (of_decide_eq_true (by kernel_rfl)); have p9_13 : t9[41]? = some ?v3_13 := hV9 13 41 rfl rfl (of_decide_eq_true (by kernel_rfl)); clear hV9 hO9; have d9_0 := grow_cell hT9 p0; have d9_1 := grow_cell hT9 p1; go_simp; exact hK9 _ (Grow.refl _)
      case s3_15 =>
        intro t9 w9 hT9 hV9 hO9 K9 hK9; have p9_10 : t9[38]? = some ?v3_10 := hV9 10 38 rfl rfl (of_decide_eq_true (by kernel_rfl)); have o9_0 := hO9 0 _ (by kernel_rfl) rfl; clear hV9 hO9; go_simp; exact hK9 _ (Grow.refl _)
      case s3_16 =>
        intro t9 w9 hT9 hV9 hO9 K9 hK9; have p9_10 : t9[38]? = some ?v3_10 := hV9 10 38 rfl rfl (of_decide_eq_true (by kernel_rfl)); have p9_15 : t9[43]? = some ?v3_15 := hV9 15 43 rfl rfl (of_decide_eq_true (by kernel_rfl)); clear hV9 hO9; go_simp; exact hK9 _ (Grow.refl _)
      case s3_17 =>
        intro t9 w9 hT9 hV9 hO9 K9 hK9; have p9_10 : t9[38]? = some ?v3_10 := hV9 10 38 rfl rfl (of_decide_eq_true (by kernel_rfl)); have p9_16 : t9[44]? = some ?v3_16 := hV9 16 44 rfl rfl (of_decide_eq_true (by kernel_rfl)); clear hV9 hO9; go_simp; exact hK9 _ (Grow.refl _)
      case s3_18 =>
        intro t9 w9 hT9 hV9 hO9 K9 hK9; have p9_10 : t9[38]? = some ?v3_10 := hV9 10 38 rfl rfl (of_decide_eq_true (by kernel_rfl)); have p9_17 : t9[45]? = some ?v3_17 := hV9 17 45 rfl rfl (of_decide_eq_true (by kernel_rfl)); clear hV9 hO9; have d9_0 := grow_cell hT9 p0; have d9_1 := grow_cell hT9 p1; go_simp; exact hK9 _ (Grow.refl _)
      case s3_19 =>
        intro t9 w9 hT9 hV9 hO9 K9 hK9; have p9_10 : t9[38]? = some ?v3_10 := hV9 10 38 rfl rfl (of_decide_eq_true (by kernel_rfl)); have p9_14 : t9[42]? = some ?v3_14 := hV9 14 42 rfl rfl (of_decide_eq_true (by kernel_rfl)); have p9_18 : t9[46]? = some ?v3_18 := hV9 18 46 rfl rfl (of_decide_eq_true (by kernel_rfl)); clear hV9 hO9; go_simp; exact hK9 _ (Grow.refl _)
      case s3_20 =>
        intro t9 w9 hT9 hV9 hO9 K9 hK9; have p9_10 : t9[38]? = some ?v3_10 := hV9 10 38 rfl rfl (of_decide_eq_true (by kernel_rfl)); have p9_19 : t9[47]? = some ?v3_19 := hV9 19 47 rfl rfl (of_decide_eq_true (by kernel_rfl)); clear hV9 hO9; go_simp
        first | exact hK9 _ (Grow.refl _) | (refine (goesOn_low _ C1.out C2.out _).mono ?_; rintro _ w8 ⟨rfl, hb8⟩; exact hK9 _ hb8)
      case s3_21 =>
        intro t9 w9 hT9 hV9 hO9 K9 hK9; have p9_10 : t9[38]? = some ?v3_10 := hV9 10 38 rfl rfl (of_decide_eq_true (by kernel_rfl)); have p9_20 : t9[48]? = some ?v3_20 := hV9 20 48 rfl rfl (of_decide_eq_true (by kernel_rfl)); clear hV9 hO9; go_simp; exact hK9 _ (Grow.refl _)
      intro w9 hb9
      simp only [putAll, Act.put, List.setIfInBounds_toArray, List.set_cons_succ, List.set_cons_zero, List.getD_cons_succ, List.getD_cons_zero, Nat.reduceAdd, Nat.zero_add]
      replace ho := ho.below hb9 hltr; replace hch := hch.trans (Chg.of_below hb9 fun k h1 h2 => by omega); clear hb9 p0 p1 t1 t2; have p1 : w9.cell? ⟨g, 1, none⟩ = some (.int .i64 (m : Int)) := ho.cell 1; have f1 := ho.frozen 1
      go_wp2
      go_roundg (i + k - (m + 1))
      case measure => have := HQ.out; omega
      case rel => exact ⟨m + 1, rfl, by omega, by omega, ho.set_ 1 (.int .i64 ((m : Int) + 1)), hch.setCell (p := ⟨g, 1, none⟩) rfl _⟩
    · have HMK : Hid (m = i + k) := by show m = i + k; omega
      have hE : EndN s m := by rw [HMK.out]; exact HE.out
      obtain ⟨e0, e1, e2⟩ := hE; have C1 : Hid (((s[m]'hms).toNat : Int) < 65) := e1; have C2 : Hid (((s[m]'hms).toNat : Int) < 45 ∨ 57 < ((s[m]'hms).toNat : Int)) := e2; clear e1 e2 e0
      go_upto_region 4 with (fail)
      refine wp_reg_abs [some 28, some 29, some 30, some 31, some 32, some 33, some 34, some 35, some 36, some 37, some 38, some 39, some 40, some 41, some 42, some 43, some 44, some 45, some 46, some 47, some 48, some 49] [?v4_0, ?v4_1, ?v4_2, ?v4_3, ?v4_4, ?v4_5, ?v4_6, ?v4_7, ?v4_8, ?v4_9, ?v4_10, ?v4_11, ?v4_12, ?v4_13, ?v4_14, ?v4_15, ?v4_16, ?v4_17, ?v4_18, ?v4_19, ?v4_20, ?v4_21] rfl (by kernel_rfl) rfl rfl ⟨?s4_0, ?s4_1, ?s4_2, ?s4_3, ?s4_4, ?s4_5, ?s4_6, ?s4_7, ?s4_8, ?s4_9, ?s4_10, ?s4_11, ?s4_12, ?s4_13, ?s4_14, ?s4_15, ?s4_16, ?s4_17, ?s4_18, ?s4_19, ?s4_20, ?s4_21, trivial⟩ ?p4
      case s4_0 =>
        intro t9 w9 hT9 hV9 hO9 K9 hK9; have o9_0 := hO9 0 _ (by kernel_rfl) rfl; clear hV9 hO9; go_simp; exact hK9 _ (Grow.refl _)
      case s4_1 =>
        intro t9 w9 hT9 hV9 hO9 K9 hK9; have p9_0 : t9[28]? = some ?v4_0 := hV9 0 28 rfl rfl (of_decide_eq_true (by kernel_rfl)); clear hV9 hO9; go_simp; exact hK9 _ (Grow.refl _)
      case s4_2 =>
        intro t9 w9 hT9 hV9 hO9 K9 hK9; have p9_1 : t9[29]? = some ?v4_1 := hV9 1 29 rfl rfl (of_decide_eq_true (by kernel_rfl)); clear hV9 hO9; go_simp; exact hK9 _ (Grow.refl _)
      case s4_3 =>
        intro t9 w9 hT9 hV9 hO9 K9 hK9; have p9_2 : t9[30]? = some ?v4_2 := hV9 2 30 rfl rfl (of_decide_eq_true (by kernel_rfl)); clear hV9 hO9; have d9_0 := grow_cell hT9 p0; have d9_1 := grow_cell hT9 p1; go_simp; exact hK9 _ (Grow.refl _)
      case s4_4 =>
        intro t9 w9 hT9 hV9 hO9 K9 hK9; have o9_0 := hO9 0 _ (by kernel_rfl) rfl; clear hV9 hO9; go_simp; exact hK9 _ (Grow.refl _)
      case s4_5 =>
        intro t9 w9 hT9 hV9 hO9 K9 hK9; have p9_4 : t9[32]? = some ?v4_4 := hV9 4 32 rfl rfl (of_decide_eq_true (by kernel_rfl)); clear hV9 hO9; go_simp; exact hK9 _ (Grow.refl _)
      case s4_6 =>
        intro t9 w9 hT9 hV9 hO9 K9 hK9; have p9_5 : t9[33]? = some ?v4_5 := hV9 5 33 rfl rfl (of_decide_eq_true (by kernel_rfl)); clear hV9 hO9; go_simp; exact hK9 _ (Grow.refl _)
      case s4_7 =>
        intro t9 w9 hT9 hV9 hO9 K9 hK9; have p9_6 : t9[34]? = some ?v4_6 := hV9 6 34 rfl rfl (of_decide_eq_true (by kernel_rfl)); clear hV9 hO9; have d9_0 := grow_cell hT9 p0; have d9_1 := grow_cell hT9 p1; go_simp; exact hK9 _ (Grow.refl _)
      case s4_8 =>
        intro t9 w9 hT9 hV9 hO9 K9 hK9; have p9_7 : t9[35]? = some ?v4_7 := hV9 7 35 rfl rfl (of_decide_eq_true (by kernel_rfl)); clear hV9 hO9; go_simp; exact hK9 _ (Grow.refl _)
      case s4_9 =>
        intro t9 w9 hT9 hV9 hO9 K9 hK9; have p9_3 : t9[31]? = some ?v4_3 := hV9 3 31 rfl rfl (of_decide_eq_true (by kernel_rfl)); have p9_8 : t9[36]? = some ?v4_8 := hV9 8 36 rfl rfl (of_decide_eq_true (by kernel_rfl)); clear hV9 hO9; go_simp; exact hK9 _ (Grow.refl _)
      case s4_10 =>
        intro t9 w9 hT9 hV9 hO9 K9 hK9; have p9_9 : t9[37]? = some ?v4_9 := hV9 9 37 rfl rfl (of_decide_eq_true (by kernel_rfl)); clear hV9 hO9; go_simp; exact hK9 _ (Grow.refl _)
      case s4_11 =>
        intro t9 w9 hT9 hV9 hO9 K9 hK9; have p9_10 : t9[38]? = some ?v4_10 := hV9 10 38 rfl rfl (of_decide_eq_true (by kernel_rfl)); have o9_0 := hO9 0 _ (by kernel_rfl) rfl; clear hV9 hO9; go_simp; exact hK9 _ (Grow.refl _)
      case s4_12 =>
        intro t9 w9 hT9 hV9 hO9 K9 hK9; have p9_10 : t9[38]? = some ?v4_10 := hV9 10 38 rfl rfl (of_decide_eq_true (by kernel_rfl)); have p9_11 : t9[39]? = some ?v4_11 := hV9 11 39 rfl rfl (of_decide_eq_true (by kernel_rfl)); clear hV9 hO9; go_simp; exact hK9 _ (Grow.refl _)
      case s4_13 =>
        intro t9 w9 hT9 hV9 hO9 K9 hK9; have p9_10 : t9[38]? = some ?v4_10 := hV9 10 38 rfl rfl (of_decide_eq_true (by kernel_rfl)); have p9_12 : t9[40]? = some ?v4_12 := hV9 12 40 rfl rfl (of_decide_eq_true (by kernel_rfl)); clear hV9 hO9; go_simp; exact hK9 _ (Grow.refl _)
      case s4_14 =>
        intro t9 w9 hT9 hV9 hO9 K9 hK9; have p9_10 : t9[38]? = some ?v4_10 := hV9 10 38 rfl rfl (of_decide_eq_true (by kernel_rfl)); have p9_13 : t9[41]? = some ?v4_13 := hV9 13 41 rfl rfl (of_decide_eq_true (by kernel_rfl)); clear hV9 hO9; have d9_0 := grow_cell hT9 p0; have d9_1 := grow_cell hT9 p1; go_simp; exact hK9 _ (Grow.refl _)
      case s4_15 =>
        intro t9 w9 hT9 hV9 hO9 K9 hK9; have p9_10 : t9[38]? = some ?v4_10 := hV9 10 38 rfl rfl (of_decide_eq_true (by kernel_rfl)); have o9_0 := hO9 0 _ (by kernel_rfl) rfl; clear hV9 hO9; go_simp; exact hK9 _ (Grow.refl _)
      case s4_16 =>
        intro t9 w9 hT9 hV9 hO9 K9 hK9; have p9_10 : t9[38]? = some ?v4_10 := hV9 10 38 rfl rfl (of_decide_eq_true (by kernel_rfl)); have p9_15 : t9[43]? = some ?v4_15 := hV9 15 43 rfl rfl (of_decide_eq_true (by kernel_rfl)); clear hV9 hO9; go_simp; exact hK9 _ (Grow.refl _)
      case s4_17 =>
        intro t9 w9 hT9 hV9 hO9 K9 hK9; have p9_10 : t9[38]? = some ?v4_10 := hV9 10 38 rfl rfl (of_decide_eq_true (by kernel_rfl)); have p9_16 : t9[44]? = some ?v4_16 := hV9 16 44 rfl rfl (of_decide_eq_true (by kernel_rfl)); clear hV9 hO9; go_simp; exact hK9 _ (Grow.refl _)
      case s4_18 =>
        intro t9 w9 hT9 hV9 hO9 K9 hK9; have p9_10 : t9[38]? = some ?v4_10 := hV9 10 38 rfl rfl (of_decide_eq_true (by kernel_rfl)); have p9_17 : t9[45]? = some ?v4_17 := hV9 17 45 rfl rfl (of_decide_eq_true (by kernel_rfl)); clear hV9 hO9; have d9_0 := grow_cell hT9 p0; have d9_1 := grow_cell hT9 p1; go_simp; exact hK9 _ (Grow.refl _)
      case s4_19 =>
        intro t9 w9 hT9 hV9 hO9 K9 hK9; have p9_10 : t9[38]? = some ?v4_10 := hV9 10 38 rfl rfl (of_decide_eq_true (by kernel_rfl)); have p9_14 : t9[42]? = some ?v4_14 := hV9 14 42 rfl rfl (of_decide_eq_true (by kernel_rfl)); have p9_18 : t9[46]? = some ?v4_18 := hV9 18 46 rfl rfl (of_decide_eq_true (by kernel_rfl)); clear hV9 hO9; go_simp; exact hK9 _ (Grow.refl _)
      case s4_20 =>
        intro t9 w9 hT9 hV9 hO9 K9 hK9; have p9_10 : t9[38]? = some ?v4_10 := hV9 10 38 rfl rfl (of_decide_eq_true (by kernel_rfl)); have p9_19 : t9[47]? = some ?v4_19 := hV9 19 47 rfl rfl (of_decide_eq_true (by kernel_rfl)); clear hV9 hO9; go_simp
        first | exact hK9 _ (Grow.refl _) | (refine (goesOn_no _ C1.out C2.out _).mono ?_; rintro _ w8 ⟨rfl, hb8⟩; exact hK9 _ hb8)
      case s4_21 =>
        intro t9 w9 hT9 hV9 hO9 K9 hK9; have p9_10 : t9[38]? = some ?v4_10 := hV9 10 38 rfl rfl (of_decide_eq_true (by kernel_rfl)); have p9_20 : t9[48]? = some ?v4_20 := hV9 20 48 rfl rfl (of_decide_eq_true (by kernel_rfl)); clear hV9 hO9; go_simp; exact hK9 _ (Grow.refl _)
      intro w9 hb9
      simp only [putAll, Act.put, List.setIfInBounds_toArray, List.set_cons_succ, List.set_cons_zero, List.getD_cons_succ, List.getD_cons_zero, Nat.reduceAdd, Nat.zero_add]
      replace ho := ho.below hb9 hltr; replace hch := hch.trans (Chg.of_below hb9 fun k h1 h2 => by omega); clear hb9 p0 p1 t1 t2 hltr; obtain ⟨p0, p1⟩ := ho.cells2; have z1 : IntKind.i64.wrap ((m : Int) - (i : Int)) = (k : Int) := by rw [IntWalk.i64_in _ (by have := HMK.out; omega)]; have := HMK.out; omega
      have t3 : decide ((k : Int) > 32) = false := decide_eq_false (by omega); have t4 : decide (32 < (k : Int)) = false := decide_eq_false (by omega); have t5 : decide (32 < k) = false := decide_eq_false (by omega); have hltr := ho.lt
      go_upto_region 8 with (fail)
      have hmz : m ≤ s.size := by omega
      refine wp_reg_abs [some 67, some 68, some 69, some 70, some 71, some 72, some 73, some 74, some 75, some 76, some 2] [?v5_0, ?v5_1, ?v5_2, ?v5_3, ?v5_4, ?v5_5, ?v5_6, ?v5_7, ?v5_8, ?v5_9, ?v5_10] rfl (by kernel_rfl) rfl rfl ⟨?s5_0, ?s5_1, ?s5_2, ?s5_3, ?s5_4, ?s5_5, ?s5_6, ?s5_7, ?s5_8, ?s5_9, ?s5_10, trivial⟩ ?p5
      case s5_0 =>
        intro t9 w9 hT9 hV9 hO9 K9 hK9; have o9_0 := hO9 0 _ (by kernel_rfl) rfl; clear hV9 hO9; go_simp; exact hK9 _ (Grow.refl _)
      case s5_1 =>
        intro t9 w9 hT9 hV9 hO9 K9 hK9; have p9_0 : t9[67]? = some ?v5_0 := hV9 0 67 rfl rfl (of_decide_eq_true (by kernel_rfl)); clear hV9 hO9; go_simp; exact hK9 _ (Grow.refl _)
      case s5_2 =>
        intro t9 w9 hT9 hV9 hO9 K9 hK9; have p9_1 : t9[68]? = some ?v5_1 := hV9 1 68 rfl rfl (of_decide_eq_true (by kernel_rfl)); clear hV9 hO9; go_simp; exact hK9 _ (Grow.refl _)
      case s5_3 =>
        intro t9 w9 hT9 hV9 hO9 K9 hK9; have p9_2 : t9[69]? = some ?v5_2 := hV9 2 69 rfl rfl (of_decide_eq_true (by kernel_rfl)); clear hV9 hO9; have d9_0 := grow_cell hT9 p0; have d9_1 := grow_cell hT9 p1; go_simp; exact hK9 _ (Grow.refl _)
      case s5_4 =>
        intro t9 w9 hT9 hV9 hO9 K9 hK9; have o9_3 := hO9 3 _ (by kernel_rfl) rfl; clear hV9 hO9; go_simp; exact hK9 _ (Grow.refl _)
      case s5_5 =>
        intro t9 w9 hT9 hV9 hO9 K9 hK9; have o9_0 := hO9 0 _ (by kernel_rfl) rfl; clear hV9 hO9; go_simp; exact hK9 _ (Grow.refl _)
      case s5_6 =>
        intro t9 w9 hT9 hV9 hO9 K9 hK9; have p9_5 : t9[72]? = some ?v5_5 := hV9 5 72 rfl rfl (of_decide_eq_true (by kernel_rfl)); clear hV9 hO9; go_simp; exact hK9 _ (Grow.refl _)
      case s5_7 =>
        intro t9 w9 hT9 hV9 hO9 K9 hK9; have p9_6 : t9[73]? = some ?v5_6 := hV9 6 73 rfl rfl (of_decide_eq_true (by kernel_rfl)); clear hV9 hO9; go_simp; exact hK9 _ (Grow.refl _)
      case s5_8 =>
        intro t9 w9 hT9 hV9 hO9 K9 hK9; have p9_7 : t9[74]? = some ?v5_7 := hV9 7 74 rfl rfl (of_decide_eq_true (by kernel_rfl)); clear hV9 hO9; have d9_0 := grow_cell hT9 p0; have d9_1 := grow_cell hT9 p1; go_simp; exact hK9 _ (Grow.refl _)
      case s5_9 =>
        intro t9 w9 hT9 hV9 hO9 K9 hK9; have p9_3 : t9[70]? = some ?v5_3 := hV9 3 70 rfl rfl (of_decide_eq_true (by kernel_rfl)); have p9_4 : t9[71]? = some ?v5_4 := hV9 4 71 rfl rfl (of_decide_eq_true (by kernel_rfl)); have p9_8 : t9[75]? = some ?v5_8 := hV9 8 75 rfl rfl (of_decide_eq_true (by kernel_rfl)); clear hV9 hO9; go_simp; exact hK9 _ (Grow.refl _)
      case s5_10 =>
        intro t9 w9 hT9 hV9 hO9 K9 hK9; have p9_9 : t9[76]? = some ?v5_9 := hV9 9 76 rfl rfl (of_decide_eq_true (by kernel_rfl)); clear hV9 hO9; go_simp; exact hK9 _ (Grow.refl _)
      intro w9 hb9
      simp only [putAll, Act.put, List.setIfInBounds_toArray, List.set_cons_succ, List.set_cons_zero, List.getD_cons_succ, List.getD_cons_zero, Nat.reduceAdd, Nat.zero_add]
      replace ho := ho.below hb9 hltr; replace hch := hch.trans (Chg.of_below hb9 fun k h1 h2 => by omega); clear hb9
      go_wp2
      go_ret
      rw [← HMK.out]; exact ⟨rfl, ho, hch⟩
end Go.Proofs.YtffldjghdcfpiaaGreatDoor
