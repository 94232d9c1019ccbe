/- Parts of the proof: Ay, Az, Av. No condition of its own. -/
import Derived.Test.YtfenjklilocjgaaGreatDoorAx
import Derived.Test.YtfenjklilocjgaaGreatDoorRf
import Derived.Lib.OthersKept
import Derived.Laws.RangeString
set_option linter.unusedSimpArgs false
set_option linter.unusedVariables false
set_option linter.unusedSectionVars false
namespace Go.Proofs.YtfenjklilocjgaaGreatDoor
set_option linter.unusedSimpArgs false
set_option linter.unusedVariables false
set_option linter.unusedSectionVars false
open Go.RowKit Dg

/-- The scanner in block g: its text and its place. -/
abbrev Sc9 (w : World) (g : Nat) (s : ByteArray) (i : Nat) : Prop := Own w g 163 [.string s, .int .i64 (i : Int)]
theorem sees_yes (g i : Nat) (s : ByteArray) (c : Int) (w : World) (ho : Sc9 w g s i) (hi : i < s.size) (hc : ((s[i]'hi).toNat : Int) = c) :
    Calls Tryz.prog 146 #[.pointer (some ⟨g, 0, none⟩), .int .u8 c] w fun e w' => e = .returned (.bool true) ∧ Below w.heap.size w w' := by
  have p0 : w.cell? ⟨g, 0, none⟩ = some (.string s) := ho.cell 0
  have p1 : w.cell? ⟨g, 1, none⟩ = some (.int .i64 (i : Int)) := ho.cell 1
  have t1 : decide ((i : Int) < (s.size : Int)) = true := decide_eq_true (by omega)
  have t2 : decide (i < s.size) = true := decide_eq_true hi
  have t3 : (((s[i]'hi).toNat : Int) == c) = true := beq_iff_eq.2 hc
  have hbw := Below.refl w.heap.size w
  go_enter Tryz.func146, Tryz.ntmps146
  go_upto_region 1 with (fail)
  refine wp_reg_f [some 5, some 6, some 7, some 8, some 9, some 10, some 11, some 12, some 13, some 14, some 15, some 16, some 17, some 18, some 19, some 20, some 21, some 22, some 23, some 24, some 25, some 26, some 27, some 4] [?v1_0, ?v1_1, ?v1_2, ?v1_3, ?v1_4, ?v1_5, ?v1_6, ?v1_7, ?v1_8, ?v1_9, ?v1_10, ?v1_11, ?v1_12, ?v1_13, ?v1_14, ?v1_15, ?v1_16, ?v1_17, ?v1_18, ?v1_19, ?v1_20, ?v1_21, ?v1_22, ?v1_23] [[], [0], [1], [2], [], [4], [5], [6], [7], [3, 8], [9], [10], [10, 11], [10, 12], [10, 13], [10], [10, 15], [10, 16], [10, 17], [10, 14, 18], [10], [10, 19, 20], [10, 21], [22]] [(0, _), (1, _)] ⟨rfl, rfl, trivial⟩ rfl (by kernel_rfl) rfl rfl (by kernel_rfl) (by kernel_rfl) ⟨?s1_0, ?s1_1, ?s1_2, ?s1_3, ?s1_4, ?s1_5, ?s1_6, ?s1_7, ?s1_8, ?s1_9, ?s1_10, ?s1_11, ?s1_12, ?s1_13, ?s1_14, ?s1_15, ?s1_16, ?s1_17, ?s1_18, ?s1_19, ?s1_20, ?s1_21, ?s1_22, ?s1_23, trivial⟩ ?p1
  all_goals try (intro t9 w9 hT9 K9 hK9; simp only [OV, FV, List.getD_cons_succ, List.getD_cons_zero, Option.getD_some]; intros)
  case s1_0 | s1_1 | s1_2 | s1_3 | s1_4 | s1_5 | s1_6 | s1_7 | s1_8 | s1_9 | s1_10 | s1_11 | s1_12 | s1_13 | s1_14 | s1_15 | s1_16 | s1_17 | s1_18 | s1_19 | s1_20 | s1_21 | s1_22 | s1_23 =>
    have d9_0 := grow_cell hT9 p0; have d9_1 := grow_cell hT9 p1
    go_simp
    exact hK9 _ (Grow.refl _)
  intro w9 hb9
  simp only [putL, Act.put, List.setIfInBounds_toArray, List.set_cons_succ, List.set_cons_zero]
  replace hbw := below6 hbw hb9
  go_wp2
  go_ret
  exact ⟨rfl, hbw⟩
theorem sees_no (g i : Nat) (s : ByteArray) (c : Int) (w : World) (ho : Sc9 w g s i) (hi : i < s.size) (hc : ((s[i]'hi).toNat : Int) ≠ c) :
    Calls Tryz.prog 146 #[.pointer (some ⟨g, 0, none⟩), .int .u8 c] w fun e w' => e = .returned (.bool false) ∧ Below w.heap.size w w' := by
  have p0 : w.cell? ⟨g, 0, none⟩ = some (.string s) := ho.cell 0
  have p1 : w.cell? ⟨g, 1, none⟩ = some (.int .i64 (i : Int)) := ho.cell 1
  have t1 : decide ((i : Int) < (s.size : Int)) = true := decide_eq_true (by omega)
  have t2 : decide (i < s.size) = true := decide_eq_true hi
  have t3 : (((s[i]'hi).toNat : Int) == c) = false := beq_eq_false_iff_ne.2 hc
  have hbw := Below.refl w.heap.size w
  go_enter Tryz.func146, Tryz.ntmps146
  go_upto_region 1 with (fail)
  refine wp_reg_f [some 5, some 6, some 7, some 8, some 9, some 10, some 11, some 12, some 13, some 14, some 15, some 16, some 17, some 18, some 19, some 20, some 21, some 22, some 23, some 24, some 25, some 26, some 27, some 4] [?v2_0, ?v2_1, ?v2_2, ?v2_3, ?v2_4, ?v2_5, ?v2_6, ?v2_7, ?v2_8, ?v2_9, ?v2_10, ?v2_11, ?v2_12, ?v2_13, ?v2_14, ?v2_15, ?v2_16, ?v2_17, ?v2_18, ?v2_19, ?v2_20, ?v2_21, ?v2_22, ?v2_23] [[], [0], [1], [2], [], [4], [5], [6], [7], [3, 8], [9], [10], [10, 11], [10, 12], [10, 13], [10], [10, 15], [10, 16], [10, 17], [10, 14, 18], [10], [10, 19, 20], [10, 21], [22]] [(0, _), (1, _)] ⟨rfl, rfl, trivial⟩ rfl (by kernel_rfl) rfl rfl (by kernel_rfl) (by kernel_rfl) ⟨?s2_0, ?s2_1, ?s2_2, ?s2_3, ?s2_4, ?s2_5, ?s2_6, ?s2_7, ?s2_8, ?s2_9, ?s2_10, ?s2_11, ?s2_12, ?s2_13, ?s2_14, ?s2_15, ?s2_16, ?s2_17, ?s2_18, ?s2_19, ?s2_20, ?s2_21, ?s2_22, ?s2_23, trivial⟩ ?p2
  all_goals try (intro t9 w9 hT9 K9 hK9; simp only [OV, FV, List.getD_cons_succ, List.getD_cons_zero, Option.getD_some]; intros)
  case s2_0 | s2_1 | s2_2 | s2_3 | s2_4 | s2_5 | s2_6 | s2_7 | s2_8 | s2_9 | s2_10 | s2_11 | s2_12 | s2_13 | s2_14 | s2_15 | s2_16 | s2_17 | s2_18 | s2_19 | s2_20 | s2_21 | s2_22 | s2_23 =>
    have d9_0 := grow_cell hT9 p0; have d9_1 := grow_cell hT9 p1
    go_simp
    exact hK9 _ (Grow.refl _)
  intro w9 hb9
  simp only [putL, Act.put, List.setIfInBounds_toArray, List.set_cons_succ, List.set_cons_zero]
  replace hbw := below6 hbw hb9
  go_wp2
  go_ret
  exact ⟨rfl, hbw⟩
theorem eat_yes (g i : Nat) (s : ByteArray) (c : Int) (w : World) (ho : Sc9 w g s i) (hi : i < s.size) (hs : s.size ≤ 1000) (hc : ((s[i]'hi).toNat : Int) = c) :
    Calls Tryz.prog 145 #[.pointer (some ⟨g, 0, none⟩), .int .u8 c] w fun e w' => e = .returned (.tuple #[]) ∧ Sc9 w' g s (i + 1) ∧ Chg (fun k => k = g) w w' := by
  have z1 : IntKind.i64.wrap ((i : Int) + 1) = ((i + 1 : Nat) : Int) := by rw [IntWalk.i64_in _ (by omega)]; omega
  go_enter Tryz.func145, Tryz.ntmps145
  go_wp2_with fail
  refine (sees_yes g i s c _ ho hi hc).mono ?_
  rintro e w1 ⟨rfl, hb1⟩
  have ho1 := ho.below hb1 ho.lt
  have p1 : w1.cell? ⟨g, 1, none⟩ = some (.int .i64 (i : Int)) := ho1.cell 1
  have f1 := ho1.frozen 1
  have hlt := ho.lt
  have hch : Chg (fun k => k = g) w w1 := Chg.of_below hb1 fun k h1 h2 => by omega
  go_wp2
  go_end0
  exact ⟨rfl, ho1.set_ 1 (.int .i64 ((i : Int) + 1)), hch.setCell (p := ⟨g, 1, none⟩) rfl _⟩
/-- The letter behind a name. -/
def EndN (s : ByteArray) (i : Nat) : Prop := ∃ h : i < s.size, ((s[i]'h).toNat : Int) < 65 ∧ (((s[i]'h).toNat : Int) < 45 ∨ 57 < ((s[i]'h).toNat : Int))
theorem name_yes (g i k : Nat) (s : ByteArray) (w : World) (ho : Sc9 w g s i) (hs : s.size ≤ 1000) (hk : 0 < k) (hk2 : k ≤ 32) (hl : Low s i k) (he : EndN s (i + k)) :
    Calls Tryz.prog 147 #[.pointer (some ⟨g, 0, none⟩)] w fun e w' => e = .returned (.string (s.extract i (i + k))) ∧ Sc9 w' g s (i + k) ∧ Chg (fun k => k = g) w w' := by
  have HL := Lib.hid hl
  have HE := Lib.hid he
  have hik : i + k < s.size := by obtain ⟨h, _⟩ := he; exact h
  clear hl he
  have hi : i < s.size := by omega
  have c0 := HL.out i hi (Nat.le_refl _) (by omega)
  have p0 : w.cell? ⟨g, 0, none⟩ = some (.string s) := ho.cell 0
  have p1 : w.cell? ⟨g, 1, none⟩ = some (.int .i64 (i : Int)) := ho.cell 1
  have t1 : ((i : Int) == (s.size : Int)) = false := beq_eq_false_iff_ne.2 (by omega)
  have t2 : decide ((i : Int) = (s.size : Int)) = false := decide_eq_false (by omega)
  have t3 : decide (i = s.size) = false := decide_eq_false (by omega)
  have t4 : (i == s.size) = false := beq_eq_false_iff_ne.2 (by omega)
  have hlt := ho.lt
  go_enter Tryz.func147, Tryz.ntmps147
  go_wp2_with fail
  refine (begins_low _ (by omega) (by omega) _).mono ?_
  rintro e w1 ⟨rfl, hb1⟩
  replace ho := ho.below hb1 ho.lt
  have hch : Chg (fun k => k = g) w w1 := Chg.of_below hb1 fun k h1 h2 => by omega
  clear hb1 p0 p1 c0 t1 t2 t3 t4
  go_wp2_with fail
  go_loopg [] k (fun qn wr => ∃ m : Nat, qn = i + k - m ∧ i ≤ m ∧ m ≤ i + k ∧ Sc9 wr g s m ∧ Chg (fun k => k = g) w wr)
  case atStart => exact ⟨i, by omega, Nat.le_refl _, by omega, ho, hch⟩
  case round =>
    clear ho hch
    obtain ⟨m, hqn, hm1, hm2, ho, hch⟩ := hrel
    have HQ := Lib.hid hqn
    clear hqn
    have hms : m < s.size := by omega
    have p0 : wr.cell? ⟨g, 0, none⟩ = some (.string s) := ho.cell 0
    have p1 : wr.cell? ⟨g, 1, none⟩ = some (.int .i64 (m : Int)) := ho.cell 1
    have t1 : decide ((m : Int) < (s.size : Int)) = true := decide_eq_true (by omega)
    have t2 : decide (m < s.size) = true := decide_eq_true hms
    have hltr := ho.lt
    by_cases hlk : m < i + k
    · have c0 := HL.out m hms hm1 hlk
      have C1 : Hid (97 ≤ ((s[m]'hms).toNat : Int)) := by show 97 ≤ _; omega
      have C2 : Hid (((s[m]'hms).toNat : Int) ≤ 122) := by show _ ≤ 122; omega
      have z1 : IntKind.i64.wrap ((m : Int) + 1) = (m : Int) + 1 := IntWalk.i64_in _ (by omega)
      clear c0
      go_upto_region 4 with (fail)
      refine wp_reg_f [some 28, some 29, some 30, some 31, some 32, some 33, some 34, some 35, some 36, some 37, some 38, some 39, some 40, some 41, some 42, some 43, some 44, some 45, some 46, some 47, some 48, some 49] [?v3_0, ?v3_1, ?v3_2, ?v3_3, ?v3_4, ?v3_5, ?v3_6, ?v3_7, ?v3_8, ?v3_9, ?v3_10, ?v3_11, ?v3_12, ?v3_13, ?v3_14, ?v3_15, ?v3_16, ?v3_17, ?v3_18, ?v3_19, ?v3_20, ?v3_21] [[], [0], [1], [2], [], [4], [5], [6], [7], [3, 8], [9], [10], [10, 11], [10, 12], [10, 13], [10], [10, 15], [10, 16], [10, 17], [10, 14, 18], [10, 19], [10, 20]] [(0, _)] ⟨rfl, trivial⟩ rfl (by kernel_rfl) rfl rfl (by kernel_rfl) (by kernel_rfl) ⟨?s3_0, ?s3_1, ?s3_2, ?s3_3, ?s3_4, ?s3_5, ?s3_6, ?s3_7, ?s3_8, ?s3_9, ?s3_10, ?s3_11, ?s3_12, ?s3_13, ?s3_14, ?s3_15, ?s3_16, ?s3_17, ?s3_18, ?s3_19, ?s3_20, ?s3_21, trivial⟩ ?p3
      all_goals try (intro t9 w9 hT9 K9 hK9; simp only [OV, FV, List.getD_cons_succ, List.getD_cons_zero, Option.getD_some]; intros)
      case s3_0 | s3_1 | s3_2 | s3_3 | s3_4 | s3_5 | s3_6 | s3_7 | s3_8 | s3_9 | s3_10 | s3_11 | s3_12 | s3_13 | s3_14 | s3_15 | s3_16 | s3_17 | s3_18 | s3_19 =>
        have d9_0 := grow_cell hT9 p0; have d9_1 := grow_cell hT9 p1
        go_simp
        exact hK9 _ (Grow.refl _)
      case s3_20 =>
        go_simp
        first | exact hK9 _ (Grow.refl _) | (refine (goesOn_low _ C1.out C2.out _).mono ?_; rintro _ w8 ⟨rfl, hb8⟩; exact hK9 _ hb8)
      case s3_21 =>
        have d9_0 := grow_cell hT9 p0; have d9_1 := grow_cell hT9 p1
        go_simp
        exact hK9 _ (Grow.refl _)
      intro w9 hb9
      simp only [putL, Act.put, List.setIfInBounds_toArray, List.set_cons_succ, List.set_cons_zero]
      replace ho := ho.below hb9 hltr
      replace hch := hch.trans (Chg.of_below hb9 fun k h1 h2 => by omega)
      clear hb9 p0 p1 t1 t2
      have p1 : w9.cell? ⟨g, 1, none⟩ = some (.int .i64 (m : Int)) := ho.cell 1
      have f1 := ho.frozen 1
      go_wp2
      go_roundg (i + k - (m + 1))
      case measure => have := HQ.out; omega
      case rel => exact ⟨m + 1, rfl, by omega, by omega, ho.set_ 1 (.int .i64 ((m : Int) + 1)), hch.setCell (p := ⟨g, 1, none⟩) rfl _⟩
    · have HMK : Hid (m = i + k) := by show m = i + k; omega
      have hE : EndN s m := by rw [HMK.out]; exact HE.out
      obtain ⟨e0, e1, e2⟩ := hE
      have C1 : Hid (((s[m]'hms).toNat : Int) < 65) := e1
      have C2 : Hid (((s[m]'hms).toNat : Int) < 45 ∨ 57 < ((s[m]'hms).toNat : Int)) := e2
      clear e1 e2 e0
      go_upto_region 4 with (fail)
      refine wp_reg_f [some 28, some 29, some 30, some 31, some 32, some 33, some 34, some 35, some 36, some 37, some 38, some 39, some 40, some 41, some 42, some 43, some 44, some 45, some 46, some 47, some 48, some 49] [?v4_0, ?v4_1, ?v4_2, ?v4_3, ?v4_4, ?v4_5, ?v4_6, ?v4_7, ?v4_8, ?v4_9, ?v4_10, ?v4_11, ?v4_12, ?v4_13, ?v4_14, ?v4_15, ?v4_16, ?v4_17, ?v4_18, ?v4_19, ?v4_20, ?v4_21] [[], [0], [1], [2], [], [4], [5], [6], [7], [3, 8], [9], [10], [10, 11], [10, 12], [10, 13], [10], [10, 15], [10, 16], [10, 17], [10, 14, 18], [10, 19], [10, 20]] [(0, _)] ⟨rfl, trivial⟩ rfl (by kernel_rfl) rfl rfl (by kernel_rfl) (by kernel_rfl) ⟨?s4_0, ?s4_1, ?s4_2, ?s4_3, ?s4_4, ?s4_5, ?s4_6, ?s4_7, ?s4_8, ?s4_9, ?s4_10, ?s4_11, ?s4_12, ?s4_13, ?s4_14, ?s4_15, ?s4_16, ?s4_17, ?s4_18, ?s4_19, ?s4_20, ?s4_21, trivial⟩ ?p4
      all_goals try (intro t9 w9 hT9 K9 hK9; simp only [OV, FV, List.getD_cons_succ, List.getD_cons_zero, Option.getD_some]; intros)
      case s4_0 | s4_1 | s4_2 | s4_3 | s4_4 | s4_5 | s4_6 | s4_7 | s4_8 | s4_9 | s4_10 | s4_11 | s4_12 | s4_13 | s4_14 | s4_15 | s4_16 | s4_17 | s4_18 | s4_19 =>
        have d9_0 := grow_cell hT9 p0; have d9_1 := grow_cell hT9 p1
        go_simp
        exact hK9 _ (Grow.refl _)
      case s4_20 =>
        go_simp
        first | exact hK9 _ (Grow.refl _) | (refine (goesOn_no _ C1.out C2.out _).mono ?_; rintro _ w8 ⟨rfl, hb8⟩; exact hK9 _ hb8)
      case s4_21 =>
        have d9_0 := grow_cell hT9 p0; have d9_1 := grow_cell hT9 p1
        go_simp
        exact hK9 _ (Grow.refl _)
      intro w9 hb9
      simp only [putL, Act.put, List.setIfInBounds_toArray, List.set_cons_succ, List.set_cons_zero]
      replace ho := ho.below hb9 hltr
      replace hch := hch.trans (Chg.of_below hb9 fun k h1 h2 => by omega)
      clear hb9 p0 p1 t1 t2 hltr
      have p0 : w9.cell? ⟨g, 0, none⟩ = some (.string s) := ho.cell 0
      have p1 : w9.cell? ⟨g, 1, none⟩ = some (.int .i64 (m : Int)) := ho.cell 1
      have z1 : IntKind.i64.wrap ((m : Int) - (i : Int)) = (k : Int) := by rw [IntWalk.i64_in _ (by have := HMK.out; omega)]; have := HMK.out; omega
      have t3 : decide ((k : Int) > 32) = false := decide_eq_false (by omega)
      have t4 : decide (32 < (k : Int)) = false := decide_eq_false (by omega)
      have t5 : decide (32 < k) = false := decide_eq_false (by omega)
      have hltr := ho.lt
      go_upto_region 8 with (fail)
      have hmz : m ≤ s.size := by omega
      refine wp_reg_f [some 67, some 68, some 69, some 70, some 71, some 72, some 73, some 74, some 75, some 76, some 2] [?v5_0, ?v5_1, ?v5_2, ?v5_3, ?v5_4, ?v5_5, ?v5_6, ?v5_7, ?v5_8, ?v5_9, ?v5_10] [[], [0], [1], [2], [], [], [5], [6], [7], [3, 4, 8], [9]] [(0, _), (3, _)] ⟨rfl, rfl, trivial⟩ rfl (by kernel_rfl) rfl rfl (by kernel_rfl) (by kernel_rfl) ⟨?s5_0, ?s5_1, ?s5_2, ?s5_3, ?s5_4, ?s5_5, ?s5_6, ?s5_7, ?s5_8, ?s5_9, ?s5_10, trivial⟩ ?p5
      all_goals try (intro t9 w9 hT9 K9 hK9; simp only [OV, FV, List.getD_cons_succ, List.getD_cons_zero, Option.getD_some]; intros)
      case s5_0 | s5_1 | s5_2 | s5_3 | s5_4 | s5_5 | s5_6 | s5_7 | s5_8 | s5_9 | s5_10 =>
        have d9_0 := grow_cell hT9 p0; have d9_1 := grow_cell hT9 p1
        go_simp
        exact hK9 _ (Grow.refl _)
      intro w9 hb9
      simp only [putL, Act.put, List.setIfInBounds_toArray, List.set_cons_succ, List.set_cons_zero]
      replace ho := ho.below hb9 hltr
      replace hch := hch.trans (Chg.of_below hb9 fun k h1 h2 => by omega)
      clear hb9
      go_wp2
      go_ret
      rw [← HMK.out]
      exact ⟨rfl, ho, hch⟩
set_option linter.unusedSimpArgs false
set_option linter.unusedVariables false
set_option linter.unusedSectionVars false
open Go.RowKit Dg

set_option maxRecDepth 100000 in
set_option maxHeartbeats 4000000 in
theorem unescape_one (s : ByteArray) (hs : s.size = 1) (x : UInt8) (hx : s[0]'(by omega) = x) (hc : x.toNat ≠ 38) : RetV 117 #[.string s] (.tuple #[.string s, .int .i64 0, .int .i64 0]) := by
  intro w
  obtain ⟨i0, hi0, hz0, hz1, hz2⟩ := info_parts byte_info
  have t1 : (((s[0]'(by omega)).toNat : Int) == 38) = false := beq_eq_false_iff_ne.2 (by rw [hx]; omega)
  have t2 : ((s[0]'(by omega)).toNat == 38) = false := beq_eq_false_iff_ne.2 (by rw [hx]; omega)
  have t3 : (((s[0]'(by omega)).toNat : Int) != 38) = true := by rw [bne, t1]; rfl
  have h63 : 0 + 1 ≤ maxLen := by unfold maxLen; omega
  have hown := World.ownsRow_nil w w.heap.size 5 1
  have HOW := Lib.hid hown
  have HX := Lib.hid hx
  clear hown hx hc
  have d1 : decide ((0 : Int) < (s.size : Int)) = true := decide_eq_true (by omega)
  have d2 : decide (0 < s.size) = true := decide_eq_true (by omega)
  have d3 : decide ((1 : Int) < (s.size : Int)) = false := decide_eq_false (by omega)
  have d4 : decide (1 < s.size) = false := decide_eq_false (by omega)
  have d5 : 0 < s.size := by omega
  go_enter Tryz.func117, Tryz.ntmps117
  go_wp2_with fail
  refine wp_loop_rounds 2 ?_
  rw [rounds_succ]
  go_wp2_with (at_builtin; refine wpList_append_own_at _ rfl (.tmp 17) (.tmp 21) 39 rfl w.heap.size 5 i0 _ 1 1 Tryz.underlying39 hi0 hz0 hz1 hz2 rfl (by decide) _ 0 [] rfl (HOW.out.alloc _) ⟨w.heap.size, 0, none⟩ 1 1 [.int .u8 ((s[0]'d5).toNat : Int)] rfl rfl (new_cells _ _ _ _ rfl) (by simp [Value.oneCell']) h63 (by omega) (by rw [size1]; omega) ?_)
  intro v' w' hown' hgrow _ hat
  have hbw : Below w.heap.size w w' := ((Below.refl w.heap.size w).alloc (Nat.le_refl _) _).grown hgrow (by rw [size1]; omega) (own_lt HOW.out)
  obtain ⟨g, cap, rfl, -, -⟩ := hown'.form (by decide)
  have hl : s.data.toList.length = 1 := by rw [← hs]; simp
  have hback : (convert 39 9 (.slice (some ⟨g, 0, none⟩) 1 cap)).run Tryz.prog w' = .ok (.string s) w' := by
    have h := run_convert_bytes_back (P := Tryz.prog) w' 39 9 5 ⟨g, 0, none⟩ cap s.data.toList Tryz.underlying39 Tryz.underlying5 Tryz.underlying9 (by
      intro j hj
      have hj0 : j = 0 := by omega
      subst hj0
      rw [Addr.add_lit, Nat.zero_add, hown'.cellAt 0 (by decide)]
      rfl)
    rw [hl] at h
    exact h
  clear hgrow hat hl
  go_wp2_with fail
  rw [rounds_succ]
  go_wp2
  go_ret3
  exact ⟨rfl, hbw⟩
set_option linter.unusedSimpArgs false
set_option linter.unusedVariables false
set_option linter.unusedSectionVars false
open Go.RowKit Dg

set_option maxRecDepth 100000 in
set_option maxHeartbeats 4000000 in
theorem validValue_one (s : ByteArray) (hs : s.size = 1) (x : UInt8) (hx : s[0]'(by omega) = x) (h1 : 32 ≤ x.toNat) (h2 : x.toNat < 127) (hv : RetV 13 #[.string s] (.bool true)) : RetV 127 #[.string s] (.int .i64 0) := by
  intro w
  have HV := Lib.hid hv
  have HX := Lib.hid hx
  have t1 : decide (((s[0]'(by omega)).toNat : Int) ≤ 31) = false := decide_eq_false (by rw [hx]; omega)
  have t2 : decide ((s[0]'(by omega)).toNat ≤ 31) = false := decide_eq_false (by rw [hx]; omega)
  have t3 : (((s[0]'(by omega)).toNat : Int) == 127) = false := beq_eq_false_iff_ne.2 (by rw [hx]; omega)
  have t4 : ((s[0]'(by omega)).toNat == 127) = false := beq_eq_false_iff_ne.2 (by rw [hx]; omega)
  have HA : Hid ((s[0]'(by omega)).toNat < 128) := by show _ < 128; rw [hx]; omega
  clear hv hx h1 h2
  have d1 : decide ((s.size : Int) > 120) = false := decide_eq_false (by omega)
  have d2 : decide ((120 : Int) < (s.size : Int)) = false := decide_eq_false (by omega)
  have d3 : decide (120 < s.size) = false := decide_eq_false (by omega)
  go_enter Tryz.func127, Tryz.ntmps127
  go_wp2_with fail
  refine (HV.out _).mono ?_
  rintro e w1 ⟨rfl, hb1⟩
  go_wp2_with fail
  have d5 : 0 < s.size := by omega
  have hit : (w1.iter s 0).heap[w1.heap.size]? = some (.stringIter s 0) := World.iter_heap w1 s 0
  have hb2 : Below w1.heap.size w1 (w1.iter s 0) := (Below.refl _ w1).alloc (Nat.le_refl _) _
  generalize w1.iter s 0 = w2 at hit hb2 ⊢
  have hbw := below6 hb1 hb2
  clear hb2
  have hnx : ∀ ty, (Instr.next (.pointer (some ⟨w1.heap.size, 0, none⟩)) true ty).run Tryz.prog w2 = _ := fun ty => Lib.run_next_ascii_at w2 w1.heap.size s 0 ty hit d5 HA.out
  have hit2 := Lib.iterAt_heap w2 w1.heap.size s 0 (0 + 1) hit
  have hb3 := Lib.below_iterAt hbw (k := w1.heap.size) hb1.size s (0 + 1)
  refine wp_loop_rounds 2 ?_
  rw [rounds_succ]
  go_wp2
  generalize hw3 : w2.iterAt w1.heap.size s (0 + 1) = w3 at hit2 hb3 ⊢
  have hnx2 : ∀ ty, (Instr.next (.pointer (some ⟨w1.heap.size, 0, none⟩)) true ty).run Tryz.prog w3 = _ := fun ty => Lib.run_next_end_at w3 w1.heap.size s (0 + 1) ty hit2 (by omega)
  clear hnx
  rw [rounds_succ]
  go_wp2
  go_ret
  exact ⟨rfl, hb3⟩
end Go.Proofs.YtfenjklilocjgaaGreatDoor
