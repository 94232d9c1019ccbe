/- Parts of the proof: Aw, As. No condition of its own. -/
import Derived.Test.YtfenjklilocjgaaGreatDoorAu
set_option linter.unusedSimpArgs false
set_option linter.unusedVariables false
set_option linter.unusedSectionVars false
namespace Go.Proofs.YtfenjklilocjgaaGreatDoor
set_option linter.unusedSimpArgs false
set_option linter.unusedVariables false
set_option linter.unusedSectionVars false
open Go.RowKit Dg

theorem Chg.bel {S : Nat → Prop} {w w' w2 : World} (h : Chg S w w') (hb : Below w'.heap.size w' w2) : Chg S w w2 := h.trans (Chg.of_below hb fun k h1 h2 => by omega)
theorem Chg.fresh9 {S : Nat → Prop} {w w' : World} (h : Chg S w w') {g : Nat} (hg : w.heap.size ≤ g) (i : Nat) (u : Value) : Chg S w (w'.setCell ⟨g, i, none⟩ u) :=
  ⟨h.os, h.tape, h.output, by have := h.size; simpa [World.setCell] using this, fun k hk hs => (Below.heap_setCell _ _ _ _ (fun e => by have e2 : k = g := e; omega)).trans (h.block k hk hs)⟩
theorem vv_one (s : ByteArray) (hs : s.size = 1) (h1 : 32 ≤ (s[0]'(by omega)).toNat) (h2 : (s[0]'(by omega)).toNat < 127) : RetV 127 #[.string s] (.int .i64 0) :=
  validValue_one s hs _ rfl h1 h2 (cpValid_one s hs (by omega))
theorem extract_one {s : ByteArray} {i : Nat} (h : i < s.size) : ∃ hs : (s.extract i (i + 1)).size = 1, (s.extract i (i + 1))[0]'(by omega) = s[i]'h := by
  have hs : (s.extract i (i + 1)).size = 1 := by simp only [ByteArray.size_extract]; omega
  refine ⟨hs, ?_⟩
  rw [ByteArray.getElem_extract]
  simp
set_option maxRecDepth 100000 in
set_option maxHeartbeats 4000000 in
theorem value_one (g i : Nat) (s : ByteArray) (w : World) (ho : Sc9 w g s i) (hs : s.size ≤ 1000) (h1 : i + 1 < s.size) (x : Nat) (hx : (s[i]'(by omega)).toNat = x) (hx1 : 65 ≤ x) (hx2 : x < 127) (h2 : (s[i + 1]'h1).toNat = 34) :
    Calls Tryz.prog 158 #[.pointer (some ⟨g, 0, none⟩)] w fun e w' => e = .returned (.string (s.extract i (i + 1))) ∧ Sc9 w' g s (i + 2) ∧ Chg (fun k => k = g) w w' := by
  have hi : i < s.size := by omega
  obtain ⟨he1, he2⟩ := extract_one hi
  have HU := Lib.hid (unescape_one (s.extract i (i + 1)) he1 _ rfl (by rw [he2]; omega))
  have HV := Lib.hid (vv_one (s.extract i (i + 1)) he1 (by rw [he2]; omega) (by rw [he2]; omega))
  clear he1 he2
  obtain ⟨j, hj⟩ : ∃ j : Nat, j = i + 1 := ⟨_, rfl⟩
  obtain ⟨m, hm⟩ : ∃ m : Nat, m = i + 2 := ⟨_, rfl⟩
  rw [← hj] at HU HV ⊢
  rw [← hm]
  have H2 : Hid (∃ h : j < s.size, (s[j]'h).toNat = 34) := by subst hj; exact ⟨h1, h2⟩
  have HM : Hid (m = j + 1) := by show m = j + 1; omega
  have HJ := Lib.hid hj
  have hjs : j < s.size := by omega
  have hms : m ≤ s.size := by omega
  have a1 : (((s[i]'hi).toNat : Int) != 34) = true := by rw [bne, beq_eq_false_iff_ne.2 (by omega)]; rfl
  have a2 : (((s[i]'hi).toNat : Int) != 60) = true := by rw [bne, beq_eq_false_iff_ne.2 (by omega)]; rfl
  have a3 : (((s[i]'hi).toNat : Int) != 62) = true := by rw [bne, beq_eq_false_iff_ne.2 (by omega)]; rfl
  have a4 : (((s[i]'hi).toNat : Int) == 34) = false := beq_eq_false_iff_ne.2 (by omega)
  have a5 : (((s[i]'hi).toNat : Int) == 60) = false := beq_eq_false_iff_ne.2 (by omega)
  have a6 : (((s[i]'hi).toNat : Int) == 62) = false := beq_eq_false_iff_ne.2 (by omega)
  have p0 : w.cell? ⟨g, 0, none⟩ = some (.string s) := ho.cell 0
  have p1 : w.cell? ⟨g, 1, none⟩ = some (.int .i64 (i : Int)) := ho.cell 1
  have t1 : decide ((i : Int) < (s.size : Int)) = true := decide_eq_true (by omega)
  have t2 : decide (i < s.size) = true := decide_eq_true hi
  have z1 : IntKind.i64.wrap ((i : Int) + 1) = (i : Int) + 1 := IntWalk.i64_in _ (by omega)
  have hlt := ho.lt
  clear hx hx1 hx2 h2 hj hm h1
  go_enter Tryz.func158, Tryz.ntmps158
  go_wp2_with fail
  refine wp_loop_rounds 2 ?_
  rw [rounds_succ]
  go_upto_region 2 with (fail)
  refine wp_reg_f (some 12 :: some 13 :: some 14 :: some 15 :: some 16 :: some 17 :: some 18 :: some 19 :: some 20 :: some 21 :: some 22 :: some 23 :: some 24 :: some 25 :: some 26 :: some 27 :: some 28 :: some 29 :: some 30 :: some 31 :: some 32 :: some 33 :: some 34 :: some 35 :: some 36 :: some 37 :: some 38 :: some 39 :: some 40 :: some 41 :: some 42 :: some 43 :: some 44 :: some 45 :: some 46 :: some 47 :: some 48 :: some 49 :: some 50 :: some 51 :: some 52 :: some 53 :: some 54 :: some 55 :: some 56 :: some 57 :: []) (?v1_0 :: ?v1_1 :: ?v1_2 :: ?v1_3 :: ?v1_4 :: ?v1_5 :: ?v1_6 :: ?v1_7 :: ?v1_8 :: ?v1_9 :: ?v1_10 :: ?v1_11 :: ?v1_12 :: ?v1_13 :: ?v1_14 :: ?v1_15 :: ?v1_16 :: ?v1_17 :: ?v1_18 :: ?v1_19 :: ?v1_20 :: ?v1_21 :: ?v1_22 :: ?v1_23 :: ?v1_24 :: ?v1_25 :: ?v1_26 :: ?v1_27 :: ?v1_28 :: ?v1_29 :: ?v1_30 :: ?v1_31 :: ?v1_32 :: ?v1_33 :: ?v1_34 :: ?v1_35 :: ?v1_36 :: ?v1_37 :: ?v1_38 :: ?v1_39 :: ?v1_40 :: ?v1_41 :: ?v1_42 :: ?v1_43 :: ?v1_44 :: ?v1_45 :: []) [[], [0], [1], [2], [], [4], [5], [6], [7], [3, 8], [9], [10], [10, 11], [10, 12], [10, 13], [10], [10, 15], [10, 16], [10, 17], [10, 14, 18], [10, 19], [10, 20], [21], [22], [22, 23], [22, 24], [22, 25], [22], [22, 27], [22, 28], [22, 29], [22, 26, 30], [22, 31], [22, 32], [33], [34], [34, 35], [34, 36], [34, 37], [34], [34, 39], [34, 40], [34, 41], [34, 38, 42], [34, 43], [34, 44]] [(0, _)] ⟨rfl, trivial⟩ rfl (by kernel_rfl) rfl rfl (by kernel_rfl) (by kernel_rfl) ⟨?s1_0, ?s1_1, ?s1_2, ?s1_3, ?s1_4, ?s1_5, ?s1_6, ?s1_7, ?s1_8, ?s1_9, ?s1_10, ?s1_11, ?s1_12, ?s1_13, ?s1_14, ?s1_15, ?s1_16, ?s1_17, ?s1_18, ?s1_19, ?s1_20, ?s1_21, ?s1_22, ?s1_23, ?s1_24, ?s1_25, ?s1_26, ?s1_27, ?s1_28, ?s1_29, ?s1_30, ?s1_31, ?s1_32, ?s1_33, ?s1_34, ?s1_35, ?s1_36, ?s1_37, ?s1_38, ?s1_39, ?s1_40, ?s1_41, ?s1_42, ?s1_43, ?s1_44, ?s1_45, trivial⟩ ?p1
  all_goals try (intro t9 w9 hT9 K9 hK9; simp only [OV, FV, List.getD_cons_succ, List.getD_cons_zero, Option.getD_some]; intros)
  case s1_0 | s1_1 | s1_2 | s1_3 | s1_4 | s1_5 | s1_6 | s1_7 | s1_8 | s1_9 | s1_10 | s1_11 | s1_12 | s1_13 | s1_14 | s1_15 | s1_16 | s1_17 | s1_18 | s1_19 | s1_20 | s1_21 | s1_22 | s1_23 | s1_24 | s1_25 | s1_26 | s1_27 | s1_28 | s1_29 | s1_30 | s1_31 | s1_32 | s1_33 | s1_34 | s1_35 | s1_36 | s1_37 | s1_38 | s1_39 | s1_40 | s1_41 | s1_42 | s1_43 | s1_44 | s1_45 =>
    have d9_0 := grow_cell hT9 p0; have d9_1 := grow_cell hT9 p1
    go_simp
    exact hK9 _ (Grow.refl _)
  intro w9 hb9
  simp only [putL, Act.put, List.setIfInBounds_toArray, List.set_cons_succ, List.set_cons_zero]
  replace ho := ho.below hb9 hlt
  have hch : Chg (fun k => k = g) w w9 := Chg.of_below hb9 fun k h1 h2 => by omega
  clear hb9 p0 p1
  have p1 : w9.cell? ⟨g, 1, none⟩ = some (.int .i64 (i : Int)) := ho.cell 1
  have f1 := ho.frozen 1
  have hlt9 := ho.lt
  have o2 : Sc9 (w9.setCell ⟨g, 1, none⟩ (.int .i64 ((i : Int) + 1))) g s j := by rw [HJ.out]; exact ho.set_ 1 _
  have hch2 := hch.setCell (p := ⟨g, 1, none⟩) rfl (.int .i64 ((i : Int) + 1))
  go_wp2_with fail
  generalize (w9.setCell ⟨g, 1, none⟩ (.int .i64 ((i : Int) + 1))) = wa at o2 hch2 ⊢
  clear p1 f1 hlt9 ho hch a1 a2 a3 a4 a5 a6 t1 t2 z1 hlt
  obtain ⟨h9, hs9⟩ := H2.out
  have b1 : (((s[j]'hjs).toNat : Int) != 34) = false := by rw [bne, beq_iff_eq.2 (by omega)]; rfl
  have b2 : (((s[j]'hjs).toNat : Int) == 34) = true := beq_iff_eq.2 (by omega)
  clear hs9 h9
  have t1 : decide ((j : Int) < (s.size : Int)) = true := decide_eq_true (by omega)
  have t2 : decide (j < s.size) = true := decide_eq_true hjs
  have p0 : wa.cell? ⟨g, 0, none⟩ = some (.string s) := o2.cell 0
  have p1 : wa.cell? ⟨g, 1, none⟩ = some (.int .i64 (j : Int)) := o2.cell 1
  rw [rounds_succ]
  go_upto_region 2 with (fail)
  refine wp_reg_f (some 12 :: some 13 :: some 14 :: some 15 :: some 16 :: some 17 :: some 18 :: some 19 :: some 20 :: some 21 :: some 22 :: some 23 :: some 24 :: some 25 :: some 26 :: some 27 :: some 28 :: some 29 :: some 30 :: some 31 :: some 32 :: some 33 :: some 34 :: some 35 :: some 36 :: some 37 :: some 38 :: some 39 :: some 40 :: some 41 :: some 42 :: some 43 :: some 44 :: some 45 :: some 46 :: some 47 :: some 48 :: some 49 :: some 50 :: some 51 :: some 52 :: some 53 :: some 54 :: some 55 :: some 56 :: some 57 :: []) (?v2_0 :: ?v2_1 :: ?v2_2 :: ?v2_3 :: ?v2_4 :: ?v2_5 :: ?v2_6 :: ?v2_7 :: ?v2_8 :: ?v2_9 :: ?v2_10 :: ?v2_11 :: ?v2_12 :: ?v2_13 :: ?v2_14 :: ?v2_15 :: ?v2_16 :: ?v2_17 :: ?v2_18 :: ?v2_19 :: ?v2_20 :: ?v2_21 :: ?v2_22 :: ?v2_23 :: ?v2_24 :: ?v2_25 :: ?v2_26 :: ?v2_27 :: ?v2_28 :: ?v2_29 :: ?v2_30 :: ?v2_31 :: ?v2_32 :: ?v2_33 :: ?v2_34 :: ?v2_35 :: ?v2_36 :: ?v2_37 :: ?v2_38 :: ?v2_39 :: ?v2_40 :: ?v2_41 :: ?v2_42 :: ?v2_43 :: ?v2_44 :: ?v2_45 :: []) [[], [0], [1], [2], [], [4], [5], [6], [7], [3, 8], [9], [10], [10, 11], [10, 12], [10, 13], [10], [10, 15], [10, 16], [10, 17], [10, 14, 18], [10, 19], [10, 20], [21], [22], [22, 23], [22, 24], [22, 25], [22], [22, 27], [22, 28], [22, 29], [22, 26, 30], [22, 31], [22, 32], [33], [34], [34, 35], [34, 36], [34, 37], [34], [34, 39], [34, 40], [34, 41], [34, 38, 42], [34, 43], [34, 44]] [(0, _)] ⟨rfl, trivial⟩ rfl (by kernel_rfl) rfl rfl (by kernel_rfl) (by kernel_rfl) ⟨?s2_0, ?s2_1, ?s2_2, ?s2_3, ?s2_4, ?s2_5, ?s2_6, ?s2_7, ?s2_8, ?s2_9, ?s2_10, ?s2_11, ?s2_12, ?s2_13, ?s2_14, ?s2_15, ?s2_16, ?s2_17, ?s2_18, ?s2_19, ?s2_20, ?s2_21, ?s2_22, ?s2_23, ?s2_24, ?s2_25, ?s2_26, ?s2_27, ?s2_28, ?s2_29, ?s2_30, ?s2_31, ?s2_32, ?s2_33, ?s2_34, ?s2_35, ?s2_36, ?s2_37, ?s2_38, ?s2_39, ?s2_40, ?s2_41, ?s2_42, ?s2_43, ?s2_44, ?s2_45, trivial⟩ ?p2
  all_goals try (intro t9 w9 hT9 K9 hK9; simp only [OV, FV, List.getD_cons_succ, List.getD_cons_zero, Option.getD_some]; intros)
  case s2_0 | s2_1 | s2_2 | s2_3 | s2_4 | s2_5 | s2_6 | s2_7 | s2_8 | s2_9 | s2_10 | s2_11 | s2_12 | s2_13 | s2_14 | s2_15 | s2_16 | s2_17 | s2_18 | s2_19 | s2_20 | s2_21 | s2_22 | s2_23 | s2_24 | s2_25 | s2_26 | s2_27 | s2_28 | s2_29 | s2_30 | s2_31 | s2_32 | s2_33 | s2_34 | s2_35 | s2_36 | s2_37 | s2_38 | s2_39 | s2_40 | s2_41 | s2_42 | s2_43 | s2_44 | s2_45 =>
    have d9_0 := grow_cell hT9 p0; have d9_1 := grow_cell hT9 p1
    go_simp
    exact hK9 _ (Grow.refl _)
  intro w9 hb9
  simp only [putL, Act.put, List.setIfInBounds_toArray, List.set_cons_succ, List.set_cons_zero]
  replace o2 := o2.below hb9 o2.lt
  replace hch2 := hch2.bel hb9
  clear hb9 p0 p1
  go_wp2_with fail
  refine (eat_yes g j s 34 _ o2 hjs hs (by obtain ⟨h9, hs9⟩ := H2.out; rw [hs9]; rfl)).mono ?_
  rintro e wb ⟨rfl, o3, hc3⟩
  have hch3 := hch2.trans hc3
  rw [← HM.out] at o3
  clear o2 hch2 hc3 b1 b2 t1 t2
  have p0 : wb.cell? ⟨g, 0, none⟩ = some (.string s) := o3.cell 0
  have p1 : wb.cell? ⟨g, 1, none⟩ = some (.int .i64 (m : Int)) := o3.cell 1
  have z1 : IntKind.i64.wrap ((m : Int) - 1) = (j : Int) := by rw [IntWalk.i64_in _ (by omega)]; have := HM.out; omega
  have c1 : i ≤ j := by have := HJ.out; omega
  have c2 : j ≤ s.size := by omega
  go_upto_region 5 with (fail)
  refine wp_reg_f [some 68, some 69, some 70, some 71, some 72, some 73, some 74, some 75, some 76, some 77, some 78, some 79, some 67, some 80, some 81, some 82, some 4, some 5, some 6] [?v3_0, ?v3_1, ?v3_2, ?v3_3, ?v3_4, ?v3_5, ?v3_6, ?v3_7, ?v3_8, ?v3_9, ?v3_10, ?v3_11, ?v3_12, ?v3_13, ?v3_14, ?v3_15, ?v3_16, ?v3_17, ?v3_18] [[], [0], [1], [2], [], [], [5], [6], [7], [8], [3, 4, 9], [10], [11], [12], [12], [12], [13], [14], [15]] [(0, _), (3, _)] ⟨rfl, rfl, trivial⟩ rfl (by kernel_rfl) rfl rfl (by kernel_rfl) (by kernel_rfl) ⟨?s3_0, ?s3_1, ?s3_2, ?s3_3, ?s3_4, ?s3_5, ?s3_6, ?s3_7, ?s3_8, ?s3_9, ?s3_10, ?s3_11, ?s3_12, ?s3_13, ?s3_14, ?s3_15, ?s3_16, ?s3_17, ?s3_18, trivial⟩ ?p3
  all_goals try (intro t9 w9 hT9 K9 hK9; simp only [OV, FV, List.getD_cons_succ, List.getD_cons_zero, Option.getD_some]; intros)
  case s3_0 | s3_1 | s3_2 | s3_3 | s3_4 | s3_5 | s3_6 | s3_7 | s3_8 | s3_9 | s3_10 =>
    have d9_0 := grow_cell hT9 p0; have d9_1 := grow_cell hT9 p1
    go_simp
    exact hK9 _ (Grow.refl _)
  case s3_11 =>
    go_simp
    first | exact hK9 _ (Grow.refl _) | (refine (HU.out _).mono ?_; rintro _ w8 ⟨rfl, hb8⟩; exact hK9 _ hb8)
  case s3_12 | s3_13 | s3_14 | s3_15 | s3_16 | s3_17 | s3_18 =>
    have d9_0 := grow_cell hT9 p0; have d9_1 := grow_cell hT9 p1
    go_simp
    exact hK9 _ (Grow.refl _)
  intro w9 hb9
  simp only [putL, Act.put, List.setIfInBounds_toArray, List.set_cons_succ, List.set_cons_zero]
  replace o3 := o3.below hb9 o3.lt
  replace hch3 := hch3.bel hb9
  clear hb9 p0 p1
  go_wp2_with fail
  refine (HV.out _).mono ?_
  rintro e wc ⟨rfl, hbc⟩
  go_wp2
  go_ret
  exact ⟨rfl, o3.below hbc o3.lt, hch3.bel hbc⟩
theorem has_nil (n : ByteArray) : RetV 157 #[.slice none 0 0, .string n] (.bool false) := by
  intro w
  go_enter Tryz.func157, Tryz.ntmps157
  go_wp2_with fail
  refine wp_loop_rounds 1 ?_
  rw [rounds_succ]
  go_wp2
  go_ret
  exact ⟨rfl, Below.refl _ _⟩
set_option maxRecDepth 100000 in
set_option maxHeartbeats 4000000 in
theorem key_one (g i k : Nat) (s : ByteArray) (w : World) (ho : Sc9 w g s i) (hs : s.size ≤ 1000) (hk : 0 < k) (hk2 : k ≤ 32) (hl : Low s i k) (h1 : i + k + 3 < s.size) (he : (s[i + k]'(by omega)).toNat = 61) (hq : (s[i + k + 1]'(by omega)).toNat = 34)
    (hx1 : 65 ≤ (s[i + k + 2]'(by omega)).toNat) (hx2 : (s[i + k + 2]'(by omega)).toNat < 127) (h2 : (s[i + k + 3]'h1).toNat = 34) :
    Calls Tryz.prog 148 #[.pointer (some ⟨g, 0, none⟩), .slice none 0 0] w fun e w' => e = .returned (.agg #[.string (s.extract i (i + k)), .string (s.extract (i + k + 2) (i + k + 2 + 1))]) ∧ Sc9 w' g s (i + k + 2 + 2) ∧ Chg (fun k => k = g) w w' := by
  have hEnd : EndN s (i + k) := ⟨by omega, by rw [he]; decide, by rw [he]; decide⟩
  have HN := Lib.hid (fun w ho => name_yes g i k s w ho hs hk hk2 hl hEnd)
  have HE := Lib.hid (fun w ho => eat_yes g (i + k) s 61 w ho (by omega) hs (by rw [he]; rfl))
  have HQ := Lib.hid (fun w ho => eat_yes g (i + k + 1) s 34 w ho (by omega) hs (by rw [hq]; rfl))
  have HV := Lib.hid (fun w ho => value_one g (i + k + 2) s w ho hs h1 _ rfl hx1 hx2 h2)
  clear hEnd hl he hq hx1 hx2 h2 hk hk2
  have hlt := ho.lt
  obtain ⟨o_r, hbw⟩ := new1 w [.string ⟨#[]⟩, .string ⟨#[]⟩] 105
  have ho1 := ho.below hbw hlt
  go_enter Tryz.func148, Tryz.ntmps148
  go_upto_region 1 with (fail)
  generalize (w.alloc (.cells #[.string ⟨#[]⟩, .string ⟨#[]⟩] 105)) = wb at o_r hbw ho1 ⊢
  have p1 : wb.cell? ⟨g, 1, none⟩ = some (.int .i64 (i : Int)) := ho1.cell 1
  have hch : Chg (fun k => k = g) w wb := Chg.of_below hbw fun k h1 h2 => by omega
  have hne : w.heap.size ≠ g := by omega
  go_wp2_with fail
  refine (HN.out _ ho1).mono ?_
  rintro e w1 ⟨rfl, o1, hc1⟩
  replace o_r := hc1.own o_r hne
  replace hch := hch.trans hc1
  clear p1 ho1 hc1
  go_wp2_with fail
  refine (has_nil _ _).mono ?_
  rintro e w2 ⟨rfl, hb2⟩
  replace o_r := o_r.below hb2 o_r.lt
  replace o1 := o1.below hb2 o1.lt
  replace hch := hch.bel hb2
  clear hb2
  go_wp2_with fail
  refine (HE.out _ o1).mono ?_
  rintro e w3 ⟨rfl, o3, hc3⟩
  replace o_r := hc3.own o_r hne
  replace hch := hch.trans hc3
  clear hc3 o1
  go_wp2_with fail
  refine (HQ.out _ o3).mono ?_
  rintro e w4 ⟨rfl, o4, hc4⟩
  replace o_r := hc4.own o_r hne
  replace hch := hch.trans hc4
  clear hc4 o3
  go_wp2_with fail
  refine (HV.out _ o4).mono ?_
  rintro e w5 ⟨rfl, o5, hc5⟩
  replace o_r := hc5.own o_r hne
  replace hch := hch.trans hc5
  clear hc5 o4
  have q0 : w5.cell? ⟨w.heap.size, 0, none⟩ = some (.string ⟨#[]⟩) := o_r.cell 0
  have q1 : w5.cell? ⟨w.heap.size, 1, none⟩ = some (.string ⟨#[]⟩) := o_r.cell 1
  have f0 := o_r.frozen 0
  have f1 := o_r.frozen 1
  have hne2 : g ≠ w.heap.size := by omega
  have o_z := (o_r.set_ 0 (.string (s.extract i (i + k)))).set_ 1 (.string (s.extract (i + k + 2) (i + k + 2 + 1)))
  have o_y := (o5.far (p := ⟨w.heap.size, 0, none⟩) hne2 (.string (s.extract i (i + k)))).far (p := ⟨w.heap.size, 1, none⟩) hne2 (.string (s.extract (i + k + 2) (i + k + 2 + 1)))
  have hcz := (hch.fresh9 (g := w.heap.size) (Nat.le_refl _) 0 (.string (s.extract i (i + k)))).fresh9 (g := w.heap.size) (Nat.le_refl _) 1 (.string (s.extract (i + k + 2) (i + k + 2 + 1)))
  go_wp2
  generalize ((w5.setCell ⟨w.heap.size, 0, none⟩ (.string (s.extract i (i + k)))).setCell ⟨w.heap.size, 1, none⟩ (.string (s.extract (i + k + 2) (i + k + 2 + 1)))) = wz at o_z o_y hcz ⊢
  have z0 : wz.cell? ⟨w.heap.size, 0, none⟩ = some (.string (s.extract i (i + k))) := o_z.cell 0
  have z1 : wz.cell? ⟨w.heap.size, 1, none⟩ = some (.string (s.extract (i + k + 2) (i + k + 2 + 1))) := o_z.cell 1
  exact bodyPost_ret (v := .agg #[.string (s.extract i (i + k)), .string (s.extract (i + k + 2) (i + k + 2 + 1))]) (by simp [results, Tryz.results148, go_sem, z0, z1]) rfl ⟨rfl, o_y, hcz⟩
set_option linter.unusedSimpArgs false
set_option linter.unusedVariables false
set_option linter.unusedSectionVars false
open Go.RowKit Dg

open Go in
theorem run_copy_zero {P : Program} (w : World) (dT sT ty elem : TypeId) (d a : Option Addr) (dLen dCap sLen sCap : Nat) (hu : P.underlying dT = some (.slice elem)) (hs : ((P.info? elem).map (·.size)).isSome = true) (hn : Nat.min sLen dLen = 0) :
    (Builtin.copy_ #[dT, sT] ty #[.slice d dLen dCap, .slice a sLen sCap]).run P w = .ok (.int .i64 0) w := by
  cases hq : P.info? elem with
  | none => simp [hq] at hs
  | some i =>
    have hl : ∀ (x : Addr), (loadCells x 0).run P w = .ok #[] w := fun x => by simpa using run_loadCells_list (P := P) w x [] (by simp)
    cases d <;> cases a <;> simp [Builtin.copy_, run_underlying hu, Builtin.lenOf, Builtin.firstCells, sizeOf, typeInfo, hq, hn, storeCells, hl, goInt]
theorem sorted_nil : RetV 149 #[.slice none 0 0] (.slice none 0 0) := by
  intro w
  go_enter Tryz.func149, Tryz.ntmps149
  go_wp2_with fail
  refine wp_loop_rounds 1 ?_
  rw [rounds_succ]
  go_wp2
  go_ret
  exact ⟨rfl, Below.refl _ _⟩
theorem pair_info : (Tryz.prog.info? 105).map (fun i => (i.zero, i.size, i.bytes)) = some (some (.agg #[.string ⟨#[]⟩, .string ⟨#[]⟩]), 2, 32) := by kernel_rfl
set_option maxRecDepth 100000 in
set_option maxHeartbeats 4000000 in
theorem sorted_one (g cap : Nat) (a b : ByteArray) (w : World) (hr : Rd w (some ⟨g, 0, none⟩) [.string a, .string b]) :
    Calls Tryz.prog 149 #[.slice (some ⟨g, 0, none⟩) 1 cap] w fun e w' => ∃ v, e = .returned v ∧ w'.ownsRow w.heap.size 105 2 v 1 [.string a, .string b] ∧ Below w.heap.size w w' := by
  obtain ⟨i0, hi0, hz0, hz1, hz2⟩ := info_parts pair_info
  have h63 : 0 + 1 ≤ maxLen := by unfold maxLen; omega
  have p0 : w.cell? ⟨g, 0, none⟩ = some (.string a) := by
    obtain ⟨b9, off9, e9, h9⟩ := hr 0 _ rfl
    injection e9 with e9; injection e9 with e1 e2; subst e1 e2; exact h9
  have p1 : w.cell? ⟨g, 1, none⟩ = some (.string b) := by
    obtain ⟨b9, off9, e9, h9⟩ := hr 1 _ rfl
    injection e9 with e9; injection e9 with e1 e2; subst e1 e2; exact h9
  clear hr
  go_enter Tryz.func149, Tryz.ntmps149
  go_wp2_with fail
  refine wp_loop_rounds 2 ?_
  rw [rounds_succ]
  go_wp2_with fail
  obtain ⟨o_p, hbw⟩ := new1 w [.string a, .string b] 105
  generalize (w.alloc (.cells #[.string a, .string b] 105)) = wb at o_p hbw ⊢
  clear p0 p1
  refine wp_loop_rounds 1 ?_
  rw [rounds_succ]
  go_upto_region 6 with (fail)
  refine wp_reg_f [some 15, some 16, some 17, some 18, some 19, some 20, some 21, some 22, some 23, some 24, some 25, some 26, some 27] [?v1_0, ?v1_1, ?v1_2, ?v1_3, ?v1_4, ?v1_5, ?v1_6, ?v1_7, ?v1_8, ?v1_9, ?v1_10, ?v1_11, ?v1_12] [[], [0], [1], [2], [2, 3], [2], [2], [2, 6], [2, 5, 7], [2, 8], [2, 9], [2, 4, 10], [2, 11]] [(3, _), (5, _), (6, _)] ⟨rfl, rfl, rfl, trivial⟩ rfl (by kernel_rfl) rfl rfl (by kernel_rfl) (by kernel_rfl) ⟨?s1_0, ?s1_1, ?s1_2, ?s1_3, ?s1_4, ?s1_5, ?s1_6, ?s1_7, ?s1_8, ?s1_9, ?s1_10, ?s1_11, ?s1_12, trivial⟩ ?p1
  all_goals try (intro t9 w9 hT9 K9 hK9; simp only [OV, FV, List.getD_cons_succ, List.getD_cons_zero, Option.getD_some]; intros)
  case s1_0 | s1_1 | s1_2 | s1_3 | s1_4 | s1_5 | s1_6 | s1_7 | s1_8 | s1_9 | s1_10 | s1_11 | s1_12 =>
    go_simp
    exact hK9 _ (Grow.refl _)
  intro w9 hb9
  simp only [putL, Act.put, List.setIfInBounds_toArray, List.set_cons_succ, List.set_cons_zero]
  replace o_p := o_p.below hb9 o_p.lt
  replace hbw := below6 hbw hb9
  clear hb9
  have hown := World.ownsRow_nil w9 w.heap.size 105 2
  have HOW := Lib.hid hown
  clear hown
  have hszw := hbw.size
  go_wp2_with (at_builtin; refine wpList_append_own_at _ rfl (.tmp 30) (.tmp 32) 67 rfl w.heap.size 105 i0 _ 2 32 Tryz.underlying67 hi0 hz0 hz1 hz2 rfl (by decide) _ 0 [] rfl (HOW.out.alloc _) ⟨w9.heap.size, 0, none⟩ 1 1 [.string ⟨#[]⟩, .string ⟨#[]⟩] rfl rfl (new_cells _ _ _ _ rfl) (by simp [Value.oneCell']) h63 (by omega) (by rw [size1]; omega) ?_)
  intro v' w' hown' hgrow _ hat
  have hbw' : Below w.heap.size w w' := (hbw.alloc hbw.size _).grown hgrow (by rw [size1]; omega) (own_lt HOW.out)
  have o_p' : Own w' w.heap.size 105 [.string a, .string b] := (hgrow.block _ (by rw [size1]; have := o_p.lt; omega) (by intro e; cases e)).trans (o_p.alloc _)
  obtain ⟨g2, cap2, rfl, hg2, hg3⟩ := hown'.form (by decide)
  have hne : g2 ≠ w.heap.size := by
    rcases hat with e | e
    · cases e
    · have e2 : g2 = w9.heap.size + 1 := by injection e
      have := o_p.lt
      omega
  clear hgrow hat o_p hbw HOW hszw
  have hcap : 1 ≤ cap2 := by
    obtain ⟨A9, c9, e9, h9, -⟩ := own_form hown'
    injection e9 with _ _ e9
    subst e9
    exact h9
  have hcp : ∀ (d : Option Addr) (c : Nat) (W : World), (Builtin.copy_ #[67, 67] 3 #[.slice d 0 c, .slice (some ⟨g2, 0, none⟩) 1 cap2]).run Tryz.prog W = .ok (.int .i64 0) W := fun d c W =>
    run_copy_zero W _ _ _ 105 d _ 0 c 1 cap2 Tryz.underlying67 (by rw [hi0]; rfl) (by decide)
  have hz1' : IntKind.i64.wrap 1 = 1 := by decide
  go_upto_region 9 with (fail)
  refine wp_reg_f [some 34, some 35, some 36, some 37, some 38, some 39, some 40, some 41] [?v2_0, ?v2_1, ?v2_2, ?v2_3, ?v2_4, ?v2_5, ?v2_6, ?v2_7] [[], [], [1], [0, 2], [], [], [4, 5], [3, 6]] [(3, _), (6, _)] ⟨rfl, rfl, trivial⟩ rfl (by kernel_rfl) rfl rfl (by kernel_rfl) (by kernel_rfl) ⟨?s2_0, ?s2_1, ?s2_2, ?s2_3, ?s2_4, ?s2_5, ?s2_6, ?s2_7, trivial⟩ ?p2
  all_goals try (intro t9 w9 hT9 K9 hK9; simp only [OV, FV, List.getD_cons_succ, List.getD_cons_zero, Option.getD_some]; intros)
  case s2_0 | s2_1 | s2_2 | s2_3 | s2_4 | s2_5 | s2_6 | s2_7 =>
    go_simp
    exact hK9 _ (Grow.refl _)
  intro w9 hb9
  simp only [putL, Act.put, List.setIfInBounds_toArray, List.set_cons_succ, List.set_cons_zero]
  generalize (if cap2 = 1 then some (⟨g2, 0, none⟩ : Addr) else some ⟨g2, 2, none⟩) = dv
  replace hbw' := below6 hbw' hb9
  replace o_p' := o_p'.below hb9 o_p'.lt
  have hown9 := own_below1 hown' hb9
  clear hb9 hown'
  have pp0 : w9.cell? ⟨w.heap.size, 0, none⟩ = some (.string a) := o_p'.cell 0
  have pp1 : w9.cell? ⟨w.heap.size, 1, none⟩ = some (.string b) := o_p'.cell 1
  have c0 : w9.cell? ⟨g2, 0, none⟩ = some (.string ⟨#[]⟩) := hown9.cellAt 0 (by decide)
  have c1 : w9.cell? ⟨g2, 1, none⟩ = some (.string ⟨#[]⟩) := hown9.cellAt 1 (by decide)
  have fz0 := hown9.frozenAt 0
  have fz1 := hown9.frozenAt 1
  have s2 := ((hown9.stored 0 (.string a)).1.stored 1 (.string b)).1
  have hb9 := (hbw'.setCell (p := ⟨g2, 0, none⟩) hg2 (.string a)).setCell (p := ⟨g2, 1, none⟩) hg2 (.string b)
  go_wp2_with fail
  generalize ((w9.setCell ⟨g2, 0, none⟩ (.string a)).setCell ⟨g2, 1, none⟩ (.string b)) = wz at s2 hb9 ⊢
  rw [rounds_succ]
  go_wp2
  go_ret
  exact ⟨_, rfl, s2, hb9⟩
end Go.Proofs.YtfenjklilocjgaaGreatDoor
