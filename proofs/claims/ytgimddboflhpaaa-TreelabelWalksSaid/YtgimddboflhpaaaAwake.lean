/- The law's own example: true. -/
import Derived.Test.YtgimddboflhpaaaComm2
namespace Go.Proofs.Ytgimddboflhpaaa
set_option linter.unusedSimpArgs false
set_option linter.unusedVariables false
set_option linter.unusedSectionVars false
open Go.RowKit Tr

abbrev psA : List Int := [-1, 0, 0, 1]
abbrev lsA : List Lab := [(0, 3, 0), (1, 1, 1), (3, 2, 1), (2, 0, 2)]
theorem isF_A : IsF lsA psA := ⟨by decide +kernel, by decide +kernel⟩
theorem it_A2 (k : Nat) : it psA (k + 1) 2 ≠ 1 ∧ it psA (k + 1) 2 ≠ 3 := by
  match k with
  | 0 => exact ⟨by decide, by decide⟩
  | 1 => exact ⟨by decide, by decide⟩
  | k + 2 =>
    have h := it_neg (ps := psA) (k + 1) (it psA 2 2) (by decide)
    rw [← it_add] at h
    rw [show k + 2 + 1 = k + 1 + 2 by omega]
    exact ⟨by omega, by omega⟩
theorem com_A : comP lsA 3 2 0 := by
  refine .inl ⟨psA, isF_A, ⟨⟨by decide, by decide⟩, by decide, by decide⟩, .inl ⟨2, 0, by decide, rfl, .inr ⟨0, by decide⟩, ?_⟩⟩
  intro l hl y hy
  have h : l = 0 ∨ l = 1 := by omega
  rcases h with rfl | rfl
  · have : y = 3 := by
      have e : it psA 0 ((3 : Int).toNat : Nat) = 3 := by decide
      rw [e] at hy; omega
    subst this
    rintro (h | ⟨k, hk⟩)
    · cases h
    · exact (it_A2 k).2 hk
  · have : y = 1 := by
      have e : it psA 1 ((3 : Int).toNat : Nat) = 1 := by decide
      rw [e] at hy; omega
    subst this
    rintro (h | ⟨k, hk⟩)
    · cases h
    · exact (it_A2 k).1 hk
theorem eql41 (a b c p q r : Int) (w : World) : (binOp .eql 41 (.agg #[.int .i64 a, .int .i64 b, .int .i64 c]) (.agg #[.int .i64 p, .int .i64 q, .int .i64 r])).run Try.prog w = .ok (.bool (labEq (a, b, c) (p, q, r))) w := by
  rw [← labEq_of]
  have h2 : Try.prog.stoodInHeld 41 = false := by kernel_rfl
  cases ha : a == p <;> cases hb : b == q <;> cases hc : c == r <;> simp [go_sem, h2, Try.underlying41, ha, hb, hc]

set_option maxRecDepth 100000 in
set_option maxHeartbeats 2000000 in
theorem awake_any (w : World) : Calls Try.prog 14 #[] w fun e w' => e = .returned (.bool true) ∧ Below w.heap.size w w' := by
  have hc0 : chk psA = (0, 0) := isF_A.1
  have hll : labels psA = lsA := isF_A.2
  have hcall : Calls Try.prog 11 #[.slice (some ⟨w.heap.size, 0, none⟩) 4 4] (w.alloc (.cells #[.int .i64 (-1), .int .i64 0, .int .i64 0, .int .i64 1] 3)) fun e w' => ∃ Ag cg, e = .returned (.tuple #[.slice Ag 4 cg, .int .i64 0, .int .i64 0]) ∧ Labs w' Ag lsA ∧ Below w.heap.size w w' := by
    have hi : Ints (w.alloc (.cells #[.int .i64 (-1), .int .i64 0, .int .i64 0, .int .i64 1] 3)) (some ⟨w.heap.size, 0, none⟩) psA := (Own.new w 3 (ci psA)).rd0
    refine (assign_ok (some ⟨w.heap.size, 0, none⟩) 4 psA _ hi hc0).mono ?_
    rintro e w' ⟨v, rfl, ⟨Ag, cg, rfl, _, _, hrd⟩, hb⟩
    rw [hll] at hrd
    exact ⟨Ag, cg, rfl, hrd, ((Below.refl w.heap.size w).alloc (Nat.le_refl _) _).trans (hb.mono (by rw [size1]; omega))⟩
  have HA := Lib.hid hcall
  have HD : Hid (∀ w, Calls Try.prog 20 #[.agg #[.int .i64 1, .int .i64 1, .int .i64 1], .agg #[.int .i64 2, .int .i64 0, .int .i64 2]] w fun e w' => e = .returned (.bool true) ∧ Below w.heap.size w w') := fun w => dominates_any (1, 1, 1) (2, 0, 2) w
  have HP : Hid (∀ w, Calls Try.prog 21 #[.agg #[.int .i64 1, .int .i64 1, .int .i64 1], .agg #[.int .i64 3, .int .i64 2, .int .i64 1]] w fun e w' => e = .returned (.bool true) ∧ Below w.heap.size w w') := fun w => precedes_any (1, 1, 1) (3, 2, 1) w
  have HC : Hid (∀ (A : Option Addr) (c : Nat) (w : World), Labs w A lsA → Calls Try.prog 26 #[.slice A 4 c, .int .i64 3, .int .i64 2] w fun e w' => e = .returned (.int .i64 0) ∧ Below w.heap.size w w') := by
    intro A c w h
    refine (common_any A c lsA 3 2 w h (by simp [maxLen])).mono ?_
    rintro e w' ⟨hb, cc, rfl, hcc⟩
    rw [hcc.uniq com_A]
    exact ⟨rfl, hb⟩
  clear hcall hc0 hll
  go_enter Try.func14, Try.ntmps14
  go_wp2_with fail
  refine HA.out.mono ?_
  rintro e w1 ⟨Ag, cg, rfl, hL, hb⟩
  obtain ⟨b, off, rfl, a0, a1, a2⟩ := hL.get (k := 1) (by decide)
  obtain ⟨_, _, e, b0, b1, b2⟩ := hL.get (k := 3) (by decide)
  cases e
  obtain ⟨_, _, e, c0, c1, c2⟩ := hL.get (k := 2) (by decide)
  cases e
  simp only [Nat.reduceMul, List.getElem_cons_succ, List.getElem_cons_zero] at a0 a1 a2 b0 b1 b2 c0 c1 c2
  have heg := eqg41
  have heq := fun w => eql41 1 1 1 1 1 1 w
  have hle : labEq (1, 1, 1) (1, 1, 1) = true := by decide
  rw [hle] at heq
  clear hle
  go_wp2
  refine wp_reg_vals (some 10 :: some 11 :: some 12 :: some 13 :: some 14 :: some 15 :: some 16 :: some 17 :: some 18 :: some 19 :: some 20 :: some 21 :: some 22 :: some 23 :: some 24 :: some 25 :: some 26 :: some 27 :: some 28 :: some 29 :: some 30 :: some 31 :: some 32 :: some 33 :: some 34 :: some 35 :: some 36 :: some 37 :: some 38 :: some 39 :: some 40 :: some 41 :: some 42 :: some 43 :: some 44 :: some 45 :: some 46 :: some 47 :: some 48 :: some 49 :: some 50 :: some 0 :: []) (?v1_0 :: ?v1_1 :: ?v1_2 :: ?v1_3 :: ?v1_4 :: ?v1_5 :: ?v1_6 :: ?v1_7 :: ?v1_8 :: ?v1_9 :: ?v1_10 :: ?v1_11 :: ?v1_12 :: ?v1_13 :: ?v1_14 :: ?v1_15 :: ?v1_16 :: ?v1_17 :: ?v1_18 :: ?v1_19 :: ?v1_20 :: ?v1_21 :: ?v1_22 :: ?v1_23 :: ?v1_24 :: ?v1_25 :: ?v1_26 :: ?v1_27 :: ?v1_28 :: ?v1_29 :: ?v1_30 :: ?v1_31 :: ?v1_32 :: ?v1_33 :: ?v1_34 :: ?v1_35 :: ?v1_36 :: ?v1_37 :: ?v1_38 :: ?v1_39 :: ?v1_40 :: ?v1_41 :: []) rfl (by kernel_rfl) rfl rfl ⟨?s1_0, ?s1_1, ?s1_2, ?s1_3, ?s1_4, ?s1_5, ?s1_6, ?s1_7, ?s1_8, ?s1_9, ?s1_10, ?s1_11, ?s1_12, ?s1_13, ?s1_14, ?s1_15, ?s1_16, ?s1_17, ?s1_18, ?s1_19, ?s1_20, ?s1_21, ?s1_22, ?s1_23, ?s1_24, ?s1_25, ?s1_26, ?s1_27, ?s1_28, ?s1_29, ?s1_30, ?s1_31, ?s1_32, ?s1_33, ?s1_34, ?s1_35, ?s1_36, ?s1_37, ?s1_38, ?s1_39, ?s1_40, ?s1_41, trivial⟩ ?p1
  case s1_0 =>
    intro u9 w9 hT9 hV9 K9 hK9
    clear hV9
    simp only [putAll, Act.put, List.setIfInBounds_toArray, List.set_cons_succ, List.set_cons_zero, List.getD_cons_succ, List.getD_cons_zero, Nat.reduceAdd, Nat.zero_add] at hK9 ⊢
    go_simp
    exact hK9 _ (Grow.refl _)
  case s1_1 =>
    intro u9 w9 hT9 hV9 K9 hK9
    have p9_0 := hV9 0 rfl
    clear hV9
    simp only [putAll, Act.put, List.setIfInBounds_toArray, List.set_cons_succ, List.set_cons_zero, List.getD_cons_succ, List.getD_cons_zero, Nat.reduceAdd, Nat.zero_add] at p9_0 hK9 ⊢
    simp only [p9_0] at hK9 ⊢
    clear p9_0
    go_simp
    exact hK9 _ (Grow.refl _)
  case s1_2 =>
    intro u9 w9 hT9 hV9 K9 hK9
    have p9_1 := hV9 1 rfl
    clear hV9
    simp only [putAll, Act.put, List.setIfInBounds_toArray, List.set_cons_succ, List.set_cons_zero, List.getD_cons_succ, List.getD_cons_zero, Nat.reduceAdd, Nat.zero_add] at p9_1 hK9 ⊢
    simp only [p9_1] at hK9 ⊢
    clear p9_1
    go_simp
    exact hK9 _ (Grow.refl _)
  case s1_3 =>
    intro u9 w9 hT9 hV9 K9 hK9
    have p9_2 := hV9 2 rfl
    clear hV9
    simp only [putAll, Act.put, List.setIfInBounds_toArray, List.set_cons_succ, List.set_cons_zero, List.getD_cons_succ, List.getD_cons_zero, Nat.reduceAdd, Nat.zero_add] at p9_2 hK9 ⊢
    simp only [p9_2] at hK9 ⊢
    clear p9_2
    go_simp
    exact hK9 _ (Grow.refl _)
  case s1_4 =>
    intro u9 w9 hT9 hV9 K9 hK9
    have p9_2 := hV9 2 rfl
    have p9_3 := hV9 3 rfl
    clear hV9
    simp only [putAll, Act.put, List.setIfInBounds_toArray, List.set_cons_succ, List.set_cons_zero, List.getD_cons_succ, List.getD_cons_zero, Nat.reduceAdd, Nat.zero_add] at p9_2 p9_3 hK9 ⊢
    simp only [p9_2, p9_3] at hK9 ⊢
    clear p9_2 p9_3
    go_simp
    exact hK9 _ (Grow.refl _)
  case s1_5 =>
    intro u9 w9 hT9 hV9 K9 hK9
    have p9_2 := hV9 2 rfl
    have p9_4 := hV9 4 rfl
    clear hV9
    simp only [putAll, Act.put, List.setIfInBounds_toArray, List.set_cons_succ, List.set_cons_zero, List.getD_cons_succ, List.getD_cons_zero, Nat.reduceAdd, Nat.zero_add] at p9_2 p9_4 hK9 ⊢
    simp only [p9_2, p9_4] at hK9 ⊢
    clear p9_2 p9_4
    go_simp
    exact hK9 _ (Grow.refl _)
  case s1_6 =>
    intro u9 w9 hT9 hV9 K9 hK9
    have p9_5 := hV9 5 rfl
    clear hV9
    simp only [putAll, Act.put, List.setIfInBounds_toArray, List.set_cons_succ, List.set_cons_zero, List.getD_cons_succ, List.getD_cons_zero, Nat.reduceAdd, Nat.zero_add] at p9_5 hK9 ⊢
    simp only [p9_5] at hK9 ⊢
    clear p9_5
    go_simp
    exact hK9 _ (Grow.refl _)
  case s1_7 =>
    intro u9 w9 hT9 hV9 K9 hK9
    have p9_6 := hV9 6 rfl
    clear hV9
    simp only [putAll, Act.put, List.setIfInBounds_toArray, List.set_cons_succ, List.set_cons_zero, List.getD_cons_succ, List.getD_cons_zero, Nat.reduceAdd, Nat.zero_add] at p9_6 hK9 ⊢
    simp only [p9_6] at hK9 ⊢
    clear p9_6
    go_simp
    exact hK9 _ (Grow.refl _)
  case s1_8 =>
    intro u9 w9 hT9 hV9 K9 hK9
    have p9_6 := hV9 6 rfl
    have p9_7 := hV9 7 rfl
    clear hV9
    simp only [putAll, Act.put, List.setIfInBounds_toArray, List.set_cons_succ, List.set_cons_zero, List.getD_cons_succ, List.getD_cons_zero, Nat.reduceAdd, Nat.zero_add] at p9_6 p9_7 hK9 ⊢
    simp only [p9_6, p9_7] at hK9 ⊢
    clear p9_6 p9_7
    go_simp
    exact hK9 _ (Grow.refl _)
  case s1_9 =>
    intro u9 w9 hT9 hV9 K9 hK9
    have p9_6 := hV9 6 rfl
    have p9_8 := hV9 8 rfl
    clear hV9
    simp only [putAll, Act.put, List.setIfInBounds_toArray, List.set_cons_succ, List.set_cons_zero, List.getD_cons_succ, List.getD_cons_zero, Nat.reduceAdd, Nat.zero_add] at p9_6 p9_8 hK9 ⊢
    simp only [p9_6, p9_8] at hK9 ⊢
    clear p9_6 p9_8
    go_simp
    exact hK9 _ (Grow.refl _)
  case s1_10 =>
    intro u9 w9 hT9 hV9 K9 hK9
    have p9_6 := hV9 6 rfl
    have p9_9 := hV9 9 rfl
    clear hV9
    simp only [putAll, Act.put, List.setIfInBounds_toArray, List.set_cons_succ, List.set_cons_zero, List.getD_cons_succ, List.getD_cons_zero, Nat.reduceAdd, Nat.zero_add] at p9_6 p9_9 hK9 ⊢
    simp only [p9_6, p9_9] at hK9 ⊢
    clear p9_6 p9_9
    go_simp
    exact hK9 _ (Grow.refl _)
  case s1_11 =>
    intro u9 w9 hT9 hV9 K9 hK9
    have p9_10 := hV9 10 rfl
    clear hV9
    simp only [putAll, Act.put, List.setIfInBounds_toArray, List.set_cons_succ, List.set_cons_zero, List.getD_cons_succ, List.getD_cons_zero, Nat.reduceAdd, Nat.zero_add] at p9_10 hK9 ⊢
    simp only [p9_10] at hK9 ⊢
    clear p9_10
    go_simp
    exact hK9 _ (Grow.refl _)
  case s1_12 =>
    intro u9 w9 hT9 hV9 K9 hK9
    have p9_11 := hV9 11 rfl
    clear hV9
    simp only [putAll, Act.put, List.setIfInBounds_toArray, List.set_cons_succ, List.set_cons_zero, List.getD_cons_succ, List.getD_cons_zero, Nat.reduceAdd, Nat.zero_add] at p9_11 hK9 ⊢
    simp only [p9_11] at hK9 ⊢
    clear p9_11
    go_simp
    exact hK9 _ (Grow.refl _)
  case s1_13 =>
    intro u9 w9 hT9 hV9 K9 hK9
    have p9_11 := hV9 11 rfl
    have p9_12 := hV9 12 rfl
    clear hV9
    simp only [putAll, Act.put, List.setIfInBounds_toArray, List.set_cons_succ, List.set_cons_zero, List.getD_cons_succ, List.getD_cons_zero, Nat.reduceAdd, Nat.zero_add] at p9_11 p9_12 hK9 ⊢
    simp only [p9_11, p9_12] at hK9 ⊢
    clear p9_11 p9_12
    go_simp
    exact hK9 _ (Grow.refl _)
  case s1_14 =>
    intro u9 w9 hT9 hV9 K9 hK9
    have p9_11 := hV9 11 rfl
    have p9_13 := hV9 13 rfl
    clear hV9
    simp only [putAll, Act.put, List.setIfInBounds_toArray, List.set_cons_succ, List.set_cons_zero, List.getD_cons_succ, List.getD_cons_zero, Nat.reduceAdd, Nat.zero_add] at p9_11 p9_13 hK9 ⊢
    simp only [p9_11, p9_13] at hK9 ⊢
    clear p9_11 p9_13
    have d9_0 := grow_cell hT9 a0
    have d9_1 := grow_cell hT9 a1
    have d9_2 := grow_cell hT9 a2
    have d9_3 := grow_cell hT9 b0
    have d9_4 := grow_cell hT9 b1
    have d9_5 := grow_cell hT9 b2
    have d9_6 := grow_cell hT9 c0
    have d9_7 := grow_cell hT9 c1
    have d9_8 := grow_cell hT9 c2
    go_simp
    exact hK9 _ (Grow.refl _)
  case s1_15 =>
    intro u9 w9 hT9 hV9 K9 hK9
    have p9_11 := hV9 11 rfl
    clear hV9
    simp only [putAll, Act.put, List.setIfInBounds_toArray, List.set_cons_succ, List.set_cons_zero, List.getD_cons_succ, List.getD_cons_zero, Nat.reduceAdd, Nat.zero_add] at p9_11 hK9 ⊢
    simp only [p9_11] at hK9 ⊢
    clear p9_11
    go_simp
    exact hK9 _ (Grow.refl _)
  case s1_16 =>
    intro u9 w9 hT9 hV9 K9 hK9
    have p9_11 := hV9 11 rfl
    have p9_14 := hV9 14 rfl
    have p9_15 := hV9 15 rfl
    clear hV9
    simp only [putAll, Act.put, List.setIfInBounds_toArray, List.set_cons_succ, List.set_cons_zero, List.getD_cons_succ, List.getD_cons_zero, Nat.reduceAdd, Nat.zero_add] at p9_11 p9_14 p9_15 hK9 ⊢
    simp only [p9_11, p9_14, p9_15] at hK9 ⊢
    clear p9_11 p9_14 p9_15
    go_simp
    exact hK9 _ (Grow.refl _)
  case s1_17 =>
    intro u9 w9 hT9 hV9 K9 hK9
    have p9_11 := hV9 11 rfl
    have p9_16 := hV9 16 rfl
    clear hV9
    simp only [putAll, Act.put, List.setIfInBounds_toArray, List.set_cons_succ, List.set_cons_zero, List.getD_cons_succ, List.getD_cons_zero, Nat.reduceAdd, Nat.zero_add] at p9_11 p9_16 hK9 ⊢
    simp only [p9_11, p9_16] at hK9 ⊢
    clear p9_11 p9_16
    go_simp
    exact hK9 _ (Grow.refl _)
  case s1_18 =>
    intro u9 w9 hT9 hV9 K9 hK9
    have p9_17 := hV9 17 rfl
    clear hV9
    simp only [putAll, Act.put, List.setIfInBounds_toArray, List.set_cons_succ, List.set_cons_zero, List.getD_cons_succ, List.getD_cons_zero, Nat.reduceAdd, Nat.zero_add] at p9_17 hK9 ⊢
    simp only [p9_17] at hK9 ⊢
    clear p9_17
    go_simp
    exact hK9 _ (Grow.refl _)
  case s1_19 =>
    intro u9 w9 hT9 hV9 K9 hK9
    have p9_18 := hV9 18 rfl
    clear hV9
    simp only [putAll, Act.put, List.setIfInBounds_toArray, List.set_cons_succ, List.set_cons_zero, List.getD_cons_succ, List.getD_cons_zero, Nat.reduceAdd, Nat.zero_add] at p9_18 hK9 ⊢
    simp only [p9_18] at hK9 ⊢
    clear p9_18
    go_simp
    exact hK9 _ (Grow.refl _)
  case s1_20 =>
    intro u9 w9 hT9 hV9 K9 hK9
    have p9_18 := hV9 18 rfl
    have p9_19 := hV9 19 rfl
    clear hV9
    simp only [putAll, Act.put, List.setIfInBounds_toArray, List.set_cons_succ, List.set_cons_zero, List.getD_cons_succ, List.getD_cons_zero, Nat.reduceAdd, Nat.zero_add] at p9_18 p9_19 hK9 ⊢
    simp only [p9_18, p9_19] at hK9 ⊢
    clear p9_18 p9_19
    go_simp
    exact hK9 _ (Grow.refl _)
  case s1_21 =>
    intro u9 w9 hT9 hV9 K9 hK9
    have p9_18 := hV9 18 rfl
    have p9_20 := hV9 20 rfl
    clear hV9
    simp only [putAll, Act.put, List.setIfInBounds_toArray, List.set_cons_succ, List.set_cons_zero, List.getD_cons_succ, List.getD_cons_zero, Nat.reduceAdd, Nat.zero_add] at p9_18 p9_20 hK9 ⊢
    simp only [p9_18, p9_20] at hK9 ⊢
    clear p9_18 p9_20
    have d9_0 := grow_cell hT9 a0
    have d9_1 := grow_cell hT9 a1
    have d9_2 := grow_cell hT9 a2
    have d9_3 := grow_cell hT9 b0
    have d9_4 := grow_cell hT9 b1
    have d9_5 := grow_cell hT9 b2
    have d9_6 := grow_cell hT9 c0
    have d9_7 := grow_cell hT9 c1
    have d9_8 := grow_cell hT9 c2
    go_simp
    exact hK9 _ (Grow.refl _)
  case s1_22 =>
    intro u9 w9 hT9 hV9 K9 hK9
    have p9_18 := hV9 18 rfl
    clear hV9
    simp only [putAll, Act.put, List.setIfInBounds_toArray, List.set_cons_succ, List.set_cons_zero, List.getD_cons_succ, List.getD_cons_zero, Nat.reduceAdd, Nat.zero_add] at p9_18 hK9 ⊢
    simp only [p9_18] at hK9 ⊢
    clear p9_18
    go_simp
    exact hK9 _ (Grow.refl _)
  case s1_23 =>
    intro u9 w9 hT9 hV9 K9 hK9
    have p9_18 := hV9 18 rfl
    have p9_22 := hV9 22 rfl
    clear hV9
    simp only [putAll, Act.put, List.setIfInBounds_toArray, List.set_cons_succ, List.set_cons_zero, List.getD_cons_succ, List.getD_cons_zero, Nat.reduceAdd, Nat.zero_add] at p9_18 p9_22 hK9 ⊢
    simp only [p9_18, p9_22] at hK9 ⊢
    clear p9_18 p9_22
    go_simp
    exact hK9 _ (Grow.refl _)
  case s1_24 =>
    intro u9 w9 hT9 hV9 K9 hK9
    have p9_18 := hV9 18 rfl
    have p9_23 := hV9 23 rfl
    clear hV9
    simp only [putAll, Act.put, List.setIfInBounds_toArray, List.set_cons_succ, List.set_cons_zero, List.getD_cons_succ, List.getD_cons_zero, Nat.reduceAdd, Nat.zero_add] at p9_18 p9_23 hK9 ⊢
    simp only [p9_18, p9_23] at hK9 ⊢
    clear p9_18 p9_23
    have d9_0 := grow_cell hT9 a0
    have d9_1 := grow_cell hT9 a1
    have d9_2 := grow_cell hT9 a2
    have d9_3 := grow_cell hT9 b0
    have d9_4 := grow_cell hT9 b1
    have d9_5 := grow_cell hT9 b2
    have d9_6 := grow_cell hT9 c0
    have d9_7 := grow_cell hT9 c1
    have d9_8 := grow_cell hT9 c2
    go_simp
    exact hK9 _ (Grow.refl _)
  case s1_25 =>
    intro u9 w9 hT9 hV9 K9 hK9
    have p9_18 := hV9 18 rfl
    have p9_21 := hV9 21 rfl
    have p9_24 := hV9 24 rfl
    clear hV9
    simp only [putAll, Act.put, List.setIfInBounds_toArray, List.set_cons_succ, List.set_cons_zero, List.getD_cons_succ, List.getD_cons_zero, Nat.reduceAdd, Nat.zero_add] at p9_18 p9_21 p9_24 hK9 ⊢
    simp only [p9_18, p9_21, p9_24] at hK9 ⊢
    clear p9_18 p9_21 p9_24
    go_simp
    first | exact hK9 _ (Grow.refl _) | (refine (HD.out _).mono ?_; rintro _ w8 ⟨rfl, hb8⟩; exact hK9 _ hb8)
  case s1_26 =>
    intro u9 w9 hT9 hV9 K9 hK9
    have p9_18 := hV9 18 rfl
    have p9_25 := hV9 25 rfl
    clear hV9
    simp only [putAll, Act.put, List.setIfInBounds_toArray, List.set_cons_succ, List.set_cons_zero, List.getD_cons_succ, List.getD_cons_zero, Nat.reduceAdd, Nat.zero_add] at p9_18 p9_25 hK9 ⊢
    simp only [p9_18, p9_25] at hK9 ⊢
    clear p9_18 p9_25
    go_simp
    exact hK9 _ (Grow.refl _)
  case s1_27 =>
    intro u9 w9 hT9 hV9 K9 hK9
    have p9_26 := hV9 26 rfl
    clear hV9
    simp only [putAll, Act.put, List.setIfInBounds_toArray, List.set_cons_succ, List.set_cons_zero, List.getD_cons_succ, List.getD_cons_zero, Nat.reduceAdd, Nat.zero_add] at p9_26 hK9 ⊢
    simp only [p9_26] at hK9 ⊢
    clear p9_26
    go_simp
    exact hK9 _ (Grow.refl _)
  case s1_28 =>
    intro u9 w9 hT9 hV9 K9 hK9
    have p9_27 := hV9 27 rfl
    clear hV9
    simp only [putAll, Act.put, List.setIfInBounds_toArray, List.set_cons_succ, List.set_cons_zero, List.getD_cons_succ, List.getD_cons_zero, Nat.reduceAdd, Nat.zero_add] at p9_27 hK9 ⊢
    simp only [p9_27] at hK9 ⊢
    clear p9_27
    go_simp
    exact hK9 _ (Grow.refl _)
  case s1_29 =>
    intro u9 w9 hT9 hV9 K9 hK9
    have p9_27 := hV9 27 rfl
    have p9_28 := hV9 28 rfl
    clear hV9
    simp only [putAll, Act.put, List.setIfInBounds_toArray, List.set_cons_succ, List.set_cons_zero, List.getD_cons_succ, List.getD_cons_zero, Nat.reduceAdd, Nat.zero_add] at p9_27 p9_28 hK9 ⊢
    simp only [p9_27, p9_28] at hK9 ⊢
    clear p9_27 p9_28
    go_simp
    exact hK9 _ (Grow.refl _)
  case s1_30 =>
    intro u9 w9 hT9 hV9 K9 hK9
    have p9_27 := hV9 27 rfl
    have p9_29 := hV9 29 rfl
    clear hV9
    simp only [putAll, Act.put, List.setIfInBounds_toArray, List.set_cons_succ, List.set_cons_zero, List.getD_cons_succ, List.getD_cons_zero, Nat.reduceAdd, Nat.zero_add] at p9_27 p9_29 hK9 ⊢
    simp only [p9_27, p9_29] at hK9 ⊢
    clear p9_27 p9_29
    have d9_0 := grow_cell hT9 a0
    have d9_1 := grow_cell hT9 a1
    have d9_2 := grow_cell hT9 a2
    have d9_3 := grow_cell hT9 b0
    have d9_4 := grow_cell hT9 b1
    have d9_5 := grow_cell hT9 b2
    have d9_6 := grow_cell hT9 c0
    have d9_7 := grow_cell hT9 c1
    have d9_8 := grow_cell hT9 c2
    go_simp
    exact hK9 _ (Grow.refl _)
  case s1_31 =>
    intro u9 w9 hT9 hV9 K9 hK9
    have p9_27 := hV9 27 rfl
    clear hV9
    simp only [putAll, Act.put, List.setIfInBounds_toArray, List.set_cons_succ, List.set_cons_zero, List.getD_cons_succ, List.getD_cons_zero, Nat.reduceAdd, Nat.zero_add] at p9_27 hK9 ⊢
    simp only [p9_27] at hK9 ⊢
    clear p9_27
    go_simp
    exact hK9 _ (Grow.refl _)
  case s1_32 =>
    intro u9 w9 hT9 hV9 K9 hK9
    have p9_27 := hV9 27 rfl
    have p9_31 := hV9 31 rfl
    clear hV9
    simp only [putAll, Act.put, List.setIfInBounds_toArray, List.set_cons_succ, List.set_cons_zero, List.getD_cons_succ, List.getD_cons_zero, Nat.reduceAdd, Nat.zero_add] at p9_27 p9_31 hK9 ⊢
    simp only [p9_27, p9_31] at hK9 ⊢
    clear p9_27 p9_31
    go_simp
    exact hK9 _ (Grow.refl _)
  case s1_33 =>
    intro u9 w9 hT9 hV9 K9 hK9
    have p9_27 := hV9 27 rfl
    have p9_32 := hV9 32 rfl
    clear hV9
    simp only [putAll, Act.put, List.setIfInBounds_toArray, List.set_cons_succ, List.set_cons_zero, List.getD_cons_succ, List.getD_cons_zero, Nat.reduceAdd, Nat.zero_add] at p9_27 p9_32 hK9 ⊢
    simp only [p9_27, p9_32] at hK9 ⊢
    clear p9_27 p9_32
    have d9_0 := grow_cell hT9 a0
    have d9_1 := grow_cell hT9 a1
    have d9_2 := grow_cell hT9 a2
    have d9_3 := grow_cell hT9 b0
    have d9_4 := grow_cell hT9 b1
    have d9_5 := grow_cell hT9 b2
    have d9_6 := grow_cell hT9 c0
    have d9_7 := grow_cell hT9 c1
    have d9_8 := grow_cell hT9 c2
    go_simp
    exact hK9 _ (Grow.refl _)
  case s1_34 =>
    intro u9 w9 hT9 hV9 K9 hK9
    have p9_27 := hV9 27 rfl
    have p9_30 := hV9 30 rfl
    have p9_33 := hV9 33 rfl
    clear hV9
    simp only [putAll, Act.put, List.setIfInBounds_toArray, List.set_cons_succ, List.set_cons_zero, List.getD_cons_succ, List.getD_cons_zero, Nat.reduceAdd, Nat.zero_add] at p9_27 p9_30 p9_33 hK9 ⊢
    simp only [p9_27, p9_30, p9_33] at hK9 ⊢
    clear p9_27 p9_30 p9_33
    go_simp
    first | exact hK9 _ (Grow.refl _) | (refine (HP.out _).mono ?_; rintro _ w8 ⟨rfl, hb8⟩; exact hK9 _ hb8)
  case s1_35 =>
    intro u9 w9 hT9 hV9 K9 hK9
    have p9_27 := hV9 27 rfl
    have p9_34 := hV9 34 rfl
    clear hV9
    simp only [putAll, Act.put, List.setIfInBounds_toArray, List.set_cons_succ, List.set_cons_zero, List.getD_cons_succ, List.getD_cons_zero, Nat.reduceAdd, Nat.zero_add] at p9_27 p9_34 hK9 ⊢
    simp only [p9_27, p9_34] at hK9 ⊢
    clear p9_27 p9_34
    go_simp
    exact hK9 _ (Grow.refl _)
  case s1_36 =>
    intro u9 w9 hT9 hV9 K9 hK9
    have p9_35 := hV9 35 rfl
    clear hV9
    simp only [putAll, Act.put, List.setIfInBounds_toArray, List.set_cons_succ, List.set_cons_zero, List.getD_cons_succ, List.getD_cons_zero, Nat.reduceAdd, Nat.zero_add] at p9_35 hK9 ⊢
    simp only [p9_35] at hK9 ⊢
    clear p9_35
    go_simp
    exact hK9 _ (Grow.refl _)
  case s1_37 =>
    intro u9 w9 hT9 hV9 K9 hK9
    have p9_36 := hV9 36 rfl
    clear hV9
    simp only [putAll, Act.put, List.setIfInBounds_toArray, List.set_cons_succ, List.set_cons_zero, List.getD_cons_succ, List.getD_cons_zero, Nat.reduceAdd, Nat.zero_add] at p9_36 hK9 ⊢
    simp only [p9_36] at hK9 ⊢
    clear p9_36
    go_simp
    exact hK9 _ (Grow.refl _)
  case s1_38 =>
    intro u9 w9 hT9 hV9 K9 hK9
    have p9_36 := hV9 36 rfl
    have p9_37 := hV9 37 rfl
    clear hV9
    simp only [putAll, Act.put, List.setIfInBounds_toArray, List.set_cons_succ, List.set_cons_zero, List.getD_cons_succ, List.getD_cons_zero, Nat.reduceAdd, Nat.zero_add] at p9_36 p9_37 hK9 ⊢
    simp only [p9_36, p9_37] at hK9 ⊢
    clear p9_36 p9_37
    go_simp
    first | exact hK9 _ (Grow.refl _) | (refine (HC.out _ _ _ (hL.below hT9.below)).mono ?_; rintro _ w8 ⟨rfl, hb8⟩; exact hK9 _ hb8)
  case s1_39 =>
    intro u9 w9 hT9 hV9 K9 hK9
    have p9_36 := hV9 36 rfl
    have p9_38 := hV9 38 rfl
    clear hV9
    simp only [putAll, Act.put, List.setIfInBounds_toArray, List.set_cons_succ, List.set_cons_zero, List.getD_cons_succ, List.getD_cons_zero, Nat.reduceAdd, Nat.zero_add] at p9_36 p9_38 hK9 ⊢
    simp only [p9_36, p9_38] at hK9 ⊢
    clear p9_36 p9_38
    go_simp
    exact hK9 _ (Grow.refl _)
  case s1_40 =>
    intro u9 w9 hT9 hV9 K9 hK9
    have p9_36 := hV9 36 rfl
    have p9_39 := hV9 39 rfl
    clear hV9
    simp only [putAll, Act.put, List.setIfInBounds_toArray, List.set_cons_succ, List.set_cons_zero, List.getD_cons_succ, List.getD_cons_zero, Nat.reduceAdd, Nat.zero_add] at p9_36 p9_39 hK9 ⊢
    simp only [p9_36, p9_39] at hK9 ⊢
    clear p9_36 p9_39
    go_simp
    exact hK9 _ (Grow.refl _)
  case s1_41 =>
    intro u9 w9 hT9 hV9 K9 hK9
    have p9_40 := hV9 40 rfl
    clear hV9
    simp only [putAll, Act.put, List.setIfInBounds_toArray, List.set_cons_succ, List.set_cons_zero, List.getD_cons_succ, List.getD_cons_zero, Nat.reduceAdd, Nat.zero_add] at p9_40 hK9 ⊢
    simp only [p9_40] at hK9 ⊢
    clear p9_40
    go_simp
    exact hK9 _ (Grow.refl _)
  intro w9 hb9
  simp only [putAll, Act.put, List.setIfInBounds_toArray, List.set_cons_succ, List.set_cons_zero, List.getD_cons_succ, List.getD_cons_zero, Nat.reduceAdd, Nat.zero_add]
  go_wp2
  go_ret
  exact ⟨rfl, hb.trans (hb9.mono hb.size)⟩
end Go.Proofs.Ytgimddboflhpaaa
