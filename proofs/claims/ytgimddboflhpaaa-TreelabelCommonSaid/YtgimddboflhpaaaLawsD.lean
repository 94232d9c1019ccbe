/- The law on the lowest common ancestor of two nodes: it returns true and leaves all memory as it was. -/
import Derived.Test.YtgimddboflhpaaaLawsD0
import Derived.Test.YtgimddboflhpaaaReg2
namespace Go.Proofs.Ytgimddboflhpaaa
set_option linter.unusedSimpArgs false
set_option linter.unusedVariables false
set_option linter.unusedSectionVars false
open Go.RowKit Tr

set_option maxRecDepth 100000 in
set_option maxHeartbeats 40000000 in
theorem law_common (A : Option Addr) (c : Nat) (ps : List Int) (i j : Int) (w : World) (hA : Ints w A ps) (hx : ps.length ≤ maxLen) :
    Calls Try.prog 9 #[.slice A ps.length c, .int .i64 i, .int .i64 j] w (Holds w) := by
  have hx' := Lib.hid hx
  unfold maxLen at hx
  by_cases hc : (chk ps).2 = 0
  · have hc0 : chk ps = (0, 0) := by
      obtain ⟨_, _, _, h1⟩ := chk_zero hc
      exact Prod.ext h1 hc
    obtain ⟨_, hv, ha, _⟩ := chk_zero hc
    have hll := labels_length hv ha
    have hF : Hid (IsF (labels ps) ps) := ⟨hc0, rfl⟩
    have F : Hid (Facts ps (labels ps)) := (facts hF.out).2
    have HA : Hid (Calls Try.prog 11 #[.slice A ps.length c] w (fun e w' => ∃ Ag cg, e = .returned (.tuple #[.slice Ag ps.length cg, .int .i64 0, .int .i64 0]) ∧ Labs w' Ag (labels ps) ∧ Below w.heap.size w w')) := by
      refine (assign_ok A c ps w hA hc0).mono ?_
      rintro e w' ⟨v, rfl, ⟨Ag, cg, rfl, _, _, hrd⟩, hb⟩
      exact ⟨Ag, cg, rfl, hrd, hb⟩
    have HLL := Lib.hid hll
    clear hc hc0 hv ha hll
    by_cases hrange : ps.length ≤ 40 ∧ 0 ≤ i ∧ i < ps.length ∧ 0 ≤ j ∧ j < ps.length
    · obtain ⟨hn, r1, r2, r3, r4⟩ := hrange
      obtain ⟨i0, hi0⟩ : ∃ i0 : Nat, i = (i0 : Int) := ⟨i.toNat, by omega⟩
      obtain ⟨j0, hj0⟩ : ∃ j0 : Nat, j = (j0 : Int) := ⟨j.toNat, by omega⟩
      subst hi0 hj0
      have hip : i0 < ps.length := by omega
      have hjp : j0 < ps.length := by omega
      have hr : Hid (InR (labels ps).length i0 j0) := by
        show InR _ _ _
        rw [HLL.out]; exact ⟨⟨r1, r2⟩, r3, r4⟩
      have hr2 : Hid (InR (labels ps).length j0 i0) := ⟨hr.out.2, hr.out.1⟩
      have HCM : Hid (∀ (A : Option Addr) (c : Nat) (w : World), Labs w A (labels ps) → Calls Try.prog 26 #[.slice A ps.length c, .int .i64 i0, .int .i64 j0] w fun e w' => ∃ k, e = .returned (.int .i64 k) ∧ IsLow ps i0 j0 k ∧ Below w.heap.size w w') := by
        intro A c w h
        have := common_any A c (labels ps) i0 j0 w h (by rw [HLL.out]; exact hx'.out)
        rw [HLL.out] at this
        refine this.mono ?_
        rintro e w' ⟨hb, k, rfl, hk⟩
        exact ⟨k, rfl, comP.low hF.out hr.out hk, hb⟩
      go_enter Try.func9, Try.ntmps9
      go_wp2_with fail
      refine HA.out.mono ?_
      rintro e w1 ⟨Ag, cg, rfl, hL, hb1'⟩
      go_wp2_with fail
      refine (HCM.out _ _ _ hL).mono ?_
      rintro e w2 ⟨k, rfl, hk, hb2⟩
      have hL2 : Labs w2 Ag (labels ps) := hL.below hb2
      have hA2 := (hA.below hb1').below hb2
      have hkl := hk.lt F.out hip
      have hk' := Lib.hid hk
      have HCS : Hid (∀ w, Labs w Ag (labels ps) → Calls Try.prog 26 #[.slice Ag ps.length cg, .int .i64 j0, .int .i64 i0] w fun e w' => e = .returned (.int .i64 k) ∧ Below w.heap.size w w') := by
        intro w h
        have := common_any Ag cg (labels ps) j0 i0 w h (by rw [HLL.out]; exact hx'.out)
        rw [HLL.out] at this
        refine this.mono ?_
        rintro e w' ⟨hb, k2, rfl, hk2⟩
        have h2 := (comP.low hF.out hr2.out hk2).swap
        rw [h2.uniq F.out hip hk'.out]
        exact ⟨rfl, hb⟩
      obtain ⟨bp, offp, rfl, p0⟩ := hA2.get hip
      obtain ⟨_, _, e, p1⟩ := hA2.get hjp
      cases e
      have HSS : Hid (∀ (sb : Bool), (sb = true ↔ (i0 ≠ j0 ∧ ps[i0] = ps[j0])) → ∀ w, Labs w Ag (labels ps) → Calls Try.prog 24 #[.slice Ag ps.length cg, .int .i64 i0, .int .i64 j0] w fun e w' => e = .returned (.bool sb) ∧ Below w.heap.size w w') := by
        intro sb hsb w h
        have := sisters_any Ag cg (labels ps) i0 j0 w h (by rw [HLL.out]; exact hx'.out)
        rw [HLL.out] at this
        refine this.mono ?_
        rintro e w' ⟨hb, b, rfl, hbb⟩
        rw [sisP_of hF.out hr.out] at hbb
        have e1 : ps.getD ((i0 : Int)).toNat 0 = ps[i0] := by simp [List.getD, hip]
        have e2 : ps.getD ((j0 : Int)).toNat 0 = ps[j0] := by simp [List.getD, hjp]
        rw [e1, e2] at hbb
        have e3 : b = sb := by
          rw [Bool.eq_iff_iff, hbb, hsb]
          constructor
          · rintro ⟨h1, h2⟩; exact ⟨by omega, h2⟩
          · rintro ⟨h1, h2⟩; exact ⟨by omega, h2⟩
        rw [e3]
        exact ⟨rfl, hb⟩
      have hk3 : decide ((ps.length : Int) ≤ k) = false := decide_eq_false (by omega)
      have hkL : k < ps.length := by omega
      clear HCM HA hk hL hA
      have hr40 : decide ((40 : Int) < ps.length) = false := decide_eq_false (by omega)
      have hr40' : decide (40 < ps.length) = false := decide_eq_false (by omega)
      have q1 : decide ((i0 : Int) < 0) = false := decide_eq_false (by omega)
      have q2 : decide (ps.length ≤ i0) = false := decide_eq_false (by omega)
      have q3 : decide ((j0 : Int) < 0) = false := decide_eq_false (by omega)
      have q4 : decide (ps.length ≤ j0) = false := decide_eq_false (by omega)
      go_upto_region 6 with (fail)
      go_cut [87] (fun s87 wx => s87 = .bool false ∧ Labs wx Ag (labels ps) ∧ Below w.heap.size w wx)
      case first =>
        by_cases hij : i0 = j0
        · have hb1 : ((i0 : Int) != (j0 : Int)) = false := by simp [hij]
          have hsb : Hid (false = true ↔ (i0 ≠ j0 ∧ ps[i0] = ps[j0])) := by show _ ↔ _; simp [hij]
          clear hij
          refine wp_reg_abs (some 50 :: some 51 :: some 52 :: some 53 :: some 54 :: some 55 :: some 56 :: some 57 :: some 58 :: some 59 :: some 60 :: some 61 :: some 62 :: some 63 :: some 64 :: some 65 :: some 66 :: some 67 :: some 68 :: some 69 :: some 70 :: some 71 :: some 72 :: some 73 :: some 74 :: some 75 :: some 76 :: some 77 :: some 78 :: some 79 :: some 80 :: some 81 :: some 82 :: some 83 :: some 84 :: some 85 :: some 86 :: some 87 :: []) (?v1_0 :: ?v1_1 :: ?v1_2 :: ?v1_3 :: ?v1_4 :: ?v1_5 :: ?v1_6 :: ?v1_7 :: ?v1_8 :: ?v1_9 :: ?v1_10 :: ?v1_11 :: ?v1_12 :: ?v1_13 :: ?v1_14 :: ?v1_15 :: ?v1_16 :: ?v1_17 :: ?v1_18 :: ?v1_19 :: ?v1_20 :: ?v1_21 :: ?v1_22 :: ?v1_23 :: ?v1_24 :: ?v1_25 :: ?v1_26 :: ?v1_27 :: ?v1_28 :: ?v1_29 :: ?v1_30 :: ?v1_31 :: ?v1_32 :: ?v1_33 :: ?v1_34 :: ?v1_35 :: ?v1_36 :: ?v1_37 :: []) rfl (by kernel_rfl) rfl rfl ⟨?s1_0, ?s1_1, ?s1_2, ?s1_3, ?s1_4, ?s1_5, ?s1_6, ?s1_7, ?s1_8, ?s1_9, ?s1_10, ?s1_11, ?s1_12, ?s1_13, ?s1_14, ?s1_15, ?s1_16, ?s1_17, ?s1_18, ?s1_19, ?s1_20, ?s1_21, ?s1_22, ?s1_23, ?s1_24, ?s1_25, ?s1_26, ?s1_27, ?s1_28, ?s1_29, ?s1_30, ?s1_31, ?s1_32, ?s1_33, ?s1_34, ?s1_35, ?s1_36, ?s1_37, trivial⟩ ?p1
          case s1_0 =>
            intro t9 w9 hT9 hV9 hO9 K9 hK9
            have o9_8 := hO9 8 _ (by kernel_rfl) rfl
            clear hV9 hO9
            go_simp
            exact hK9 _ (Grow.refl _)
          case s1_1 =>
            intro t9 w9 hT9 hV9 hO9 K9 hK9
            have p9_0 : t9[50]? = some ?v1_0 := hV9 0 50 rfl rfl (of_decide_eq_true (by kernel_rfl))
            clear hV9 hO9
            go_simp
            exact hK9 _ (Grow.refl _)
          case s1_2 =>
            intro t9 w9 hT9 hV9 hO9 K9 hK9
            have o9_7 := hO9 7 _ (by kernel_rfl) rfl
            clear hV9 hO9
            go_simp
            exact hK9 _ (Grow.refl _)
          case s1_3 =>
            intro t9 w9 hT9 hV9 hO9 K9 hK9
            have p9_1 : t9[51]? = some ?v1_1 := hV9 1 51 rfl rfl (of_decide_eq_true (by kernel_rfl))
            have p9_2 : t9[52]? = some ?v1_2 := hV9 2 52 rfl rfl (of_decide_eq_true (by kernel_rfl))
            clear hV9 hO9
            go_simp
            exact hK9 _ (Grow.refl _)
          case s1_4 =>
            intro t9 w9 hT9 hV9 hO9 K9 hK9
            have p9_3 : t9[53]? = some ?v1_3 := hV9 3 53 rfl rfl (of_decide_eq_true (by kernel_rfl))
            clear hV9 hO9
            go_simp
            exact hK9 _ (Grow.refl _)
          case s1_5 =>
            intro t9 w9 hT9 hV9 hO9 K9 hK9
            have p9_4 : t9[54]? = some ?v1_4 := hV9 4 54 rfl rfl (of_decide_eq_true (by kernel_rfl))
            have o9_8 := hO9 8 _ (by kernel_rfl) rfl
            clear hV9 hO9
            go_simp
            exact hK9 _ (Grow.refl _)
          case s1_6 =>
            intro t9 w9 hT9 hV9 hO9 K9 hK9
            have p9_4 : t9[54]? = some ?v1_4 := hV9 4 54 rfl rfl (of_decide_eq_true (by kernel_rfl))
            have o9_2 := hO9 2 _ (by kernel_rfl) rfl
            clear hV9 hO9
            go_simp
            exact hK9 _ (Grow.refl _)
          case s1_7 =>
            intro t9 w9 hT9 hV9 hO9 K9 hK9
            have p9_4 : t9[54]? = some ?v1_4 := hV9 4 54 rfl rfl (of_decide_eq_true (by kernel_rfl))
            have o9_1 := hO9 1 _ (by kernel_rfl) rfl
            clear hV9 hO9
            go_simp
            exact hK9 _ (Grow.refl _)
          case s1_8 =>
            intro t9 w9 hT9 hV9 hO9 K9 hK9
            have p9_4 : t9[54]? = some ?v1_4 := hV9 4 54 rfl rfl (of_decide_eq_true (by kernel_rfl))
            have p9_5 : t9[55]? = some ?v1_5 := hV9 5 55 rfl rfl (of_decide_eq_true (by kernel_rfl))
            have p9_6 : t9[56]? = some ?v1_6 := hV9 6 56 rfl rfl (of_decide_eq_true (by kernel_rfl))
            have p9_7 : t9[57]? = some ?v1_7 := hV9 7 57 rfl rfl (of_decide_eq_true (by kernel_rfl))
            clear hV9 hO9
            go_simp
            first | exact hK9 _ (Grow.refl _) | (refine (HCS.out _ (hL2.below hT9.below)).mono ?_; rintro _ w8 ⟨rfl, hb8⟩; exact hK9 _ hb8)
          case s1_9 =>
            intro t9 w9 hT9 hV9 hO9 K9 hK9
            have p9_4 : t9[54]? = some ?v1_4 := hV9 4 54 rfl rfl (of_decide_eq_true (by kernel_rfl))
            have o9_11 := hO9 11 _ (by kernel_rfl) rfl
            clear hV9 hO9
            go_simp
            exact hK9 _ (Grow.refl _)
          case s1_10 =>
            intro t9 w9 hT9 hV9 hO9 K9 hK9
            have p9_4 : t9[54]? = some ?v1_4 := hV9 4 54 rfl rfl (of_decide_eq_true (by kernel_rfl))
            have p9_8 : t9[58]? = some ?v1_8 := hV9 8 58 rfl rfl (of_decide_eq_true (by kernel_rfl))
            have p9_9 : t9[59]? = some ?v1_9 := hV9 9 59 rfl rfl (of_decide_eq_true (by kernel_rfl))
            clear hV9 hO9
            go_simp
            exact hK9 _ (Grow.refl _)
          case s1_11 =>
            intro t9 w9 hT9 hV9 hO9 K9 hK9
            have p9_4 : t9[54]? = some ?v1_4 := hV9 4 54 rfl rfl (of_decide_eq_true (by kernel_rfl))
            have p9_10 : t9[60]? = some ?v1_10 := hV9 10 60 rfl rfl (of_decide_eq_true (by kernel_rfl))
            clear hV9 hO9
            go_simp
            exact hK9 _ (Grow.refl _)
          case s1_12 =>
            intro t9 w9 hT9 hV9 hO9 K9 hK9
            have p9_11 : t9[61]? = some ?v1_11 := hV9 11 61 rfl rfl (of_decide_eq_true (by kernel_rfl))
            clear hV9 hO9
            go_simp
            exact hK9 _ (Grow.refl _)
          case s1_13 =>
            intro t9 w9 hT9 hV9 hO9 K9 hK9
            have p9_12 : t9[62]? = some ?v1_12 := hV9 12 62 rfl rfl (of_decide_eq_true (by kernel_rfl))
            have o9_8 := hO9 8 _ (by kernel_rfl) rfl
            clear hV9 hO9
            go_simp
            exact hK9 _ (Grow.refl _)
          case s1_14 =>
            intro t9 w9 hT9 hV9 hO9 K9 hK9
            have p9_12 : t9[62]? = some ?v1_12 := hV9 12 62 rfl rfl (of_decide_eq_true (by kernel_rfl))
            have o9_1 := hO9 1 _ (by kernel_rfl) rfl
            clear hV9 hO9
            go_simp
            exact hK9 _ (Grow.refl _)
          case s1_15 =>
            intro t9 w9 hT9 hV9 hO9 K9 hK9
            have p9_12 : t9[62]? = some ?v1_12 := hV9 12 62 rfl rfl (of_decide_eq_true (by kernel_rfl))
            have o9_2 := hO9 2 _ (by kernel_rfl) rfl
            clear hV9 hO9
            go_simp
            exact hK9 _ (Grow.refl _)
          case s1_16 =>
            intro t9 w9 hT9 hV9 hO9 K9 hK9
            have p9_12 : t9[62]? = some ?v1_12 := hV9 12 62 rfl rfl (of_decide_eq_true (by kernel_rfl))
            have p9_13 : t9[63]? = some ?v1_13 := hV9 13 63 rfl rfl (of_decide_eq_true (by kernel_rfl))
            have p9_14 : t9[64]? = some ?v1_14 := hV9 14 64 rfl rfl (of_decide_eq_true (by kernel_rfl))
            have p9_15 : t9[65]? = some ?v1_15 := hV9 15 65 rfl rfl (of_decide_eq_true (by kernel_rfl))
            clear hV9 hO9
            go_simp
            first | exact hK9 _ (Grow.refl _) | (refine (HSS.out _ hsb.out _ (hL2.below hT9.below)).mono ?_; rintro _ w8 ⟨rfl, hb8⟩; exact hK9 _ hb8)
          case s1_17 =>
            intro t9 w9 hT9 hV9 hO9 K9 hK9
            have p9_12 : t9[62]? = some ?v1_12 := hV9 12 62 rfl rfl (of_decide_eq_true (by kernel_rfl))
            have o9_1 := hO9 1 _ (by kernel_rfl) rfl
            clear hV9 hO9
            go_simp
            exact hK9 _ (Grow.refl _)
          case s1_18 =>
            intro t9 w9 hT9 hV9 hO9 K9 hK9
            have p9_12 : t9[62]? = some ?v1_12 := hV9 12 62 rfl rfl (of_decide_eq_true (by kernel_rfl))
            have o9_2 := hO9 2 _ (by kernel_rfl) rfl
            clear hV9 hO9
            go_simp
            exact hK9 _ (Grow.refl _)
          case s1_19 =>
            intro t9 w9 hT9 hV9 hO9 K9 hK9
            have p9_12 : t9[62]? = some ?v1_12 := hV9 12 62 rfl rfl (of_decide_eq_true (by kernel_rfl))
            have p9_17 : t9[67]? = some ?v1_17 := hV9 17 67 rfl rfl (of_decide_eq_true (by kernel_rfl))
            have p9_18 : t9[68]? = some ?v1_18 := hV9 18 68 rfl rfl (of_decide_eq_true (by kernel_rfl))
            clear hV9 hO9
            go_simp
            exact hK9 _ (Grow.refl _)
          case s1_20 =>
            intro t9 w9 hT9 hV9 hO9 K9 hK9
            have p9_12 : t9[62]? = some ?v1_12 := hV9 12 62 rfl rfl (of_decide_eq_true (by kernel_rfl))
            have p9_19 : t9[69]? = some ?v1_19 := hV9 19 69 rfl rfl (of_decide_eq_true (by kernel_rfl))
            clear hV9 hO9
            go_simp
            exact hK9 _ (Grow.refl _)
          case s1_21 =>
            intro t9 w9 hT9 hV9 hO9 K9 hK9
            have p9_20 : t9[70]? = some ?v1_20 := hV9 20 70 rfl rfl (of_decide_eq_true (by kernel_rfl))
            have o9_0 := hO9 0 _ (by kernel_rfl) rfl
            clear hV9 hO9
            go_simp
            exact hK9 _ (Grow.refl _)
          case s1_22 =>
            intro t9 w9 hT9 hV9 hO9 K9 hK9
            have p9_20 : t9[70]? = some ?v1_20 := hV9 20 70 rfl rfl (of_decide_eq_true (by kernel_rfl))
            have o9_1 := hO9 1 _ (by kernel_rfl) rfl
            clear hV9 hO9
            go_simp
            exact hK9 _ (Grow.refl _)
          case s1_23 =>
            intro t9 w9 hT9 hV9 hO9 K9 hK9
            have p9_20 : t9[70]? = some ?v1_20 := hV9 20 70 rfl rfl (of_decide_eq_true (by kernel_rfl))
            have p9_21 : t9[71]? = some ?v1_21 := hV9 21 71 rfl rfl (of_decide_eq_true (by kernel_rfl))
            have p9_22 : t9[72]? = some ?v1_22 := hV9 22 72 rfl rfl (of_decide_eq_true (by kernel_rfl))
            clear hV9 hO9
            go_simp
            exact hK9 _ (Grow.refl _)
          case s1_24 =>
            intro t9 w9 hT9 hV9 hO9 K9 hK9
            have p9_20 : t9[70]? = some ?v1_20 := hV9 20 70 rfl rfl (of_decide_eq_true (by kernel_rfl))
            have p9_23 : t9[73]? = some ?v1_23 := hV9 23 73 rfl rfl (of_decide_eq_true (by kernel_rfl))
            clear hV9 hO9
            have d9_0 := grow_cell hT9 p0
            have d9_1 := grow_cell hT9 p1
            go_simp
            exact hK9 _ (Grow.refl _)
          case s1_25 =>
            intro t9 w9 hT9 hV9 hO9 K9 hK9
            have p9_20 : t9[70]? = some ?v1_20 := hV9 20 70 rfl rfl (of_decide_eq_true (by kernel_rfl))
            have o9_0 := hO9 0 _ (by kernel_rfl) rfl
            clear hV9 hO9
            go_simp
            exact hK9 _ (Grow.refl _)
          case s1_26 =>
            intro t9 w9 hT9 hV9 hO9 K9 hK9
            have p9_20 : t9[70]? = some ?v1_20 := hV9 20 70 rfl rfl (of_decide_eq_true (by kernel_rfl))
            have o9_2 := hO9 2 _ (by kernel_rfl) rfl
            clear hV9 hO9
            go_simp
            exact hK9 _ (Grow.refl _)
          case s1_27 =>
            intro t9 w9 hT9 hV9 hO9 K9 hK9
            have p9_20 : t9[70]? = some ?v1_20 := hV9 20 70 rfl rfl (of_decide_eq_true (by kernel_rfl))
            have p9_25 : t9[75]? = some ?v1_25 := hV9 25 75 rfl rfl (of_decide_eq_true (by kernel_rfl))
            have p9_26 : t9[76]? = some ?v1_26 := hV9 26 76 rfl rfl (of_decide_eq_true (by kernel_rfl))
            clear hV9 hO9
            go_simp
            exact hK9 _ (Grow.refl _)
          case s1_28 =>
            intro t9 w9 hT9 hV9 hO9 K9 hK9
            have p9_20 : t9[70]? = some ?v1_20 := hV9 20 70 rfl rfl (of_decide_eq_true (by kernel_rfl))
            have p9_27 : t9[77]? = some ?v1_27 := hV9 27 77 rfl rfl (of_decide_eq_true (by kernel_rfl))
            clear hV9 hO9
            have d9_0 := grow_cell hT9 p0
            have d9_1 := grow_cell hT9 p1
            go_simp
            exact hK9 _ (Grow.refl _)
          case s1_29 =>
            intro t9 w9 hT9 hV9 hO9 K9 hK9
            have p9_20 : t9[70]? = some ?v1_20 := hV9 20 70 rfl rfl (of_decide_eq_true (by kernel_rfl))
            have p9_24 : t9[74]? = some ?v1_24 := hV9 24 74 rfl rfl (of_decide_eq_true (by kernel_rfl))
            have p9_28 : t9[78]? = some ?v1_28 := hV9 28 78 rfl rfl (of_decide_eq_true (by kernel_rfl))
            clear hV9 hO9
            go_simp
            exact hK9 _ (Grow.refl _)
          case s1_30 =>
            intro t9 w9 hT9 hV9 hO9 K9 hK9
            have p9_12 : t9[62]? = some ?v1_12 := hV9 12 62 rfl rfl (of_decide_eq_true (by kernel_rfl))
            have p9_20 : t9[70]? = some ?v1_20 := hV9 20 70 rfl rfl (of_decide_eq_true (by kernel_rfl))
            have p9_29 : t9[79]? = some ?v1_29 := hV9 29 79 rfl rfl (of_decide_eq_true (by kernel_rfl))
            clear hV9 hO9
            go_simp
            exact hK9 _ (Grow.refl _)
          case s1_31 =>
            intro t9 w9 hT9 hV9 hO9 K9 hK9
            have p9_12 : t9[62]? = some ?v1_12 := hV9 12 62 rfl rfl (of_decide_eq_true (by kernel_rfl))
            have p9_16 : t9[66]? = some ?v1_16 := hV9 16 66 rfl rfl (of_decide_eq_true (by kernel_rfl))
            have p9_30 : t9[80]? = some ?v1_30 := hV9 30 80 rfl rfl (of_decide_eq_true (by kernel_rfl))
            clear hV9 hO9
            go_simp
            exact hK9 _ (Grow.refl _)
          case s1_32 =>
            intro t9 w9 hT9 hV9 hO9 K9 hK9
            have p9_12 : t9[62]? = some ?v1_12 := hV9 12 62 rfl rfl (of_decide_eq_true (by kernel_rfl))
            have p9_31 : t9[81]? = some ?v1_31 := hV9 31 81 rfl rfl (of_decide_eq_true (by kernel_rfl))
            clear hV9 hO9
            go_simp
            exact hK9 _ (Grow.refl _)
          case s1_33 =>
            intro t9 w9 hT9 hV9 hO9 K9 hK9
            have p9_32 : t9[82]? = some ?v1_32 := hV9 32 82 rfl rfl (of_decide_eq_true (by kernel_rfl))
            clear hV9 hO9
            go_simp
            exact hK9 _ (Grow.refl _)
          case s1_34 =>
            intro t9 w9 hT9 hV9 hO9 K9 hK9
            have p9_33 : t9[83]? = some ?v1_33 := hV9 33 83 rfl rfl (of_decide_eq_true (by kernel_rfl))
            have o9_11 := hO9 11 _ (by kernel_rfl) rfl
            clear hV9 hO9
            go_simp
            exact hK9 _ (Grow.refl _)
          case s1_35 =>
            intro t9 w9 hT9 hV9 hO9 K9 hK9
            have p9_33 : t9[83]? = some ?v1_33 := hV9 33 83 rfl rfl (of_decide_eq_true (by kernel_rfl))
            have o9_7 := hO9 7 _ (by kernel_rfl) rfl
            clear hV9 hO9
            go_simp
            exact hK9 _ (Grow.refl _)
          case s1_36 =>
            intro t9 w9 hT9 hV9 hO9 K9 hK9
            have p9_33 : t9[83]? = some ?v1_33 := hV9 33 83 rfl rfl (of_decide_eq_true (by kernel_rfl))
            have p9_34 : t9[84]? = some ?v1_34 := hV9 34 84 rfl rfl (of_decide_eq_true (by kernel_rfl))
            have p9_35 : t9[85]? = some ?v1_35 := hV9 35 85 rfl rfl (of_decide_eq_true (by kernel_rfl))
            clear hV9 hO9
            go_simp
            exact hK9 _ (Grow.refl _)
          case s1_37 =>
            intro t9 w9 hT9 hV9 hO9 K9 hK9
            have p9_33 : t9[83]? = some ?v1_33 := hV9 33 83 rfl rfl (of_decide_eq_true (by kernel_rfl))
            have p9_36 : t9[86]? = some ?v1_36 := hV9 36 86 rfl rfl (of_decide_eq_true (by kernel_rfl))
            clear hV9 hO9
            go_simp
            exact hK9 _ (Grow.refl _)
          intro w9 hb9
          simp only [putAll, Act.put, List.setIfInBounds_toArray, List.set_cons_succ, List.set_cons_zero, List.getD_cons_succ, List.getD_cons_zero, Nat.reduceAdd, Nat.zero_add]
          go_wp2_with fail
          go_meet
          exact ⟨rfl, hL2.below hb9, below5 (below5 hb1' hb2) hb9⟩
        · have hb1 : ((i0 : Int) != (j0 : Int)) = true := by simp; omega
          have hsb : Hid ((ps[i0] == ps[j0]) = true ↔ (i0 ≠ j0 ∧ ps[i0] = ps[j0])) := by show _ ↔ _; simp [hij]
          clear hij
          refine wp_reg_abs (some 50 :: some 51 :: some 52 :: some 53 :: some 54 :: some 55 :: some 56 :: some 57 :: some 58 :: some 59 :: some 60 :: some 61 :: some 62 :: some 63 :: some 64 :: some 65 :: some 66 :: some 67 :: some 68 :: some 69 :: some 70 :: some 71 :: some 72 :: some 73 :: some 74 :: some 75 :: some 76 :: some 77 :: some 78 :: some 79 :: some 80 :: some 81 :: some 82 :: some 83 :: some 84 :: some 85 :: some 86 :: some 87 :: []) (?v2_0 :: ?v2_1 :: ?v2_2 :: ?v2_3 :: ?v2_4 :: ?v2_5 :: ?v2_6 :: ?v2_7 :: ?v2_8 :: ?v2_9 :: ?v2_10 :: ?v2_11 :: ?v2_12 :: ?v2_13 :: ?v2_14 :: ?v2_15 :: ?v2_16 :: ?v2_17 :: ?v2_18 :: ?v2_19 :: ?v2_20 :: ?v2_21 :: ?v2_22 :: ?v2_23 :: ?v2_24 :: ?v2_25 :: ?v2_26 :: ?v2_27 :: ?v2_28 :: ?v2_29 :: ?v2_30 :: ?v2_31 :: ?v2_32 :: ?v2_33 :: ?v2_34 :: ?v2_35 :: ?v2_36 :: ?v2_37 :: []) rfl (by kernel_rfl) rfl rfl ⟨?s2_0, ?s2_1, ?s2_2, ?s2_3, ?s2_4, ?s2_5, ?s2_6, ?s2_7, ?s2_8, ?s2_9, ?s2_10, ?s2_11, ?s2_12, ?s2_13, ?s2_14, ?s2_15, ?s2_16, ?s2_17, ?s2_18, ?s2_19, ?s2_20, ?s2_21, ?s2_22, ?s2_23, ?s2_24, ?s2_25, ?s2_26, ?s2_27, ?s2_28, ?s2_29, ?s2_30, ?s2_31, ?s2_32, ?s2_33, ?s2_34, ?s2_35, ?s2_36, ?s2_37, trivial⟩ ?p2
          case s2_0 =>
            intro t9 w9 hT9 hV9 hO9 K9 hK9
            have o9_8 := hO9 8 _ (by kernel_rfl) rfl
            clear hV9 hO9
            go_simp
            exact hK9 _ (Grow.refl _)
          case s2_1 =>
            intro t9 w9 hT9 hV9 hO9 K9 hK9
            have p9_0 : t9[50]? = some ?v2_0 := hV9 0 50 rfl rfl (of_decide_eq_true (by kernel_rfl))
            clear hV9 hO9
            go_simp
            exact hK9 _ (Grow.refl _)
          case s2_2 =>
            intro t9 w9 hT9 hV9 hO9 K9 hK9
            have o9_7 := hO9 7 _ (by kernel_rfl) rfl
            clear hV9 hO9
            go_simp
            exact hK9 _ (Grow.refl _)
          case s2_3 =>
            intro t9 w9 hT9 hV9 hO9 K9 hK9
            have p9_1 : t9[51]? = some ?v2_1 := hV9 1 51 rfl rfl (of_decide_eq_true (by kernel_rfl))
            have p9_2 : t9[52]? = some ?v2_2 := hV9 2 52 rfl rfl (of_decide_eq_true (by kernel_rfl))
            clear hV9 hO9
            go_simp
            exact hK9 _ (Grow.refl _)
          case s2_4 =>
            intro t9 w9 hT9 hV9 hO9 K9 hK9
            have p9_3 : t9[53]? = some ?v2_3 := hV9 3 53 rfl rfl (of_decide_eq_true (by kernel_rfl))
            clear hV9 hO9
            go_simp
            exact hK9 _ (Grow.refl _)
          case s2_5 =>
            intro t9 w9 hT9 hV9 hO9 K9 hK9
            have p9_4 : t9[54]? = some ?v2_4 := hV9 4 54 rfl rfl (of_decide_eq_true (by kernel_rfl))
            have o9_8 := hO9 8 _ (by kernel_rfl) rfl
            clear hV9 hO9
            go_simp
            exact hK9 _ (Grow.refl _)
          case s2_6 =>
            intro t9 w9 hT9 hV9 hO9 K9 hK9
            have p9_4 : t9[54]? = some ?v2_4 := hV9 4 54 rfl rfl (of_decide_eq_true (by kernel_rfl))
            have o9_2 := hO9 2 _ (by kernel_rfl) rfl
            clear hV9 hO9
            go_simp
            exact hK9 _ (Grow.refl _)
          case s2_7 =>
            intro t9 w9 hT9 hV9 hO9 K9 hK9
            have p9_4 : t9[54]? = some ?v2_4 := hV9 4 54 rfl rfl (of_decide_eq_true (by kernel_rfl))
            have o9_1 := hO9 1 _ (by kernel_rfl) rfl
            clear hV9 hO9
            go_simp
            exact hK9 _ (Grow.refl _)
          case s2_8 =>
            intro t9 w9 hT9 hV9 hO9 K9 hK9
            have p9_4 : t9[54]? = some ?v2_4 := hV9 4 54 rfl rfl (of_decide_eq_true (by kernel_rfl))
            have p9_5 : t9[55]? = some ?v2_5 := hV9 5 55 rfl rfl (of_decide_eq_true (by kernel_rfl))
            have p9_6 : t9[56]? = some ?v2_6 := hV9 6 56 rfl rfl (of_decide_eq_true (by kernel_rfl))
            have p9_7 : t9[57]? = some ?v2_7 := hV9 7 57 rfl rfl (of_decide_eq_true (by kernel_rfl))
            clear hV9 hO9
            go_simp
            first | exact hK9 _ (Grow.refl _) | (refine (HCS.out _ (hL2.below hT9.below)).mono ?_; rintro _ w8 ⟨rfl, hb8⟩; exact hK9 _ hb8)
          case s2_9 =>
            intro t9 w9 hT9 hV9 hO9 K9 hK9
            have p9_4 : t9[54]? = some ?v2_4 := hV9 4 54 rfl rfl (of_decide_eq_true (by kernel_rfl))
            have o9_11 := hO9 11 _ (by kernel_rfl) rfl
            clear hV9 hO9
            go_simp
            exact hK9 _ (Grow.refl _)
          case s2_10 =>
            intro t9 w9 hT9 hV9 hO9 K9 hK9
            have p9_4 : t9[54]? = some ?v2_4 := hV9 4 54 rfl rfl (of_decide_eq_true (by kernel_rfl))
            have p9_8 : t9[58]? = some ?v2_8 := hV9 8 58 rfl rfl (of_decide_eq_true (by kernel_rfl))
            have p9_9 : t9[59]? = some ?v2_9 := hV9 9 59 rfl rfl (of_decide_eq_true (by kernel_rfl))
            clear hV9 hO9
            go_simp
            exact hK9 _ (Grow.refl _)
          case s2_11 =>
            intro t9 w9 hT9 hV9 hO9 K9 hK9
            have p9_4 : t9[54]? = some ?v2_4 := hV9 4 54 rfl rfl (of_decide_eq_true (by kernel_rfl))
            have p9_10 : t9[60]? = some ?v2_10 := hV9 10 60 rfl rfl (of_decide_eq_true (by kernel_rfl))
            clear hV9 hO9
            go_simp
            exact hK9 _ (Grow.refl _)
          case s2_12 =>
            intro t9 w9 hT9 hV9 hO9 K9 hK9
            have p9_11 : t9[61]? = some ?v2_11 := hV9 11 61 rfl rfl (of_decide_eq_true (by kernel_rfl))
            clear hV9 hO9
            go_simp
            exact hK9 _ (Grow.refl _)
          case s2_13 =>
            intro t9 w9 hT9 hV9 hO9 K9 hK9
            have p9_12 : t9[62]? = some ?v2_12 := hV9 12 62 rfl rfl (of_decide_eq_true (by kernel_rfl))
            have o9_8 := hO9 8 _ (by kernel_rfl) rfl
            clear hV9 hO9
            go_simp
            exact hK9 _ (Grow.refl _)
          case s2_14 =>
            intro t9 w9 hT9 hV9 hO9 K9 hK9
            have p9_12 : t9[62]? = some ?v2_12 := hV9 12 62 rfl rfl (of_decide_eq_true (by kernel_rfl))
            have o9_1 := hO9 1 _ (by kernel_rfl) rfl
            clear hV9 hO9
            go_simp
            exact hK9 _ (Grow.refl _)
          case s2_15 =>
            intro t9 w9 hT9 hV9 hO9 K9 hK9
            have p9_12 : t9[62]? = some ?v2_12 := hV9 12 62 rfl rfl (of_decide_eq_true (by kernel_rfl))
            have o9_2 := hO9 2 _ (by kernel_rfl) rfl
            clear hV9 hO9
            go_simp
            exact hK9 _ (Grow.refl _)
          case s2_16 =>
            intro t9 w9 hT9 hV9 hO9 K9 hK9
            have p9_12 : t9[62]? = some ?v2_12 := hV9 12 62 rfl rfl (of_decide_eq_true (by kernel_rfl))
            have p9_13 : t9[63]? = some ?v2_13 := hV9 13 63 rfl rfl (of_decide_eq_true (by kernel_rfl))
            have p9_14 : t9[64]? = some ?v2_14 := hV9 14 64 rfl rfl (of_decide_eq_true (by kernel_rfl))
            have p9_15 : t9[65]? = some ?v2_15 := hV9 15 65 rfl rfl (of_decide_eq_true (by kernel_rfl))
            clear hV9 hO9
            go_simp
            first | exact hK9 _ (Grow.refl _) | (refine (HSS.out _ hsb.out _ (hL2.below hT9.below)).mono ?_; rintro _ w8 ⟨rfl, hb8⟩; exact hK9 _ hb8)
          case s2_17 =>
            intro t9 w9 hT9 hV9 hO9 K9 hK9
            have p9_12 : t9[62]? = some ?v2_12 := hV9 12 62 rfl rfl (of_decide_eq_true (by kernel_rfl))
            have o9_1 := hO9 1 _ (by kernel_rfl) rfl
            clear hV9 hO9
            go_simp
            exact hK9 _ (Grow.refl _)
          case s2_18 =>
            intro t9 w9 hT9 hV9 hO9 K9 hK9
            have p9_12 : t9[62]? = some ?v2_12 := hV9 12 62 rfl rfl (of_decide_eq_true (by kernel_rfl))
            have o9_2 := hO9 2 _ (by kernel_rfl) rfl
            clear hV9 hO9
            go_simp
            exact hK9 _ (Grow.refl _)
          case s2_19 =>
            intro t9 w9 hT9 hV9 hO9 K9 hK9
            have p9_12 : t9[62]? = some ?v2_12 := hV9 12 62 rfl rfl (of_decide_eq_true (by kernel_rfl))
            have p9_17 : t9[67]? = some ?v2_17 := hV9 17 67 rfl rfl (of_decide_eq_true (by kernel_rfl))
            have p9_18 : t9[68]? = some ?v2_18 := hV9 18 68 rfl rfl (of_decide_eq_true (by kernel_rfl))
            clear hV9 hO9
            go_simp
            exact hK9 _ (Grow.refl _)
          case s2_20 =>
            intro t9 w9 hT9 hV9 hO9 K9 hK9
            have p9_12 : t9[62]? = some ?v2_12 := hV9 12 62 rfl rfl (of_decide_eq_true (by kernel_rfl))
            have p9_19 : t9[69]? = some ?v2_19 := hV9 19 69 rfl rfl (of_decide_eq_true (by kernel_rfl))
            clear hV9 hO9
            go_simp
            exact hK9 _ (Grow.refl _)
          case s2_21 =>
            intro t9 w9 hT9 hV9 hO9 K9 hK9
            have p9_20 : t9[70]? = some ?v2_20 := hV9 20 70 rfl rfl (of_decide_eq_true (by kernel_rfl))
            have o9_0 := hO9 0 _ (by kernel_rfl) rfl
            clear hV9 hO9
            go_simp
            exact hK9 _ (Grow.refl _)
          case s2_22 =>
            intro t9 w9 hT9 hV9 hO9 K9 hK9
            have p9_20 : t9[70]? = some ?v2_20 := hV9 20 70 rfl rfl (of_decide_eq_true (by kernel_rfl))
            have o9_1 := hO9 1 _ (by kernel_rfl) rfl
            clear hV9 hO9
            go_simp
            exact hK9 _ (Grow.refl _)
          case s2_23 =>
            intro t9 w9 hT9 hV9 hO9 K9 hK9
            have p9_20 : t9[70]? = some ?v2_20 := hV9 20 70 rfl rfl (of_decide_eq_true (by kernel_rfl))
            have p9_21 : t9[71]? = some ?v2_21 := hV9 21 71 rfl rfl (of_decide_eq_true (by kernel_rfl))
            have p9_22 : t9[72]? = some ?v2_22 := hV9 22 72 rfl rfl (of_decide_eq_true (by kernel_rfl))
            clear hV9 hO9
            go_simp
            exact hK9 _ (Grow.refl _)
          case s2_24 =>
            intro t9 w9 hT9 hV9 hO9 K9 hK9
            have p9_20 : t9[70]? = some ?v2_20 := hV9 20 70 rfl rfl (of_decide_eq_true (by kernel_rfl))
            have p9_23 : t9[73]? = some ?v2_23 := hV9 23 73 rfl rfl (of_decide_eq_true (by kernel_rfl))
            clear hV9 hO9
            have d9_0 := grow_cell hT9 p0
            have d9_1 := grow_cell hT9 p1
            go_simp
            exact hK9 _ (Grow.refl _)
          case s2_25 =>
            intro t9 w9 hT9 hV9 hO9 K9 hK9
            have p9_20 : t9[70]? = some ?v2_20 := hV9 20 70 rfl rfl (of_decide_eq_true (by kernel_rfl))
            have o9_0 := hO9 0 _ (by kernel_rfl) rfl
            clear hV9 hO9
            go_simp
            exact hK9 _ (Grow.refl _)
          case s2_26 =>
            intro t9 w9 hT9 hV9 hO9 K9 hK9
            have p9_20 : t9[70]? = some ?v2_20 := hV9 20 70 rfl rfl (of_decide_eq_true (by kernel_rfl))
            have o9_2 := hO9 2 _ (by kernel_rfl) rfl
            clear hV9 hO9
            go_simp
            exact hK9 _ (Grow.refl _)
          case s2_27 =>
            intro t9 w9 hT9 hV9 hO9 K9 hK9
            have p9_20 : t9[70]? = some ?v2_20 := hV9 20 70 rfl rfl (of_decide_eq_true (by kernel_rfl))
            have p9_25 : t9[75]? = some ?v2_25 := hV9 25 75 rfl rfl (of_decide_eq_true (by kernel_rfl))
            have p9_26 : t9[76]? = some ?v2_26 := hV9 26 76 rfl rfl (of_decide_eq_true (by kernel_rfl))
            clear hV9 hO9
            go_simp
            exact hK9 _ (Grow.refl _)
          case s2_28 =>
            intro t9 w9 hT9 hV9 hO9 K9 hK9
            have p9_20 : t9[70]? = some ?v2_20 := hV9 20 70 rfl rfl (of_decide_eq_true (by kernel_rfl))
            have p9_27 : t9[77]? = some ?v2_27 := hV9 27 77 rfl rfl (of_decide_eq_true (by kernel_rfl))
            clear hV9 hO9
            have d9_0 := grow_cell hT9 p0
            have d9_1 := grow_cell hT9 p1
            go_simp
            exact hK9 _ (Grow.refl _)
          case s2_29 =>
            intro t9 w9 hT9 hV9 hO9 K9 hK9
            have p9_20 : t9[70]? = some ?v2_20 := hV9 20 70 rfl rfl (of_decide_eq_true (by kernel_rfl))
            have p9_24 : t9[74]? = some ?v2_24 := hV9 24 74 rfl rfl (of_decide_eq_true (by kernel_rfl))
            have p9_28 : t9[78]? = some ?v2_28 := hV9 28 78 rfl rfl (of_decide_eq_true (by kernel_rfl))
            clear hV9 hO9
            go_simp
            exact hK9 _ (Grow.refl _)
          case s2_30 =>
            intro t9 w9 hT9 hV9 hO9 K9 hK9
            have p9_12 : t9[62]? = some ?v2_12 := hV9 12 62 rfl rfl (of_decide_eq_true (by kernel_rfl))
            have p9_20 : t9[70]? = some ?v2_20 := hV9 20 70 rfl rfl (of_decide_eq_true (by kernel_rfl))
            have p9_29 : t9[79]? = some ?v2_29 := hV9 29 79 rfl rfl (of_decide_eq_true (by kernel_rfl))
            clear hV9 hO9
            go_simp
            exact hK9 _ (Grow.refl _)
          case s2_31 =>
            intro t9 w9 hT9 hV9 hO9 K9 hK9
            have p9_12 : t9[62]? = some ?v2_12 := hV9 12 62 rfl rfl (of_decide_eq_true (by kernel_rfl))
            have p9_16 : t9[66]? = some ?v2_16 := hV9 16 66 rfl rfl (of_decide_eq_true (by kernel_rfl))
            have p9_30 : t9[80]? = some ?v2_30 := hV9 30 80 rfl rfl (of_decide_eq_true (by kernel_rfl))
            clear hV9 hO9
            go_simp
            exact hK9 _ (Grow.refl _)
          case s2_32 =>
            intro t9 w9 hT9 hV9 hO9 K9 hK9
            have p9_12 : t9[62]? = some ?v2_12 := hV9 12 62 rfl rfl (of_decide_eq_true (by kernel_rfl))
            have p9_31 : t9[81]? = some ?v2_31 := hV9 31 81 rfl rfl (of_decide_eq_true (by kernel_rfl))
            clear hV9 hO9
            go_simp
            exact hK9 _ (Grow.refl _)
          case s2_33 =>
            intro t9 w9 hT9 hV9 hO9 K9 hK9
            have p9_32 : t9[82]? = some ?v2_32 := hV9 32 82 rfl rfl (of_decide_eq_true (by kernel_rfl))
            clear hV9 hO9
            go_simp
            exact hK9 _ (Grow.refl _)
          case s2_34 =>
            intro t9 w9 hT9 hV9 hO9 K9 hK9
            have p9_33 : t9[83]? = some ?v2_33 := hV9 33 83 rfl rfl (of_decide_eq_true (by kernel_rfl))
            have o9_11 := hO9 11 _ (by kernel_rfl) rfl
            clear hV9 hO9
            go_simp
            exact hK9 _ (Grow.refl _)
          case s2_35 =>
            intro t9 w9 hT9 hV9 hO9 K9 hK9
            have p9_33 : t9[83]? = some ?v2_33 := hV9 33 83 rfl rfl (of_decide_eq_true (by kernel_rfl))
            have o9_7 := hO9 7 _ (by kernel_rfl) rfl
            clear hV9 hO9
            go_simp
            exact hK9 _ (Grow.refl _)
          case s2_36 =>
            intro t9 w9 hT9 hV9 hO9 K9 hK9
            have p9_33 : t9[83]? = some ?v2_33 := hV9 33 83 rfl rfl (of_decide_eq_true (by kernel_rfl))
            have p9_34 : t9[84]? = some ?v2_34 := hV9 34 84 rfl rfl (of_decide_eq_true (by kernel_rfl))
            have p9_35 : t9[85]? = some ?v2_35 := hV9 35 85 rfl rfl (of_decide_eq_true (by kernel_rfl))
            clear hV9 hO9
            go_simp
            exact hK9 _ (Grow.refl _)
          case s2_37 =>
            intro t9 w9 hT9 hV9 hO9 K9 hK9
            have p9_33 : t9[83]? = some ?v2_33 := hV9 33 83 rfl rfl (of_decide_eq_true (by kernel_rfl))
            have p9_36 : t9[86]? = some ?v2_36 := hV9 36 86 rfl rfl (of_decide_eq_true (by kernel_rfl))
            clear hV9 hO9
            go_simp
            exact hK9 _ (Grow.refl _)
          intro w9 hb9
          simp only [putAll, Act.put, List.setIfInBounds_toArray, List.set_cons_succ, List.set_cons_zero, List.getD_cons_succ, List.getD_cons_zero, Nat.reduceAdd, Nat.zero_add]
          go_wp2_with fail
          go_meet
          exact ⟨rfl, hL2.below hb9, below5 (below5 hb1' hb2) hb9⟩
      case rest =>
        obtain ⟨rfl, hLc, hbc⟩ := hcut
        clear p0 p1 HCS HSS hL2
        go_wp2
        go_loopg [12] ps.length (fun q v wr => ∃ m : Nat, q = ps.length - m ∧ m ≤ ps.length ∧ v = .int .i64 m ∧ Labs wr Ag (labels ps) ∧ Below w.heap.size w wr)
        case atStart => exact ⟨0, rfl, Nat.zero_le _, rfl, hLc, hbc⟩
        case round =>
          clear hLc hbc
          obtain ⟨m, hq, hm, rfl, hLm, hbm⟩ := hrel
          have HQ := Lib.hid hq; clear hq
          by_cases hlt : m < ps.length
          · have hml : m < (labels ps).length := by rw [HLL.out]; exact hlt
            have hil : i0 < (labels ps).length := by rw [HLL.out]; exact hip
            have hjl : j0 < (labels ps).length := by rw [HLL.out]; exact hjp
            obtain ⟨b, off, rfl, m0, m1, m2⟩ := hLm.get hml
            obtain ⟨_, _, e, i0', i1', i2'⟩ := hLm.get hil
            cases e
            obtain ⟨_, _, e, j0', j1', j2'⟩ := hLm.get hjl
            cases e
            rw [labAt_get hml] at m0 m1 m2
            rw [labAt_get hil] at i0' i1' i2'
            rw [labAt_get hjl] at j0' j1' j2'
            clear hml hil hjl
            have di : Dom (labAt (labels ps) m) (labAt (labels ps) i0) = true ↔ Anc ps m i0 := by rw [Dom_iff, F.out.anc_iff hlt hip]
            have dj : Dom (labAt (labels ps) m) (labAt (labels ps) j0) = true ↔ Anc ps m j0 := by rw [Dom_iff, F.out.anc_iff hlt hjp]
            have DI := Lib.hid di
            have DJ := Lib.hid dj
            clear di dj
            have hmI : (m : Int) < ps.length := by omega
            go_upto_region 11 with (fail)
            go_cut [13] (fun s13 wx => ∃ both : Bool, s13 = .bool both ∧ Hid (both = true ↔ (Sub ps m i0 ∧ Sub ps m j0)) ∧ Labs wx (some ⟨b, off, none⟩) (labels ps) ∧ Below w.heap.size w wx)
            case first =>
              by_cases hei : m = i0
              · have bi : (((m : Nat) : Int) == (i0 : Int)) = true := by simp [hei]
                have hsi : Hid (Sub ps m i0) := .inl hei.symm
                clear hei
                by_cases hej : m = j0
                · have bj : (((m : Nat) : Int) == (j0 : Int)) = true := by simp [hej]
                  have hbo : Hid (true = true ↔ (Sub ps m i0 ∧ Sub ps m j0)) := by show _ ↔ _; exact ⟨fun _ => ⟨hsi.out, .inl hej.symm⟩, fun _ => rfl⟩
                  clear hej
                  refine wp_reg_abs (some 93 :: some 94 :: some 95 :: some 96 :: some 97 :: some 98 :: some 99 :: some 100 :: some 101 :: some 102 :: some 103 :: some 104 :: some 105 :: some 106 :: some 107 :: some 108 :: some 109 :: some 110 :: some 111 :: some 112 :: some 113 :: some 114 :: some 115 :: some 116 :: some 117 :: some 118 :: some 119 :: some 120 :: some 121 :: some 122 :: some 13 :: []) (?v3_0 :: ?v3_1 :: ?v3_2 :: ?v3_3 :: ?v3_4 :: ?v3_5 :: ?v3_6 :: ?v3_7 :: ?v3_8 :: ?v3_9 :: ?v3_10 :: ?v3_11 :: ?v3_12 :: ?v3_13 :: ?v3_14 :: ?v3_15 :: ?v3_16 :: ?v3_17 :: ?v3_18 :: ?v3_19 :: ?v3_20 :: ?v3_21 :: ?v3_22 :: ?v3_23 :: ?v3_24 :: ?v3_25 :: ?v3_26 :: ?v3_27 :: ?v3_28 :: ?v3_29 :: ?v3_30 :: []) rfl (by kernel_rfl) rfl rfl ⟨?s3_0, ?s3_1, ?s3_2, ?s3_3, ?s3_4, ?s3_5, ?s3_6, ?s3_7, ?s3_8, ?s3_9, ?s3_10, ?s3_11, ?s3_12, ?s3_13, ?s3_14, ?s3_15, ?s3_16, ?s3_17, ?s3_18, ?s3_19, ?s3_20, ?s3_21, ?s3_22, ?s3_23, ?s3_24, ?s3_25, ?s3_26, ?s3_27, ?s3_28, ?s3_29, ?s3_30, trivial⟩ ?p3
                  case s3_0 =>
                    intro t9 w9 hT9 hV9 hO9 K9 hK9
                    have o9_12 := hO9 12 _ (by kernel_rfl) rfl
                    clear hV9 hO9
                    go_simp
                    exact hK9 _ (Grow.refl _)
                  case s3_1 =>
                    intro t9 w9 hT9 hV9 hO9 K9 hK9
                    have o9_1 := hO9 1 _ (by kernel_rfl) rfl
                    clear hV9 hO9
                    go_simp
                    exact hK9 _ (Grow.refl _)
                  case s3_2 =>
                    intro t9 w9 hT9 hV9 hO9 K9 hK9
                    have p9_0 : t9[93]? = some ?v3_0 := hV9 0 93 rfl rfl (of_decide_eq_true (by kernel_rfl))
                    have p9_1 : t9[94]? = some ?v3_1 := hV9 1 94 rfl rfl (of_decide_eq_true (by kernel_rfl))
                    clear hV9 hO9
                    go_simp
                    exact hK9 _ (Grow.refl _)
                  case s3_3 =>
                    intro t9 w9 hT9 hV9 hO9 K9 hK9
                    have p9_2 : t9[95]? = some ?v3_2 := hV9 2 95 rfl rfl (of_decide_eq_true (by kernel_rfl))
                    clear hV9 hO9
                    go_simp
                    exact hK9 _ (Grow.refl _)
                  case s3_4 =>
                    intro t9 w9 hT9 hV9 hO9 K9 hK9
                    have p9_3 : t9[96]? = some ?v3_3 := hV9 3 96 rfl rfl (of_decide_eq_true (by kernel_rfl))
                    have o9_8 := hO9 8 _ (by kernel_rfl) rfl
                    clear hV9 hO9
                    go_simp
                    exact hK9 _ (Grow.refl _)
                  case s3_5 =>
                    intro t9 w9 hT9 hV9 hO9 K9 hK9
                    have p9_3 : t9[96]? = some ?v3_3 := hV9 3 96 rfl rfl (of_decide_eq_true (by kernel_rfl))
                    have o9_12 := hO9 12 _ (by kernel_rfl) rfl
                    clear hV9 hO9
                    go_simp
                    exact hK9 _ (Grow.refl _)
                  case s3_6 =>
                    intro t9 w9 hT9 hV9 hO9 K9 hK9
                    have p9_3 : t9[96]? = some ?v3_3 := hV9 3 96 rfl rfl (of_decide_eq_true (by kernel_rfl))
                    have p9_4 : t9[97]? = some ?v3_4 := hV9 4 97 rfl rfl (of_decide_eq_true (by kernel_rfl))
                    have p9_5 : t9[98]? = some ?v3_5 := hV9 5 98 rfl rfl (of_decide_eq_true (by kernel_rfl))
                    clear hV9 hO9
                    go_simp
                    exact hK9 _ (Grow.refl _)
                  case s3_7 =>
                    intro t9 w9 hT9 hV9 hO9 K9 hK9
                    have p9_3 : t9[96]? = some ?v3_3 := hV9 3 96 rfl rfl (of_decide_eq_true (by kernel_rfl))
                    have p9_6 : t9[99]? = some ?v3_6 := hV9 6 99 rfl rfl (of_decide_eq_true (by kernel_rfl))
                    clear hV9 hO9
                    have d9_0 := grow_cell hT9 m0
                    have d9_1 := grow_cell hT9 m1
                    have d9_2 := grow_cell hT9 m2
                    have d9_3 := grow_cell hT9 i0'
                    have d9_4 := grow_cell hT9 i1'
                    have d9_5 := grow_cell hT9 i2'
                    have d9_6 := grow_cell hT9 j0'
                    have d9_7 := grow_cell hT9 j1'
                    have d9_8 := grow_cell hT9 j2'
                    go_simp
                    exact hK9 _ (Grow.refl _)
                  case s3_8 =>
                    intro t9 w9 hT9 hV9 hO9 K9 hK9
                    have p9_3 : t9[96]? = some ?v3_3 := hV9 3 96 rfl rfl (of_decide_eq_true (by kernel_rfl))
                    have o9_8 := hO9 8 _ (by kernel_rfl) rfl
                    clear hV9 hO9
                    go_simp
                    exact hK9 _ (Grow.refl _)
                  case s3_9 =>
                    intro t9 w9 hT9 hV9 hO9 K9 hK9
                    have p9_3 : t9[96]? = some ?v3_3 := hV9 3 96 rfl rfl (of_decide_eq_true (by kernel_rfl))
                    have o9_1 := hO9 1 _ (by kernel_rfl) rfl
                    clear hV9 hO9
                    go_simp
                    exact hK9 _ (Grow.refl _)
                  case s3_10 =>
                    intro t9 w9 hT9 hV9 hO9 K9 hK9
                    have p9_3 : t9[96]? = some ?v3_3 := hV9 3 96 rfl rfl (of_decide_eq_true (by kernel_rfl))
                    have p9_8 : t9[101]? = some ?v3_8 := hV9 8 101 rfl rfl (of_decide_eq_true (by kernel_rfl))
                    have p9_9 : t9[102]? = some ?v3_9 := hV9 9 102 rfl rfl (of_decide_eq_true (by kernel_rfl))
                    clear hV9 hO9
                    go_simp
                    exact hK9 _ (Grow.refl _)
                  case s3_11 =>
                    intro t9 w9 hT9 hV9 hO9 K9 hK9
                    have p9_3 : t9[96]? = some ?v3_3 := hV9 3 96 rfl rfl (of_decide_eq_true (by kernel_rfl))
                    have p9_10 : t9[103]? = some ?v3_10 := hV9 10 103 rfl rfl (of_decide_eq_true (by kernel_rfl))
                    clear hV9 hO9
                    have d9_0 := grow_cell hT9 m0
                    have d9_1 := grow_cell hT9 m1
                    have d9_2 := grow_cell hT9 m2
                    have d9_3 := grow_cell hT9 i0'
                    have d9_4 := grow_cell hT9 i1'
                    have d9_5 := grow_cell hT9 i2'
                    have d9_6 := grow_cell hT9 j0'
                    have d9_7 := grow_cell hT9 j1'
                    have d9_8 := grow_cell hT9 j2'
                    go_simp
                    exact hK9 _ (Grow.refl _)
                  case s3_12 =>
                    intro t9 w9 hT9 hV9 hO9 K9 hK9
                    have p9_3 : t9[96]? = some ?v3_3 := hV9 3 96 rfl rfl (of_decide_eq_true (by kernel_rfl))
                    have p9_7 : t9[100]? = some ?v3_7 := hV9 7 100 rfl rfl (of_decide_eq_true (by kernel_rfl))
                    have p9_11 : t9[104]? = some ?v3_11 := hV9 11 104 rfl rfl (of_decide_eq_true (by kernel_rfl))
                    clear hV9 hO9
                    go_simp
                    exact hK9 _ (Grow.refl _)
                  case s3_13 =>
                    intro t9 w9 hT9 hV9 hO9 K9 hK9
                    have p9_3 : t9[96]? = some ?v3_3 := hV9 3 96 rfl rfl (of_decide_eq_true (by kernel_rfl))
                    have p9_12 : t9[105]? = some ?v3_12 := hV9 12 105 rfl rfl (of_decide_eq_true (by kernel_rfl))
                    clear hV9 hO9
                    go_simp
                    exact hK9 _ (Grow.refl _)
                  case s3_14 =>
                    intro t9 w9 hT9 hV9 hO9 K9 hK9
                    have p9_13 : t9[106]? = some ?v3_13 := hV9 13 106 rfl rfl (of_decide_eq_true (by kernel_rfl))
                    clear hV9 hO9
                    go_simp
                    exact hK9 _ (Grow.refl _)
                  case s3_15 =>
                    intro t9 w9 hT9 hV9 hO9 K9 hK9
                    have p9_14 : t9[107]? = some ?v3_14 := hV9 14 107 rfl rfl (of_decide_eq_true (by kernel_rfl))
                    have o9_12 := hO9 12 _ (by kernel_rfl) rfl
                    clear hV9 hO9
                    go_simp
                    exact hK9 _ (Grow.refl _)
                  case s3_16 =>
                    intro t9 w9 hT9 hV9 hO9 K9 hK9
                    have p9_14 : t9[107]? = some ?v3_14 := hV9 14 107 rfl rfl (of_decide_eq_true (by kernel_rfl))
                    have o9_2 := hO9 2 _ (by kernel_rfl) rfl
                    clear hV9 hO9
                    go_simp
                    exact hK9 _ (Grow.refl _)
                  case s3_17 =>
                    intro t9 w9 hT9 hV9 hO9 K9 hK9
                    have p9_14 : t9[107]? = some ?v3_14 := hV9 14 107 rfl rfl (of_decide_eq_true (by kernel_rfl))
                    have p9_15 : t9[108]? = some ?v3_15 := hV9 15 108 rfl rfl (of_decide_eq_true (by kernel_rfl))
                    have p9_16 : t9[109]? = some ?v3_16 := hV9 16 109 rfl rfl (of_decide_eq_true (by kernel_rfl))
                    clear hV9 hO9
                    go_simp
                    exact hK9 _ (Grow.refl _)
                  case s3_18 =>
                    intro t9 w9 hT9 hV9 hO9 K9 hK9
                    have p9_14 : t9[107]? = some ?v3_14 := hV9 14 107 rfl rfl (of_decide_eq_true (by kernel_rfl))
                    have p9_17 : t9[110]? = some ?v3_17 := hV9 17 110 rfl rfl (of_decide_eq_true (by kernel_rfl))
                    clear hV9 hO9
                    go_simp
                    exact hK9 _ (Grow.refl _)
                  case s3_19 =>
                    intro t9 w9 hT9 hV9 hO9 K9 hK9
                    have p9_18 : t9[111]? = some ?v3_18 := hV9 18 111 rfl rfl (of_decide_eq_true (by kernel_rfl))
                    have o9_8 := hO9 8 _ (by kernel_rfl) rfl
                    clear hV9 hO9
                    go_simp
                    exact hK9 _ (Grow.refl _)
                  case s3_20 =>
                    intro t9 w9 hT9 hV9 hO9 K9 hK9
                    have p9_18 : t9[111]? = some ?v3_18 := hV9 18 111 rfl rfl (of_decide_eq_true (by kernel_rfl))
                    have o9_12 := hO9 12 _ (by kernel_rfl) rfl
                    clear hV9 hO9
                    go_simp
                    exact hK9 _ (Grow.refl _)
                  case s3_21 =>
                    intro t9 w9 hT9 hV9 hO9 K9 hK9
                    have p9_18 : t9[111]? = some ?v3_18 := hV9 18 111 rfl rfl (of_decide_eq_true (by kernel_rfl))
                    have p9_19 : t9[112]? = some ?v3_19 := hV9 19 112 rfl rfl (of_decide_eq_true (by kernel_rfl))
                    have p9_20 : t9[113]? = some ?v3_20 := hV9 20 113 rfl rfl (of_decide_eq_true (by kernel_rfl))
                    clear hV9 hO9
                    go_simp
                    exact hK9 _ (Grow.refl _)
                  case s3_22 =>
                    intro t9 w9 hT9 hV9 hO9 K9 hK9
                    have p9_18 : t9[111]? = some ?v3_18 := hV9 18 111 rfl rfl (of_decide_eq_true (by kernel_rfl))
                    have p9_21 : t9[114]? = some ?v3_21 := hV9 21 114 rfl rfl (of_decide_eq_true (by kernel_rfl))
                    clear hV9 hO9
                    have d9_0 := grow_cell hT9 m0
                    have d9_1 := grow_cell hT9 m1
                    have d9_2 := grow_cell hT9 m2
                    have d9_3 := grow_cell hT9 i0'
                    have d9_4 := grow_cell hT9 i1'
                    have d9_5 := grow_cell hT9 i2'
                    have d9_6 := grow_cell hT9 j0'
                    have d9_7 := grow_cell hT9 j1'
                    have d9_8 := grow_cell hT9 j2'
                    go_simp
                    exact hK9 _ (Grow.refl _)
                  case s3_23 =>
                    intro t9 w9 hT9 hV9 hO9 K9 hK9
                    have p9_18 : t9[111]? = some ?v3_18 := hV9 18 111 rfl rfl (of_decide_eq_true (by kernel_rfl))
                    have o9_8 := hO9 8 _ (by kernel_rfl) rfl
                    clear hV9 hO9
                    go_simp
                    exact hK9 _ (Grow.refl _)
                  case s3_24 =>
                    intro t9 w9 hT9 hV9 hO9 K9 hK9
                    have p9_18 : t9[111]? = some ?v3_18 := hV9 18 111 rfl rfl (of_decide_eq_true (by kernel_rfl))
                    have o9_2 := hO9 2 _ (by kernel_rfl) rfl
                    clear hV9 hO9
                    go_simp
                    exact hK9 _ (Grow.refl _)
                  case s3_25 =>
                    intro t9 w9 hT9 hV9 hO9 K9 hK9
                    have p9_18 : t9[111]? = some ?v3_18 := hV9 18 111 rfl rfl (of_decide_eq_true (by kernel_rfl))
                    have p9_23 : t9[116]? = some ?v3_23 := hV9 23 116 rfl rfl (of_decide_eq_true (by kernel_rfl))
                    have p9_24 : t9[117]? = some ?v3_24 := hV9 24 117 rfl rfl (of_decide_eq_true (by kernel_rfl))
                    clear hV9 hO9
                    go_simp
                    exact hK9 _ (Grow.refl _)
                  case s3_26 =>
                    intro t9 w9 hT9 hV9 hO9 K9 hK9
                    have p9_18 : t9[111]? = some ?v3_18 := hV9 18 111 rfl rfl (of_decide_eq_true (by kernel_rfl))
                    have p9_25 : t9[118]? = some ?v3_25 := hV9 25 118 rfl rfl (of_decide_eq_true (by kernel_rfl))
                    clear hV9 hO9
                    have d9_0 := grow_cell hT9 m0
                    have d9_1 := grow_cell hT9 m1
                    have d9_2 := grow_cell hT9 m2
                    have d9_3 := grow_cell hT9 i0'
                    have d9_4 := grow_cell hT9 i1'
                    have d9_5 := grow_cell hT9 i2'
                    have d9_6 := grow_cell hT9 j0'
                    have d9_7 := grow_cell hT9 j1'
                    have d9_8 := grow_cell hT9 j2'
                    go_simp
                    exact hK9 _ (Grow.refl _)
                  case s3_27 =>
                    intro t9 w9 hT9 hV9 hO9 K9 hK9
                    have p9_18 : t9[111]? = some ?v3_18 := hV9 18 111 rfl rfl (of_decide_eq_true (by kernel_rfl))
                    have p9_22 : t9[115]? = some ?v3_22 := hV9 22 115 rfl rfl (of_decide_eq_true (by kernel_rfl))
                    have p9_26 : t9[119]? = some ?v3_26 := hV9 26 119 rfl rfl (of_decide_eq_true (by kernel_rfl))
                    clear hV9 hO9
                    go_simp
                    exact hK9 _ (Grow.refl _)
                  case s3_28 =>
                    intro t9 w9 hT9 hV9 hO9 K9 hK9
                    have p9_14 : t9[107]? = some ?v3_14 := hV9 14 107 rfl rfl (of_decide_eq_true (by kernel_rfl))
                    have p9_18 : t9[111]? = some ?v3_18 := hV9 18 111 rfl rfl (of_decide_eq_true (by kernel_rfl))
                    have p9_27 : t9[120]? = some ?v3_27 := hV9 27 120 rfl rfl (of_decide_eq_true (by kernel_rfl))
                    clear hV9 hO9
                    go_simp
                    exact hK9 _ (Grow.refl _)
                  case s3_29 =>
                    intro t9 w9 hT9 hV9 hO9 K9 hK9
                    have p9_14 : t9[107]? = some ?v3_14 := hV9 14 107 rfl rfl (of_decide_eq_true (by kernel_rfl))
                    have p9_28 : t9[121]? = some ?v3_28 := hV9 28 121 rfl rfl (of_decide_eq_true (by kernel_rfl))
                    clear hV9 hO9
                    go_simp
                    exact hK9 _ (Grow.refl _)
                  case s3_30 =>
                    intro t9 w9 hT9 hV9 hO9 K9 hK9
                    have p9_29 : t9[122]? = some ?v3_29 := hV9 29 122 rfl rfl (of_decide_eq_true (by kernel_rfl))
                    clear hV9 hO9
                    go_simp
                    exact hK9 _ (Grow.refl _)
                  intro w9 hb9
                  simp only [putAll, Act.put, List.setIfInBounds_toArray, List.set_cons_succ, List.set_cons_zero, List.getD_cons_succ, List.getD_cons_zero, Nat.reduceAdd, Nat.zero_add]
                  go_wp2_with fail
                  go_meet
                  exact ⟨true, rfl, Lib.hid (⟨fun _ => hbo.out.1 (by first | exact trivial | rfl), fun _ => rfl⟩ : true = true ↔ (Sub ps m i0 ∧ Sub ps m j0)), hLm.below hb9, below5 hbm hb9⟩
                · have bj : (((m : Nat) : Int) == (j0 : Int)) = false := by simp; omega
                  cases hdj : Dom (labAt (labels ps) m) (labAt (labels ps) j0) with
                  | true =>
                    have hcj := Lib.hid (dom_call _ _ _ hdj)
                    have hbo : Hid (true = true ↔ (Sub ps m i0 ∧ Sub ps m j0)) := by show _ ↔ _; exact ⟨fun _ => ⟨hsi.out, .inr (DJ.out.1 hdj)⟩, fun _ => rfl⟩
                    clear hej hdj
                    refine wp_reg_abs (some 93 :: some 94 :: some 95 :: some 96 :: some 97 :: some 98 :: some 99 :: some 100 :: some 101 :: some 102 :: some 103 :: some 104 :: some 105 :: some 106 :: some 107 :: some 108 :: some 109 :: some 110 :: some 111 :: some 112 :: some 113 :: some 114 :: some 115 :: some 116 :: some 117 :: some 118 :: some 119 :: some 120 :: some 121 :: some 122 :: some 13 :: []) (?v4_0 :: ?v4_1 :: ?v4_2 :: ?v4_3 :: ?v4_4 :: ?v4_5 :: ?v4_6 :: ?v4_7 :: ?v4_8 :: ?v4_9 :: ?v4_10 :: ?v4_11 :: ?v4_12 :: ?v4_13 :: ?v4_14 :: ?v4_15 :: ?v4_16 :: ?v4_17 :: ?v4_18 :: ?v4_19 :: ?v4_20 :: ?v4_21 :: ?v4_22 :: ?v4_23 :: ?v4_24 :: ?v4_25 :: ?v4_26 :: ?v4_27 :: ?v4_28 :: ?v4_29 :: ?v4_30 :: []) rfl (by kernel_rfl) rfl rfl ⟨?s4_0, ?s4_1, ?s4_2, ?s4_3, ?s4_4, ?s4_5, ?s4_6, ?s4_7, ?s4_8, ?s4_9, ?s4_10, ?s4_11, ?s4_12, ?s4_13, ?s4_14, ?s4_15, ?s4_16, ?s4_17, ?s4_18, ?s4_19, ?s4_20, ?s4_21, ?s4_22, ?s4_23, ?s4_24, ?s4_25, ?s4_26, ?s4_27, ?s4_28, ?s4_29, ?s4_30, trivial⟩ ?p4
                    case s4_0 =>
                      intro t9 w9 hT9 hV9 hO9 K9 hK9
                      have o9_12 := hO9 12 _ (by kernel_rfl) rfl
                      clear hV9 hO9
                      go_simp
                      exact hK9 _ (Grow.refl _)
                    case s4_1 =>
                      intro t9 w9 hT9 hV9 hO9 K9 hK9
                      have o9_1 := hO9 1 _ (by kernel_rfl) rfl
                      clear hV9 hO9
                      go_simp
                      exact hK9 _ (Grow.refl _)
                    case s4_2 =>
                      intro t9 w9 hT9 hV9 hO9 K9 hK9
                      have p9_0 : t9[93]? = some ?v4_0 := hV9 0 93 rfl rfl (of_decide_eq_true (by kernel_rfl))
                      have p9_1 : t9[94]? = some ?v4_1 := hV9 1 94 rfl rfl (of_decide_eq_true (by kernel_rfl))
                      clear hV9 hO9
                      go_simp
                      exact hK9 _ (Grow.refl _)
                    case s4_3 =>
                      intro t9 w9 hT9 hV9 hO9 K9 hK9
                      have p9_2 : t9[95]? = some ?v4_2 := hV9 2 95 rfl rfl (of_decide_eq_true (by kernel_rfl))
                      clear hV9 hO9
                      go_simp
                      exact hK9 _ (Grow.refl _)
                    case s4_4 =>
                      intro t9 w9 hT9 hV9 hO9 K9 hK9
                      have p9_3 : t9[96]? = some ?v4_3 := hV9 3 96 rfl rfl (of_decide_eq_true (by kernel_rfl))
                      have o9_8 := hO9 8 _ (by kernel_rfl) rfl
                      clear hV9 hO9
                      go_simp
                      exact hK9 _ (Grow.refl _)
                    case s4_5 =>
                      intro t9 w9 hT9 hV9 hO9 K9 hK9
                      have p9_3 : t9[96]? = some ?v4_3 := hV9 3 96 rfl rfl (of_decide_eq_true (by kernel_rfl))
                      have o9_12 := hO9 12 _ (by kernel_rfl) rfl
                      clear hV9 hO9
                      go_simp
                      exact hK9 _ (Grow.refl _)
                    case s4_6 =>
                      intro t9 w9 hT9 hV9 hO9 K9 hK9
                      have p9_3 : t9[96]? = some ?v4_3 := hV9 3 96 rfl rfl (of_decide_eq_true (by kernel_rfl))
                      have p9_4 : t9[97]? = some ?v4_4 := hV9 4 97 rfl rfl (of_decide_eq_true (by kernel_rfl))
                      have p9_5 : t9[98]? = some ?v4_5 := hV9 5 98 rfl rfl (of_decide_eq_true (by kernel_rfl))
                      clear hV9 hO9
                      go_simp
                      exact hK9 _ (Grow.refl _)
                    case s4_7 =>
                      intro t9 w9 hT9 hV9 hO9 K9 hK9
                      have p9_3 : t9[96]? = some ?v4_3 := hV9 3 96 rfl rfl (of_decide_eq_true (by kernel_rfl))
                      have p9_6 : t9[99]? = some ?v4_6 := hV9 6 99 rfl rfl (of_decide_eq_true (by kernel_rfl))
                      clear hV9 hO9
                      have d9_0 := grow_cell hT9 m0
                      have d9_1 := grow_cell hT9 m1
                      have d9_2 := grow_cell hT9 m2
                      have d9_3 := grow_cell hT9 i0'
                      have d9_4 := grow_cell hT9 i1'
                      have d9_5 := grow_cell hT9 i2'
                      have d9_6 := grow_cell hT9 j0'
                      have d9_7 := grow_cell hT9 j1'
                      have d9_8 := grow_cell hT9 j2'
                      go_simp
                      exact hK9 _ (Grow.refl _)
                    case s4_8 =>
                      intro t9 w9 hT9 hV9 hO9 K9 hK9
                      have p9_3 : t9[96]? = some ?v4_3 := hV9 3 96 rfl rfl (of_decide_eq_true (by kernel_rfl))
                      have o9_8 := hO9 8 _ (by kernel_rfl) rfl
                      clear hV9 hO9
                      go_simp
                      exact hK9 _ (Grow.refl _)
                    case s4_9 =>
                      intro t9 w9 hT9 hV9 hO9 K9 hK9
                      have p9_3 : t9[96]? = some ?v4_3 := hV9 3 96 rfl rfl (of_decide_eq_true (by kernel_rfl))
                      have o9_1 := hO9 1 _ (by kernel_rfl) rfl
                      clear hV9 hO9
                      go_simp
                      exact hK9 _ (Grow.refl _)
                    case s4_10 =>
                      intro t9 w9 hT9 hV9 hO9 K9 hK9
                      have p9_3 : t9[96]? = some ?v4_3 := hV9 3 96 rfl rfl (of_decide_eq_true (by kernel_rfl))
                      have p9_8 : t9[101]? = some ?v4_8 := hV9 8 101 rfl rfl (of_decide_eq_true (by kernel_rfl))
                      have p9_9 : t9[102]? = some ?v4_9 := hV9 9 102 rfl rfl (of_decide_eq_true (by kernel_rfl))
                      clear hV9 hO9
                      go_simp
                      exact hK9 _ (Grow.refl _)
                    case s4_11 =>
                      intro t9 w9 hT9 hV9 hO9 K9 hK9
                      have p9_3 : t9[96]? = some ?v4_3 := hV9 3 96 rfl rfl (of_decide_eq_true (by kernel_rfl))
                      have p9_10 : t9[103]? = some ?v4_10 := hV9 10 103 rfl rfl (of_decide_eq_true (by kernel_rfl))
                      clear hV9 hO9
                      have d9_0 := grow_cell hT9 m0
                      have d9_1 := grow_cell hT9 m1
                      have d9_2 := grow_cell hT9 m2
                      have d9_3 := grow_cell hT9 i0'
                      have d9_4 := grow_cell hT9 i1'
                      have d9_5 := grow_cell hT9 i2'
                      have d9_6 := grow_cell hT9 j0'
                      have d9_7 := grow_cell hT9 j1'
                      have d9_8 := grow_cell hT9 j2'
                      go_simp
                      exact hK9 _ (Grow.refl _)
                    case s4_12 =>
                      intro t9 w9 hT9 hV9 hO9 K9 hK9
                      have p9_3 : t9[96]? = some ?v4_3 := hV9 3 96 rfl rfl (of_decide_eq_true (by kernel_rfl))
                      have p9_7 : t9[100]? = some ?v4_7 := hV9 7 100 rfl rfl (of_decide_eq_true (by kernel_rfl))
                      have p9_11 : t9[104]? = some ?v4_11 := hV9 11 104 rfl rfl (of_decide_eq_true (by kernel_rfl))
                      clear hV9 hO9
                      go_simp
                      first | exact hK9 _ (Grow.refl _) | (refine (hcj.out _).mono ?_; rintro _ w8 ⟨rfl, hb8⟩; exact hK9 _ hb8)
                    case s4_13 =>
                      intro t9 w9 hT9 hV9 hO9 K9 hK9
                      have p9_3 : t9[96]? = some ?v4_3 := hV9 3 96 rfl rfl (of_decide_eq_true (by kernel_rfl))
                      have p9_12 : t9[105]? = some ?v4_12 := hV9 12 105 rfl rfl (of_decide_eq_true (by kernel_rfl))
                      clear hV9 hO9
                      go_simp
                      exact hK9 _ (Grow.refl _)
                    case s4_14 =>
                      intro t9 w9 hT9 hV9 hO9 K9 hK9
                      have p9_13 : t9[106]? = some ?v4_13 := hV9 13 106 rfl rfl (of_decide_eq_true (by kernel_rfl))
                      clear hV9 hO9
                      go_simp
                      exact hK9 _ (Grow.refl _)
                    case s4_15 =>
                      intro t9 w9 hT9 hV9 hO9 K9 hK9
                      have p9_14 : t9[107]? = some ?v4_14 := hV9 14 107 rfl rfl (of_decide_eq_true (by kernel_rfl))
                      have o9_12 := hO9 12 _ (by kernel_rfl) rfl
                      clear hV9 hO9
                      go_simp
                      exact hK9 _ (Grow.refl _)
                    case s4_16 =>
                      intro t9 w9 hT9 hV9 hO9 K9 hK9
                      have p9_14 : t9[107]? = some ?v4_14 := hV9 14 107 rfl rfl (of_decide_eq_true (by kernel_rfl))
                      have o9_2 := hO9 2 _ (by kernel_rfl) rfl
                      clear hV9 hO9
                      go_simp
                      exact hK9 _ (Grow.refl _)
                    case s4_17 =>
                      intro t9 w9 hT9 hV9 hO9 K9 hK9
                      have p9_14 : t9[107]? = some ?v4_14 := hV9 14 107 rfl rfl (of_decide_eq_true (by kernel_rfl))
                      have p9_15 : t9[108]? = some ?v4_15 := hV9 15 108 rfl rfl (of_decide_eq_true (by kernel_rfl))
                      have p9_16 : t9[109]? = some ?v4_16 := hV9 16 109 rfl rfl (of_decide_eq_true (by kernel_rfl))
                      clear hV9 hO9
                      go_simp
                      exact hK9 _ (Grow.refl _)
                    case s4_18 =>
                      intro t9 w9 hT9 hV9 hO9 K9 hK9
                      have p9_14 : t9[107]? = some ?v4_14 := hV9 14 107 rfl rfl (of_decide_eq_true (by kernel_rfl))
                      have p9_17 : t9[110]? = some ?v4_17 := hV9 17 110 rfl rfl (of_decide_eq_true (by kernel_rfl))
                      clear hV9 hO9
                      go_simp
                      exact hK9 _ (Grow.refl _)
                    case s4_19 =>
                      intro t9 w9 hT9 hV9 hO9 K9 hK9
                      have p9_18 : t9[111]? = some ?v4_18 := hV9 18 111 rfl rfl (of_decide_eq_true (by kernel_rfl))
                      have o9_8 := hO9 8 _ (by kernel_rfl) rfl
                      clear hV9 hO9
                      go_simp
                      exact hK9 _ (Grow.refl _)
                    case s4_20 =>
                      intro t9 w9 hT9 hV9 hO9 K9 hK9
                      have p9_18 : t9[111]? = some ?v4_18 := hV9 18 111 rfl rfl (of_decide_eq_true (by kernel_rfl))
                      have o9_12 := hO9 12 _ (by kernel_rfl) rfl
                      clear hV9 hO9
                      go_simp
                      exact hK9 _ (Grow.refl _)
                    case s4_21 =>
                      intro t9 w9 hT9 hV9 hO9 K9 hK9
                      have p9_18 : t9[111]? = some ?v4_18 := hV9 18 111 rfl rfl (of_decide_eq_true (by kernel_rfl))
                      have p9_19 : t9[112]? = some ?v4_19 := hV9 19 112 rfl rfl (of_decide_eq_true (by kernel_rfl))
                      have p9_20 : t9[113]? = some ?v4_20 := hV9 20 113 rfl rfl (of_decide_eq_true (by kernel_rfl))
                      clear hV9 hO9
                      go_simp
                      exact hK9 _ (Grow.refl _)
                    case s4_22 =>
                      intro t9 w9 hT9 hV9 hO9 K9 hK9
                      have p9_18 : t9[111]? = some ?v4_18 := hV9 18 111 rfl rfl (of_decide_eq_true (by kernel_rfl))
                      have p9_21 : t9[114]? = some ?v4_21 := hV9 21 114 rfl rfl (of_decide_eq_true (by kernel_rfl))
                      clear hV9 hO9
                      have d9_0 := grow_cell hT9 m0
                      have d9_1 := grow_cell hT9 m1
                      have d9_2 := grow_cell hT9 m2
                      have d9_3 := grow_cell hT9 i0'
                      have d9_4 := grow_cell hT9 i1'
                      have d9_5 := grow_cell hT9 i2'
                      have d9_6 := grow_cell hT9 j0'
                      have d9_7 := grow_cell hT9 j1'
                      have d9_8 := grow_cell hT9 j2'
                      go_simp
                      exact hK9 _ (Grow.refl _)
                    case s4_23 =>
                      intro t9 w9 hT9 hV9 hO9 K9 hK9
                      have p9_18 : t9[111]? = some ?v4_18 := hV9 18 111 rfl rfl (of_decide_eq_true (by kernel_rfl))
                      have o9_8 := hO9 8 _ (by kernel_rfl) rfl
                      clear hV9 hO9
                      go_simp
                      exact hK9 _ (Grow.refl _)
                    case s4_24 =>
                      intro t9 w9 hT9 hV9 hO9 K9 hK9
                      have p9_18 : t9[111]? = some ?v4_18 := hV9 18 111 rfl rfl (of_decide_eq_true (by kernel_rfl))
                      have o9_2 := hO9 2 _ (by kernel_rfl) rfl
                      clear hV9 hO9
                      go_simp
                      exact hK9 _ (Grow.refl _)
                    case s4_25 =>
                      intro t9 w9 hT9 hV9 hO9 K9 hK9
                      have p9_18 : t9[111]? = some ?v4_18 := hV9 18 111 rfl rfl (of_decide_eq_true (by kernel_rfl))
                      have p9_23 : t9[116]? = some ?v4_23 := hV9 23 116 rfl rfl (of_decide_eq_true (by kernel_rfl))
                      have p9_24 : t9[117]? = some ?v4_24 := hV9 24 117 rfl rfl (of_decide_eq_true (by kernel_rfl))
                      clear hV9 hO9
                      go_simp
                      exact hK9 _ (Grow.refl _)
                    case s4_26 =>
                      intro t9 w9 hT9 hV9 hO9 K9 hK9
                      have p9_18 : t9[111]? = some ?v4_18 := hV9 18 111 rfl rfl (of_decide_eq_true (by kernel_rfl))
                      have p9_25 : t9[118]? = some ?v4_25 := hV9 25 118 rfl rfl (of_decide_eq_true (by kernel_rfl))
                      clear hV9 hO9
                      have d9_0 := grow_cell hT9 m0
                      have d9_1 := grow_cell hT9 m1
                      have d9_2 := grow_cell hT9 m2
                      have d9_3 := grow_cell hT9 i0'
                      have d9_4 := grow_cell hT9 i1'
                      have d9_5 := grow_cell hT9 i2'
                      have d9_6 := grow_cell hT9 j0'
                      have d9_7 := grow_cell hT9 j1'
                      have d9_8 := grow_cell hT9 j2'
                      go_simp
                      exact hK9 _ (Grow.refl _)
                    case s4_27 =>
                      intro t9 w9 hT9 hV9 hO9 K9 hK9
                      have p9_18 : t9[111]? = some ?v4_18 := hV9 18 111 rfl rfl (of_decide_eq_true (by kernel_rfl))
                      have p9_22 : t9[115]? = some ?v4_22 := hV9 22 115 rfl rfl (of_decide_eq_true (by kernel_rfl))
                      have p9_26 : t9[119]? = some ?v4_26 := hV9 26 119 rfl rfl (of_decide_eq_true (by kernel_rfl))
                      clear hV9 hO9
                      go_simp
                      first | exact hK9 _ (Grow.refl _) | (refine (hcj.out _).mono ?_; rintro _ w8 ⟨rfl, hb8⟩; exact hK9 _ hb8)
                    case s4_28 =>
                      intro t9 w9 hT9 hV9 hO9 K9 hK9
                      have p9_14 : t9[107]? = some ?v4_14 := hV9 14 107 rfl rfl (of_decide_eq_true (by kernel_rfl))
                      have p9_18 : t9[111]? = some ?v4_18 := hV9 18 111 rfl rfl (of_decide_eq_true (by kernel_rfl))
                      have p9_27 : t9[120]? = some ?v4_27 := hV9 27 120 rfl rfl (of_decide_eq_true (by kernel_rfl))
                      clear hV9 hO9
                      go_simp
                      exact hK9 _ (Grow.refl _)
                    case s4_29 =>
                      intro t9 w9 hT9 hV9 hO9 K9 hK9
                      have p9_14 : t9[107]? = some ?v4_14 := hV9 14 107 rfl rfl (of_decide_eq_true (by kernel_rfl))
                      have p9_28 : t9[121]? = some ?v4_28 := hV9 28 121 rfl rfl (of_decide_eq_true (by kernel_rfl))
                      clear hV9 hO9
                      go_simp
                      exact hK9 _ (Grow.refl _)
                    case s4_30 =>
                      intro t9 w9 hT9 hV9 hO9 K9 hK9
                      have p9_29 : t9[122]? = some ?v4_29 := hV9 29 122 rfl rfl (of_decide_eq_true (by kernel_rfl))
                      clear hV9 hO9
                      go_simp
                      exact hK9 _ (Grow.refl _)
                    intro w9 hb9
                    simp only [putAll, Act.put, List.setIfInBounds_toArray, List.set_cons_succ, List.set_cons_zero, List.getD_cons_succ, List.getD_cons_zero, Nat.reduceAdd, Nat.zero_add]
                    go_wp2_with fail
                    go_meet
                    exact ⟨true, rfl, Lib.hid (⟨fun _ => hbo.out.1 (by first | exact trivial | rfl), fun _ => rfl⟩ : true = true ↔ (Sub ps m i0 ∧ Sub ps m j0)), hLm.below hb9, below5 hbm hb9⟩
                  | false =>
                    have hcj := Lib.hid (dom_call _ _ _ hdj)
                    have hbo : Hid (false = true ↔ (Sub ps m i0 ∧ Sub ps m j0)) := by show _ ↔ _; exact ⟨fun h => (by cases h), fun h => (by rcases h.2 with h2 | h2; exact absurd h2.symm hej; rw [DJ.out.2 h2] at hdj; cases hdj)⟩
                    clear hej hdj
                    refine wp_reg_abs (some 93 :: some 94 :: some 95 :: some 96 :: some 97 :: some 98 :: some 99 :: some 100 :: some 101 :: some 102 :: some 103 :: some 104 :: some 105 :: some 106 :: some 107 :: some 108 :: some 109 :: some 110 :: some 111 :: some 112 :: some 113 :: some 114 :: some 115 :: some 116 :: some 117 :: some 118 :: some 119 :: some 120 :: some 121 :: some 122 :: some 13 :: []) (?v5_0 :: ?v5_1 :: ?v5_2 :: ?v5_3 :: ?v5_4 :: ?v5_5 :: ?v5_6 :: ?v5_7 :: ?v5_8 :: ?v5_9 :: ?v5_10 :: ?v5_11 :: ?v5_12 :: ?v5_13 :: ?v5_14 :: ?v5_15 :: ?v5_16 :: ?v5_17 :: ?v5_18 :: ?v5_19 :: ?v5_20 :: ?v5_21 :: ?v5_22 :: ?v5_23 :: ?v5_24 :: ?v5_25 :: ?v5_26 :: ?v5_27 :: ?v5_28 :: ?v5_29 :: ?v5_30 :: []) rfl (by kernel_rfl) rfl rfl ⟨?s5_0, ?s5_1, ?s5_2, ?s5_3, ?s5_4, ?s5_5, ?s5_6, ?s5_7, ?s5_8, ?s5_9, ?s5_10, ?s5_11, ?s5_12, ?s5_13, ?s5_14, ?s5_15, ?s5_16, ?s5_17, ?s5_18, ?s5_19, ?s5_20, ?s5_21, ?s5_22, ?s5_23, ?s5_24, ?s5_25, ?s5_26, ?s5_27, ?s5_28, ?s5_29, ?s5_30, trivial⟩ ?p5
                    case s5_0 =>
                      intro t9 w9 hT9 hV9 hO9 K9 hK9
                      have o9_12 := hO9 12 _ (by kernel_rfl) rfl
                      clear hV9 hO9
                      go_simp
                      exact hK9 _ (Grow.refl _)
                    case s5_1 =>
                      intro t9 w9 hT9 hV9 hO9 K9 hK9
                      have o9_1 := hO9 1 _ (by kernel_rfl) rfl
                      clear hV9 hO9
                      go_simp
                      exact hK9 _ (Grow.refl _)
                    case s5_2 =>
                      intro t9 w9 hT9 hV9 hO9 K9 hK9
                      have p9_0 : t9[93]? = some ?v5_0 := hV9 0 93 rfl rfl (of_decide_eq_true (by kernel_rfl))
                      have p9_1 : t9[94]? = some ?v5_1 := hV9 1 94 rfl rfl (of_decide_eq_true (by kernel_rfl))
                      clear hV9 hO9
                      go_simp
                      exact hK9 _ (Grow.refl _)
                    case s5_3 =>
                      intro t9 w9 hT9 hV9 hO9 K9 hK9
                      have p9_2 : t9[95]? = some ?v5_2 := hV9 2 95 rfl rfl (of_decide_eq_true (by kernel_rfl))
                      clear hV9 hO9
                      go_simp
                      exact hK9 _ (Grow.refl _)
                    case s5_4 =>
                      intro t9 w9 hT9 hV9 hO9 K9 hK9
                      have p9_3 : t9[96]? = some ?v5_3 := hV9 3 96 rfl rfl (of_decide_eq_true (by kernel_rfl))
                      have o9_8 := hO9 8 _ (by kernel_rfl) rfl
                      clear hV9 hO9
                      go_simp
                      exact hK9 _ (Grow.refl _)
                    case s5_5 =>
                      intro t9 w9 hT9 hV9 hO9 K9 hK9
                      have p9_3 : t9[96]? = some ?v5_3 := hV9 3 96 rfl rfl (of_decide_eq_true (by kernel_rfl))
                      have o9_12 := hO9 12 _ (by kernel_rfl) rfl
                      clear hV9 hO9
                      go_simp
                      exact hK9 _ (Grow.refl _)
                    case s5_6 =>
                      intro t9 w9 hT9 hV9 hO9 K9 hK9
                      have p9_3 : t9[96]? = some ?v5_3 := hV9 3 96 rfl rfl (of_decide_eq_true (by kernel_rfl))
                      have p9_4 : t9[97]? = some ?v5_4 := hV9 4 97 rfl rfl (of_decide_eq_true (by kernel_rfl))
                      have p9_5 : t9[98]? = some ?v5_5 := hV9 5 98 rfl rfl (of_decide_eq_true (by kernel_rfl))
                      clear hV9 hO9
                      go_simp
                      exact hK9 _ (Grow.refl _)
                    case s5_7 =>
                      intro t9 w9 hT9 hV9 hO9 K9 hK9
                      have p9_3 : t9[96]? = some ?v5_3 := hV9 3 96 rfl rfl (of_decide_eq_true (by kernel_rfl))
                      have p9_6 : t9[99]? = some ?v5_6 := hV9 6 99 rfl rfl (of_decide_eq_true (by kernel_rfl))
                      clear hV9 hO9
                      have d9_0 := grow_cell hT9 m0
                      have d9_1 := grow_cell hT9 m1
                      have d9_2 := grow_cell hT9 m2
                      have d9_3 := grow_cell hT9 i0'
                      have d9_4 := grow_cell hT9 i1'
                      have d9_5 := grow_cell hT9 i2'
                      have d9_6 := grow_cell hT9 j0'
                      have d9_7 := grow_cell hT9 j1'
                      have d9_8 := grow_cell hT9 j2'
                      go_simp
                      exact hK9 _ (Grow.refl _)
                    case s5_8 =>
                      intro t9 w9 hT9 hV9 hO9 K9 hK9
                      have p9_3 : t9[96]? = some ?v5_3 := hV9 3 96 rfl rfl (of_decide_eq_true (by kernel_rfl))
                      have o9_8 := hO9 8 _ (by kernel_rfl) rfl
                      clear hV9 hO9
                      go_simp
                      exact hK9 _ (Grow.refl _)
                    case s5_9 =>
                      intro t9 w9 hT9 hV9 hO9 K9 hK9
                      have p9_3 : t9[96]? = some ?v5_3 := hV9 3 96 rfl rfl (of_decide_eq_true (by kernel_rfl))
                      have o9_1 := hO9 1 _ (by kernel_rfl) rfl
                      clear hV9 hO9
                      go_simp
                      exact hK9 _ (Grow.refl _)
                    case s5_10 =>
                      intro t9 w9 hT9 hV9 hO9 K9 hK9
                      have p9_3 : t9[96]? = some ?v5_3 := hV9 3 96 rfl rfl (of_decide_eq_true (by kernel_rfl))
                      have p9_8 : t9[101]? = some ?v5_8 := hV9 8 101 rfl rfl (of_decide_eq_true (by kernel_rfl))
                      have p9_9 : t9[102]? = some ?v5_9 := hV9 9 102 rfl rfl (of_decide_eq_true (by kernel_rfl))
                      clear hV9 hO9
                      go_simp
                      exact hK9 _ (Grow.refl _)
                    case s5_11 =>
                      intro t9 w9 hT9 hV9 hO9 K9 hK9
                      have p9_3 : t9[96]? = some ?v5_3 := hV9 3 96 rfl rfl (of_decide_eq_true (by kernel_rfl))
                      have p9_10 : t9[103]? = some ?v5_10 := hV9 10 103 rfl rfl (of_decide_eq_true (by kernel_rfl))
                      clear hV9 hO9
                      have d9_0 := grow_cell hT9 m0
                      have d9_1 := grow_cell hT9 m1
                      have d9_2 := grow_cell hT9 m2
                      have d9_3 := grow_cell hT9 i0'
                      have d9_4 := grow_cell hT9 i1'
                      have d9_5 := grow_cell hT9 i2'
                      have d9_6 := grow_cell hT9 j0'
                      have d9_7 := grow_cell hT9 j1'
                      have d9_8 := grow_cell hT9 j2'
                      go_simp
                      exact hK9 _ (Grow.refl _)
                    case s5_12 =>
                      intro t9 w9 hT9 hV9 hO9 K9 hK9
                      have p9_3 : t9[96]? = some ?v5_3 := hV9 3 96 rfl rfl (of_decide_eq_true (by kernel_rfl))
                      have p9_7 : t9[100]? = some ?v5_7 := hV9 7 100 rfl rfl (of_decide_eq_true (by kernel_rfl))
                      have p9_11 : t9[104]? = some ?v5_11 := hV9 11 104 rfl rfl (of_decide_eq_true (by kernel_rfl))
                      clear hV9 hO9
                      go_simp
                      first | exact hK9 _ (Grow.refl _) | (refine (hcj.out _).mono ?_; rintro _ w8 ⟨rfl, hb8⟩; exact hK9 _ hb8)
                    case s5_13 =>
                      intro t9 w9 hT9 hV9 hO9 K9 hK9
                      have p9_3 : t9[96]? = some ?v5_3 := hV9 3 96 rfl rfl (of_decide_eq_true (by kernel_rfl))
                      have p9_12 : t9[105]? = some ?v5_12 := hV9 12 105 rfl rfl (of_decide_eq_true (by kernel_rfl))
                      clear hV9 hO9
                      go_simp
                      exact hK9 _ (Grow.refl _)
                    case s5_14 =>
                      intro t9 w9 hT9 hV9 hO9 K9 hK9
                      have p9_13 : t9[106]? = some ?v5_13 := hV9 13 106 rfl rfl (of_decide_eq_true (by kernel_rfl))
                      clear hV9 hO9
                      go_simp
                      exact hK9 _ (Grow.refl _)
                    case s5_15 =>
                      intro t9 w9 hT9 hV9 hO9 K9 hK9
                      have p9_14 : t9[107]? = some ?v5_14 := hV9 14 107 rfl rfl (of_decide_eq_true (by kernel_rfl))
                      have o9_12 := hO9 12 _ (by kernel_rfl) rfl
                      clear hV9 hO9
                      go_simp
                      exact hK9 _ (Grow.refl _)
                    case s5_16 =>
                      intro t9 w9 hT9 hV9 hO9 K9 hK9
                      have p9_14 : t9[107]? = some ?v5_14 := hV9 14 107 rfl rfl (of_decide_eq_true (by kernel_rfl))
                      have o9_2 := hO9 2 _ (by kernel_rfl) rfl
                      clear hV9 hO9
                      go_simp
                      exact hK9 _ (Grow.refl _)
                    case s5_17 =>
                      intro t9 w9 hT9 hV9 hO9 K9 hK9
                      have p9_14 : t9[107]? = some ?v5_14 := hV9 14 107 rfl rfl (of_decide_eq_true (by kernel_rfl))
                      have p9_15 : t9[108]? = some ?v5_15 := hV9 15 108 rfl rfl (of_decide_eq_true (by kernel_rfl))
                      have p9_16 : t9[109]? = some ?v5_16 := hV9 16 109 rfl rfl (of_decide_eq_true (by kernel_rfl))
                      clear hV9 hO9
                      go_simp
                      exact hK9 _ (Grow.refl _)
                    case s5_18 =>
                      intro t9 w9 hT9 hV9 hO9 K9 hK9
                      have p9_14 : t9[107]? = some ?v5_14 := hV9 14 107 rfl rfl (of_decide_eq_true (by kernel_rfl))
                      have p9_17 : t9[110]? = some ?v5_17 := hV9 17 110 rfl rfl (of_decide_eq_true (by kernel_rfl))
                      clear hV9 hO9
                      go_simp
                      exact hK9 _ (Grow.refl _)
                    case s5_19 =>
                      intro t9 w9 hT9 hV9 hO9 K9 hK9
                      have p9_18 : t9[111]? = some ?v5_18 := hV9 18 111 rfl rfl (of_decide_eq_true (by kernel_rfl))
                      have o9_8 := hO9 8 _ (by kernel_rfl) rfl
                      clear hV9 hO9
                      go_simp
                      exact hK9 _ (Grow.refl _)
                    case s5_20 =>
                      intro t9 w9 hT9 hV9 hO9 K9 hK9
                      have p9_18 : t9[111]? = some ?v5_18 := hV9 18 111 rfl rfl (of_decide_eq_true (by kernel_rfl))
                      have o9_12 := hO9 12 _ (by kernel_rfl) rfl
                      clear hV9 hO9
                      go_simp
                      exact hK9 _ (Grow.refl _)
                    case s5_21 =>
                      intro t9 w9 hT9 hV9 hO9 K9 hK9
                      have p9_18 : t9[111]? = some ?v5_18 := hV9 18 111 rfl rfl (of_decide_eq_true (by kernel_rfl))
                      have p9_19 : t9[112]? = some ?v5_19 := hV9 19 112 rfl rfl (of_decide_eq_true (by kernel_rfl))
                      have p9_20 : t9[113]? = some ?v5_20 := hV9 20 113 rfl rfl (of_decide_eq_true (by kernel_rfl))
                      clear hV9 hO9
                      go_simp
                      exact hK9 _ (Grow.refl _)
                    case s5_22 =>
                      intro t9 w9 hT9 hV9 hO9 K9 hK9
                      have p9_18 : t9[111]? = some ?v5_18 := hV9 18 111 rfl rfl (of_decide_eq_true (by kernel_rfl))
                      have p9_21 : t9[114]? = some ?v5_21 := hV9 21 114 rfl rfl (of_decide_eq_true (by kernel_rfl))
                      clear hV9 hO9
                      have d9_0 := grow_cell hT9 m0
                      have d9_1 := grow_cell hT9 m1
                      have d9_2 := grow_cell hT9 m2
                      have d9_3 := grow_cell hT9 i0'
                      have d9_4 := grow_cell hT9 i1'
                      have d9_5 := grow_cell hT9 i2'
                      have d9_6 := grow_cell hT9 j0'
                      have d9_7 := grow_cell hT9 j1'
                      have d9_8 := grow_cell hT9 j2'
                      go_simp
                      exact hK9 _ (Grow.refl _)
                    case s5_23 =>
                      intro t9 w9 hT9 hV9 hO9 K9 hK9
                      have p9_18 : t9[111]? = some ?v5_18 := hV9 18 111 rfl rfl (of_decide_eq_true (by kernel_rfl))
                      have o9_8 := hO9 8 _ (by kernel_rfl) rfl
                      clear hV9 hO9
                      go_simp
                      exact hK9 _ (Grow.refl _)
                    case s5_24 =>
                      intro t9 w9 hT9 hV9 hO9 K9 hK9
                      have p9_18 : t9[111]? = some ?v5_18 := hV9 18 111 rfl rfl (of_decide_eq_true (by kernel_rfl))
                      have o9_2 := hO9 2 _ (by kernel_rfl) rfl
                      clear hV9 hO9
                      go_simp
                      exact hK9 _ (Grow.refl _)
                    case s5_25 =>
                      intro t9 w9 hT9 hV9 hO9 K9 hK9
                      have p9_18 : t9[111]? = some ?v5_18 := hV9 18 111 rfl rfl (of_decide_eq_true (by kernel_rfl))
                      have p9_23 : t9[116]? = some ?v5_23 := hV9 23 116 rfl rfl (of_decide_eq_true (by kernel_rfl))
                      have p9_24 : t9[117]? = some ?v5_24 := hV9 24 117 rfl rfl (of_decide_eq_true (by kernel_rfl))
                      clear hV9 hO9
                      go_simp
                      exact hK9 _ (Grow.refl _)
                    case s5_26 =>
                      intro t9 w9 hT9 hV9 hO9 K9 hK9
                      have p9_18 : t9[111]? = some ?v5_18 := hV9 18 111 rfl rfl (of_decide_eq_true (by kernel_rfl))
                      have p9_25 : t9[118]? = some ?v5_25 := hV9 25 118 rfl rfl (of_decide_eq_true (by kernel_rfl))
                      clear hV9 hO9
                      have d9_0 := grow_cell hT9 m0
                      have d9_1 := grow_cell hT9 m1
                      have d9_2 := grow_cell hT9 m2
                      have d9_3 := grow_cell hT9 i0'
                      have d9_4 := grow_cell hT9 i1'
                      have d9_5 := grow_cell hT9 i2'
                      have d9_6 := grow_cell hT9 j0'
                      have d9_7 := grow_cell hT9 j1'
                      have d9_8 := grow_cell hT9 j2'
                      go_simp
                      exact hK9 _ (Grow.refl _)
                    case s5_27 =>
                      intro t9 w9 hT9 hV9 hO9 K9 hK9
                      have p9_18 : t9[111]? = some ?v5_18 := hV9 18 111 rfl rfl (of_decide_eq_true (by kernel_rfl))
                      have p9_22 : t9[115]? = some ?v5_22 := hV9 22 115 rfl rfl (of_decide_eq_true (by kernel_rfl))
                      have p9_26 : t9[119]? = some ?v5_26 := hV9 26 119 rfl rfl (of_decide_eq_true (by kernel_rfl))
                      clear hV9 hO9
                      go_simp
                      first | exact hK9 _ (Grow.refl _) | (refine (hcj.out _).mono ?_; rintro _ w8 ⟨rfl, hb8⟩; exact hK9 _ hb8)
                    case s5_28 =>
                      intro t9 w9 hT9 hV9 hO9 K9 hK9
                      have p9_14 : t9[107]? = some ?v5_14 := hV9 14 107 rfl rfl (of_decide_eq_true (by kernel_rfl))
                      have p9_18 : t9[111]? = some ?v5_18 := hV9 18 111 rfl rfl (of_decide_eq_true (by kernel_rfl))
                      have p9_27 : t9[120]? = some ?v5_27 := hV9 27 120 rfl rfl (of_decide_eq_true (by kernel_rfl))
                      clear hV9 hO9
                      go_simp
                      exact hK9 _ (Grow.refl _)
                    case s5_29 =>
                      intro t9 w9 hT9 hV9 hO9 K9 hK9
                      have p9_14 : t9[107]? = some ?v5_14 := hV9 14 107 rfl rfl (of_decide_eq_true (by kernel_rfl))
                      have p9_28 : t9[121]? = some ?v5_28 := hV9 28 121 rfl rfl (of_decide_eq_true (by kernel_rfl))
                      clear hV9 hO9
                      go_simp
                      exact hK9 _ (Grow.refl _)
                    case s5_30 =>
                      intro t9 w9 hT9 hV9 hO9 K9 hK9
                      have p9_29 : t9[122]? = some ?v5_29 := hV9 29 122 rfl rfl (of_decide_eq_true (by kernel_rfl))
                      clear hV9 hO9
                      go_simp
                      exact hK9 _ (Grow.refl _)
                    intro w9 hb9
                    simp only [putAll, Act.put, List.setIfInBounds_toArray, List.set_cons_succ, List.set_cons_zero, List.getD_cons_succ, List.getD_cons_zero, Nat.reduceAdd, Nat.zero_add]
                    go_wp2_with fail
                    go_meet
                    exact ⟨false, rfl, hbo, hLm.below hb9, below5 hbm hb9⟩
              · have bi : (((m : Nat) : Int) == (i0 : Int)) = false := by simp; omega
                cases hdi : Dom (labAt (labels ps) m) (labAt (labels ps) i0) with
                | true =>
                  have hci := Lib.hid (dom_call _ _ _ hdi)
                  have hsi : Hid (Sub ps m i0) := .inr (DI.out.1 hdi)
                  clear hei hdi
                  by_cases hej : m = j0
                  · have bj : (((m : Nat) : Int) == (j0 : Int)) = true := by simp [hej]
                    have hbo : Hid (true = true ↔ (Sub ps m i0 ∧ Sub ps m j0)) := by show _ ↔ _; exact ⟨fun _ => ⟨hsi.out, .inl hej.symm⟩, fun _ => rfl⟩
                    clear hej
                    refine wp_reg_abs (some 93 :: some 94 :: some 95 :: some 96 :: some 97 :: some 98 :: some 99 :: some 100 :: some 101 :: some 102 :: some 103 :: some 104 :: some 105 :: some 106 :: some 107 :: some 108 :: some 109 :: some 110 :: some 111 :: some 112 :: some 113 :: some 114 :: some 115 :: some 116 :: some 117 :: some 118 :: some 119 :: some 120 :: some 121 :: some 122 :: some 13 :: []) (?v6_0 :: ?v6_1 :: ?v6_2 :: ?v6_3 :: ?v6_4 :: ?v6_5 :: ?v6_6 :: ?v6_7 :: ?v6_8 :: ?v6_9 :: ?v6_10 :: ?v6_11 :: ?v6_12 :: ?v6_13 :: ?v6_14 :: ?v6_15 :: ?v6_16 :: ?v6_17 :: ?v6_18 :: ?v6_19 :: ?v6_20 :: ?v6_21 :: ?v6_22 :: ?v6_23 :: ?v6_24 :: ?v6_25 :: ?v6_26 :: ?v6_27 :: ?v6_28 :: ?v6_29 :: ?v6_30 :: []) rfl (by kernel_rfl) rfl rfl ⟨?s6_0, ?s6_1, ?s6_2, ?s6_3, ?s6_4, ?s6_5, ?s6_6, ?s6_7, ?s6_8, ?s6_9, ?s6_10, ?s6_11, ?s6_12, ?s6_13, ?s6_14, ?s6_15, ?s6_16, ?s6_17, ?s6_18, ?s6_19, ?s6_20, ?s6_21, ?s6_22, ?s6_23, ?s6_24, ?s6_25, ?s6_26, ?s6_27, ?s6_28, ?s6_29, ?s6_30, trivial⟩ ?p6
                    case s6_0 =>
                      intro t9 w9 hT9 hV9 hO9 K9 hK9
                      have o9_12 := hO9 12 _ (by kernel_rfl) rfl
                      clear hV9 hO9
                      go_simp
                      exact hK9 _ (Grow.refl _)
                    case s6_1 =>
                      intro t9 w9 hT9 hV9 hO9 K9 hK9
                      have o9_1 := hO9 1 _ (by kernel_rfl) rfl
                      clear hV9 hO9
                      go_simp
                      exact hK9 _ (Grow.refl _)
                    case s6_2 =>
                      intro t9 w9 hT9 hV9 hO9 K9 hK9
                      have p9_0 : t9[93]? = some ?v6_0 := hV9 0 93 rfl rfl (of_decide_eq_true (by kernel_rfl))
                      have p9_1 : t9[94]? = some ?v6_1 := hV9 1 94 rfl rfl (of_decide_eq_true (by kernel_rfl))
                      clear hV9 hO9
                      go_simp
                      exact hK9 _ (Grow.refl _)
                    case s6_3 =>
                      intro t9 w9 hT9 hV9 hO9 K9 hK9
                      have p9_2 : t9[95]? = some ?v6_2 := hV9 2 95 rfl rfl (of_decide_eq_true (by kernel_rfl))
                      clear hV9 hO9
                      go_simp
                      exact hK9 _ (Grow.refl _)
                    case s6_4 =>
                      intro t9 w9 hT9 hV9 hO9 K9 hK9
                      have p9_3 : t9[96]? = some ?v6_3 := hV9 3 96 rfl rfl (of_decide_eq_true (by kernel_rfl))
                      have o9_8 := hO9 8 _ (by kernel_rfl) rfl
                      clear hV9 hO9
                      go_simp
                      exact hK9 _ (Grow.refl _)
                    case s6_5 =>
                      intro t9 w9 hT9 hV9 hO9 K9 hK9
                      have p9_3 : t9[96]? = some ?v6_3 := hV9 3 96 rfl rfl (of_decide_eq_true (by kernel_rfl))
                      have o9_12 := hO9 12 _ (by kernel_rfl) rfl
                      clear hV9 hO9
                      go_simp
                      exact hK9 _ (Grow.refl _)
                    case s6_6 =>
                      intro t9 w9 hT9 hV9 hO9 K9 hK9
                      have p9_3 : t9[96]? = some ?v6_3 := hV9 3 96 rfl rfl (of_decide_eq_true (by kernel_rfl))
                      have p9_4 : t9[97]? = some ?v6_4 := hV9 4 97 rfl rfl (of_decide_eq_true (by kernel_rfl))
                      have p9_5 : t9[98]? = some ?v6_5 := hV9 5 98 rfl rfl (of_decide_eq_true (by kernel_rfl))
                      clear hV9 hO9
                      go_simp
                      exact hK9 _ (Grow.refl _)
                    case s6_7 =>
                      intro t9 w9 hT9 hV9 hO9 K9 hK9
                      have p9_3 : t9[96]? = some ?v6_3 := hV9 3 96 rfl rfl (of_decide_eq_true (by kernel_rfl))
                      have p9_6 : t9[99]? = some ?v6_6 := hV9 6 99 rfl rfl (of_decide_eq_true (by kernel_rfl))
                      clear hV9 hO9
                      have d9_0 := grow_cell hT9 m0
                      have d9_1 := grow_cell hT9 m1
                      have d9_2 := grow_cell hT9 m2
                      have d9_3 := grow_cell hT9 i0'
                      have d9_4 := grow_cell hT9 i1'
                      have d9_5 := grow_cell hT9 i2'
                      have d9_6 := grow_cell hT9 j0'
                      have d9_7 := grow_cell hT9 j1'
                      have d9_8 := grow_cell hT9 j2'
                      go_simp
                      exact hK9 _ (Grow.refl _)
                    case s6_8 =>
                      intro t9 w9 hT9 hV9 hO9 K9 hK9
                      have p9_3 : t9[96]? = some ?v6_3 := hV9 3 96 rfl rfl (of_decide_eq_true (by kernel_rfl))
                      have o9_8 := hO9 8 _ (by kernel_rfl) rfl
                      clear hV9 hO9
                      go_simp
                      exact hK9 _ (Grow.refl _)
                    case s6_9 =>
                      intro t9 w9 hT9 hV9 hO9 K9 hK9
                      have p9_3 : t9[96]? = some ?v6_3 := hV9 3 96 rfl rfl (of_decide_eq_true (by kernel_rfl))
                      have o9_1 := hO9 1 _ (by kernel_rfl) rfl
                      clear hV9 hO9
                      go_simp
                      exact hK9 _ (Grow.refl _)
                    case s6_10 =>
                      intro t9 w9 hT9 hV9 hO9 K9 hK9
                      have p9_3 : t9[96]? = some ?v6_3 := hV9 3 96 rfl rfl (of_decide_eq_true (by kernel_rfl))
                      have p9_8 : t9[101]? = some ?v6_8 := hV9 8 101 rfl rfl (of_decide_eq_true (by kernel_rfl))
                      have p9_9 : t9[102]? = some ?v6_9 := hV9 9 102 rfl rfl (of_decide_eq_true (by kernel_rfl))
                      clear hV9 hO9
                      go_simp
                      exact hK9 _ (Grow.refl _)
                    case s6_11 =>
                      intro t9 w9 hT9 hV9 hO9 K9 hK9
                      have p9_3 : t9[96]? = some ?v6_3 := hV9 3 96 rfl rfl (of_decide_eq_true (by kernel_rfl))
                      have p9_10 : t9[103]? = some ?v6_10 := hV9 10 103 rfl rfl (of_decide_eq_true (by kernel_rfl))
                      clear hV9 hO9
                      have d9_0 := grow_cell hT9 m0
                      have d9_1 := grow_cell hT9 m1
                      have d9_2 := grow_cell hT9 m2
                      have d9_3 := grow_cell hT9 i0'
                      have d9_4 := grow_cell hT9 i1'
                      have d9_5 := grow_cell hT9 i2'
                      have d9_6 := grow_cell hT9 j0'
                      have d9_7 := grow_cell hT9 j1'
                      have d9_8 := grow_cell hT9 j2'
                      go_simp
                      exact hK9 _ (Grow.refl _)
                    case s6_12 =>
                      intro t9 w9 hT9 hV9 hO9 K9 hK9
                      have p9_3 : t9[96]? = some ?v6_3 := hV9 3 96 rfl rfl (of_decide_eq_true (by kernel_rfl))
                      have p9_7 : t9[100]? = some ?v6_7 := hV9 7 100 rfl rfl (of_decide_eq_true (by kernel_rfl))
                      have p9_11 : t9[104]? = some ?v6_11 := hV9 11 104 rfl rfl (of_decide_eq_true (by kernel_rfl))
                      clear hV9 hO9
                      go_simp
                      first | exact hK9 _ (Grow.refl _) | (refine (hci.out _).mono ?_; rintro _ w8 ⟨rfl, hb8⟩; exact hK9 _ hb8)
                    case s6_13 =>
                      intro t9 w9 hT9 hV9 hO9 K9 hK9
                      have p9_3 : t9[96]? = some ?v6_3 := hV9 3 96 rfl rfl (of_decide_eq_true (by kernel_rfl))
                      have p9_12 : t9[105]? = some ?v6_12 := hV9 12 105 rfl rfl (of_decide_eq_true (by kernel_rfl))
                      clear hV9 hO9
                      go_simp
                      exact hK9 _ (Grow.refl _)
                    case s6_14 =>
                      intro t9 w9 hT9 hV9 hO9 K9 hK9
                      have p9_13 : t9[106]? = some ?v6_13 := hV9 13 106 rfl rfl (of_decide_eq_true (by kernel_rfl))
                      clear hV9 hO9
                      go_simp
                      exact hK9 _ (Grow.refl _)
                    case s6_15 =>
                      intro t9 w9 hT9 hV9 hO9 K9 hK9
                      have p9_14 : t9[107]? = some ?v6_14 := hV9 14 107 rfl rfl (of_decide_eq_true (by kernel_rfl))
                      have o9_12 := hO9 12 _ (by kernel_rfl) rfl
                      clear hV9 hO9
                      go_simp
                      exact hK9 _ (Grow.refl _)
                    case s6_16 =>
                      intro t9 w9 hT9 hV9 hO9 K9 hK9
                      have p9_14 : t9[107]? = some ?v6_14 := hV9 14 107 rfl rfl (of_decide_eq_true (by kernel_rfl))
                      have o9_2 := hO9 2 _ (by kernel_rfl) rfl
                      clear hV9 hO9
                      go_simp
                      exact hK9 _ (Grow.refl _)
                    case s6_17 =>
                      intro t9 w9 hT9 hV9 hO9 K9 hK9
                      have p9_14 : t9[107]? = some ?v6_14 := hV9 14 107 rfl rfl (of_decide_eq_true (by kernel_rfl))
                      have p9_15 : t9[108]? = some ?v6_15 := hV9 15 108 rfl rfl (of_decide_eq_true (by kernel_rfl))
                      have p9_16 : t9[109]? = some ?v6_16 := hV9 16 109 rfl rfl (of_decide_eq_true (by kernel_rfl))
                      clear hV9 hO9
                      go_simp
                      exact hK9 _ (Grow.refl _)
                    case s6_18 =>
                      intro t9 w9 hT9 hV9 hO9 K9 hK9
                      have p9_14 : t9[107]? = some ?v6_14 := hV9 14 107 rfl rfl (of_decide_eq_true (by kernel_rfl))
                      have p9_17 : t9[110]? = some ?v6_17 := hV9 17 110 rfl rfl (of_decide_eq_true (by kernel_rfl))
                      clear hV9 hO9
                      go_simp
                      exact hK9 _ (Grow.refl _)
                    case s6_19 =>
                      intro t9 w9 hT9 hV9 hO9 K9 hK9
                      have p9_18 : t9[111]? = some ?v6_18 := hV9 18 111 rfl rfl (of_decide_eq_true (by kernel_rfl))
                      have o9_8 := hO9 8 _ (by kernel_rfl) rfl
                      clear hV9 hO9
                      go_simp
                      exact hK9 _ (Grow.refl _)
                    case s6_20 =>
                      intro t9 w9 hT9 hV9 hO9 K9 hK9
                      have p9_18 : t9[111]? = some ?v6_18 := hV9 18 111 rfl rfl (of_decide_eq_true (by kernel_rfl))
                      have o9_12 := hO9 12 _ (by kernel_rfl) rfl
                      clear hV9 hO9
                      go_simp
                      exact hK9 _ (Grow.refl _)
                    case s6_21 =>
                      intro t9 w9 hT9 hV9 hO9 K9 hK9
                      have p9_18 : t9[111]? = some ?v6_18 := hV9 18 111 rfl rfl (of_decide_eq_true (by kernel_rfl))
                      have p9_19 : t9[112]? = some ?v6_19 := hV9 19 112 rfl rfl (of_decide_eq_true (by kernel_rfl))
                      have p9_20 : t9[113]? = some ?v6_20 := hV9 20 113 rfl rfl (of_decide_eq_true (by kernel_rfl))
                      clear hV9 hO9
                      go_simp
                      exact hK9 _ (Grow.refl _)
                    case s6_22 =>
                      intro t9 w9 hT9 hV9 hO9 K9 hK9
                      have p9_18 : t9[111]? = some ?v6_18 := hV9 18 111 rfl rfl (of_decide_eq_true (by kernel_rfl))
                      have p9_21 : t9[114]? = some ?v6_21 := hV9 21 114 rfl rfl (of_decide_eq_true (by kernel_rfl))
                      clear hV9 hO9
                      have d9_0 := grow_cell hT9 m0
                      have d9_1 := grow_cell hT9 m1
                      have d9_2 := grow_cell hT9 m2
                      have d9_3 := grow_cell hT9 i0'
                      have d9_4 := grow_cell hT9 i1'
                      have d9_5 := grow_cell hT9 i2'
                      have d9_6 := grow_cell hT9 j0'
                      have d9_7 := grow_cell hT9 j1'
                      have d9_8 := grow_cell hT9 j2'
                      go_simp
                      exact hK9 _ (Grow.refl _)
                    case s6_23 =>
                      intro t9 w9 hT9 hV9 hO9 K9 hK9
                      have p9_18 : t9[111]? = some ?v6_18 := hV9 18 111 rfl rfl (of_decide_eq_true (by kernel_rfl))
                      have o9_8 := hO9 8 _ (by kernel_rfl) rfl
                      clear hV9 hO9
                      go_simp
                      exact hK9 _ (Grow.refl _)
                    case s6_24 =>
                      intro t9 w9 hT9 hV9 hO9 K9 hK9
                      have p9_18 : t9[111]? = some ?v6_18 := hV9 18 111 rfl rfl (of_decide_eq_true (by kernel_rfl))
                      have o9_2 := hO9 2 _ (by kernel_rfl) rfl
                      clear hV9 hO9
                      go_simp
                      exact hK9 _ (Grow.refl _)
                    case s6_25 =>
                      intro t9 w9 hT9 hV9 hO9 K9 hK9
                      have p9_18 : t9[111]? = some ?v6_18 := hV9 18 111 rfl rfl (of_decide_eq_true (by kernel_rfl))
                      have p9_23 : t9[116]? = some ?v6_23 := hV9 23 116 rfl rfl (of_decide_eq_true (by kernel_rfl))
                      have p9_24 : t9[117]? = some ?v6_24 := hV9 24 117 rfl rfl (of_decide_eq_true (by kernel_rfl))
                      clear hV9 hO9
                      go_simp
                      exact hK9 _ (Grow.refl _)
                    case s6_26 =>
                      intro t9 w9 hT9 hV9 hO9 K9 hK9
                      have p9_18 : t9[111]? = some ?v6_18 := hV9 18 111 rfl rfl (of_decide_eq_true (by kernel_rfl))
                      have p9_25 : t9[118]? = some ?v6_25 := hV9 25 118 rfl rfl (of_decide_eq_true (by kernel_rfl))
                      clear hV9 hO9
                      have d9_0 := grow_cell hT9 m0
                      have d9_1 := grow_cell hT9 m1
                      have d9_2 := grow_cell hT9 m2
                      have d9_3 := grow_cell hT9 i0'
                      have d9_4 := grow_cell hT9 i1'
                      have d9_5 := grow_cell hT9 i2'
                      have d9_6 := grow_cell hT9 j0'
                      have d9_7 := grow_cell hT9 j1'
                      have d9_8 := grow_cell hT9 j2'
                      go_simp
                      exact hK9 _ (Grow.refl _)
                    case s6_27 =>
                      intro t9 w9 hT9 hV9 hO9 K9 hK9
                      have p9_18 : t9[111]? = some ?v6_18 := hV9 18 111 rfl rfl (of_decide_eq_true (by kernel_rfl))
                      have p9_22 : t9[115]? = some ?v6_22 := hV9 22 115 rfl rfl (of_decide_eq_true (by kernel_rfl))
                      have p9_26 : t9[119]? = some ?v6_26 := hV9 26 119 rfl rfl (of_decide_eq_true (by kernel_rfl))
                      clear hV9 hO9
                      go_simp
                      first | exact hK9 _ (Grow.refl _) | (refine (hci.out _).mono ?_; rintro _ w8 ⟨rfl, hb8⟩; exact hK9 _ hb8)
                    case s6_28 =>
                      intro t9 w9 hT9 hV9 hO9 K9 hK9
                      have p9_14 : t9[107]? = some ?v6_14 := hV9 14 107 rfl rfl (of_decide_eq_true (by kernel_rfl))
                      have p9_18 : t9[111]? = some ?v6_18 := hV9 18 111 rfl rfl (of_decide_eq_true (by kernel_rfl))
                      have p9_27 : t9[120]? = some ?v6_27 := hV9 27 120 rfl rfl (of_decide_eq_true (by kernel_rfl))
                      clear hV9 hO9
                      go_simp
                      exact hK9 _ (Grow.refl _)
                    case s6_29 =>
                      intro t9 w9 hT9 hV9 hO9 K9 hK9
                      have p9_14 : t9[107]? = some ?v6_14 := hV9 14 107 rfl rfl (of_decide_eq_true (by kernel_rfl))
                      have p9_28 : t9[121]? = some ?v6_28 := hV9 28 121 rfl rfl (of_decide_eq_true (by kernel_rfl))
                      clear hV9 hO9
                      go_simp
                      exact hK9 _ (Grow.refl _)
                    case s6_30 =>
                      intro t9 w9 hT9 hV9 hO9 K9 hK9
                      have p9_29 : t9[122]? = some ?v6_29 := hV9 29 122 rfl rfl (of_decide_eq_true (by kernel_rfl))
                      clear hV9 hO9
                      go_simp
                      exact hK9 _ (Grow.refl _)
                    intro w9 hb9
                    simp only [putAll, Act.put, List.setIfInBounds_toArray, List.set_cons_succ, List.set_cons_zero, List.getD_cons_succ, List.getD_cons_zero, Nat.reduceAdd, Nat.zero_add]
                    go_wp2_with fail
                    go_meet
                    exact ⟨true, rfl, Lib.hid (⟨fun _ => hbo.out.1 (by first | exact trivial | rfl), fun _ => rfl⟩ : true = true ↔ (Sub ps m i0 ∧ Sub ps m j0)), hLm.below hb9, below5 hbm hb9⟩
                  · have bj : (((m : Nat) : Int) == (j0 : Int)) = false := by simp; omega
                    cases hdj : Dom (labAt (labels ps) m) (labAt (labels ps) j0) with
                    | true =>
                      have hcj := Lib.hid (dom_call _ _ _ hdj)
                      have hbo : Hid (true = true ↔ (Sub ps m i0 ∧ Sub ps m j0)) := by show _ ↔ _; exact ⟨fun _ => ⟨hsi.out, .inr (DJ.out.1 hdj)⟩, fun _ => rfl⟩
                      clear hej hdj
                      refine wp_reg_abs (some 93 :: some 94 :: some 95 :: some 96 :: some 97 :: some 98 :: some 99 :: some 100 :: some 101 :: some 102 :: some 103 :: some 104 :: some 105 :: some 106 :: some 107 :: some 108 :: some 109 :: some 110 :: some 111 :: some 112 :: some 113 :: some 114 :: some 115 :: some 116 :: some 117 :: some 118 :: some 119 :: some 120 :: some 121 :: some 122 :: some 13 :: []) (?v7_0 :: ?v7_1 :: ?v7_2 :: ?v7_3 :: ?v7_4 :: ?v7_5 :: ?v7_6 :: ?v7_7 :: ?v7_8 :: ?v7_9 :: ?v7_10 :: ?v7_11 :: ?v7_12 :: ?v7_13 :: ?v7_14 :: ?v7_15 :: ?v7_16 :: ?v7_17 :: ?v7_18 :: ?v7_19 :: ?v7_20 :: ?v7_21 :: ?v7_22 :: ?v7_23 :: ?v7_24 :: ?v7_25 :: ?v7_26 :: ?v7_27 :: ?v7_28 :: ?v7_29 :: ?v7_30 :: []) rfl (by kernel_rfl) rfl rfl ⟨?s7_0, ?s7_1, ?s7_2, ?s7_3, ?s7_4, ?s7_5, ?s7_6, ?s7_7, ?s7_8, ?s7_9, ?s7_10, ?s7_11, ?s7_12, ?s7_13, ?s7_14, ?s7_15, ?s7_16, ?s7_17, ?s7_18, ?s7_19, ?s7_20, ?s7_21, ?s7_22, ?s7_23, ?s7_24, ?s7_25, ?s7_26, ?s7_27, ?s7_28, ?s7_29, ?s7_30, trivial⟩ ?p7
                      case s7_0 =>
                        intro t9 w9 hT9 hV9 hO9 K9 hK9
                        have o9_12 := hO9 12 _ (by kernel_rfl) rfl
                        clear hV9 hO9
                        go_simp
                        exact hK9 _ (Grow.refl _)
                      case s7_1 =>
                        intro t9 w9 hT9 hV9 hO9 K9 hK9
                        have o9_1 := hO9 1 _ (by kernel_rfl) rfl
                        clear hV9 hO9
                        go_simp
                        exact hK9 _ (Grow.refl _)
                      case s7_2 =>
                        intro t9 w9 hT9 hV9 hO9 K9 hK9
                        have p9_0 : t9[93]? = some ?v7_0 := hV9 0 93 rfl rfl (of_decide_eq_true (by kernel_rfl))
                        have p9_1 : t9[94]? = some ?v7_1 := hV9 1 94 rfl rfl (of_decide_eq_true (by kernel_rfl))
                        clear hV9 hO9
                        go_simp
                        exact hK9 _ (Grow.refl _)
                      case s7_3 =>
                        intro t9 w9 hT9 hV9 hO9 K9 hK9
                        have p9_2 : t9[95]? = some ?v7_2 := hV9 2 95 rfl rfl (of_decide_eq_true (by kernel_rfl))
                        clear hV9 hO9
                        go_simp
                        exact hK9 _ (Grow.refl _)
                      case s7_4 =>
                        intro t9 w9 hT9 hV9 hO9 K9 hK9
                        have p9_3 : t9[96]? = some ?v7_3 := hV9 3 96 rfl rfl (of_decide_eq_true (by kernel_rfl))
                        have o9_8 := hO9 8 _ (by kernel_rfl) rfl
                        clear hV9 hO9
                        go_simp
                        exact hK9 _ (Grow.refl _)
                      case s7_5 =>
                        intro t9 w9 hT9 hV9 hO9 K9 hK9
                        have p9_3 : t9[96]? = some ?v7_3 := hV9 3 96 rfl rfl (of_decide_eq_true (by kernel_rfl))
                        have o9_12 := hO9 12 _ (by kernel_rfl) rfl
                        clear hV9 hO9
                        go_simp
                        exact hK9 _ (Grow.refl _)
                      case s7_6 =>
                        intro t9 w9 hT9 hV9 hO9 K9 hK9
                        have p9_3 : t9[96]? = some ?v7_3 := hV9 3 96 rfl rfl (of_decide_eq_true (by kernel_rfl))
                        have p9_4 : t9[97]? = some ?v7_4 := hV9 4 97 rfl rfl (of_decide_eq_true (by kernel_rfl))
                        have p9_5 : t9[98]? = some ?v7_5 := hV9 5 98 rfl rfl (of_decide_eq_true (by kernel_rfl))
                        clear hV9 hO9
                        go_simp
                        exact hK9 _ (Grow.refl _)
                      case s7_7 =>
                        intro t9 w9 hT9 hV9 hO9 K9 hK9
                        have p9_3 : t9[96]? = some ?v7_3 := hV9 3 96 rfl rfl (of_decide_eq_true (by kernel_rfl))
                        have p9_6 : t9[99]? = some ?v7_6 := hV9 6 99 rfl rfl (of_decide_eq_true (by kernel_rfl))
                        clear hV9 hO9
                        have d9_0 := grow_cell hT9 m0
                        have d9_1 := grow_cell hT9 m1
                        have d9_2 := grow_cell hT9 m2
                        have d9_3 := grow_cell hT9 i0'
                        have d9_4 := grow_cell hT9 i1'
                        have d9_5 := grow_cell hT9 i2'
                        have d9_6 := grow_cell hT9 j0'
                        have d9_7 := grow_cell hT9 j1'
                        have d9_8 := grow_cell hT9 j2'
                        go_simp
                        exact hK9 _ (Grow.refl _)
                      case s7_8 =>
                        intro t9 w9 hT9 hV9 hO9 K9 hK9
                        have p9_3 : t9[96]? = some ?v7_3 := hV9 3 96 rfl rfl (of_decide_eq_true (by kernel_rfl))
                        have o9_8 := hO9 8 _ (by kernel_rfl) rfl
                        clear hV9 hO9
                        go_simp
                        exact hK9 _ (Grow.refl _)
                      case s7_9 =>
                        intro t9 w9 hT9 hV9 hO9 K9 hK9
                        have p9_3 : t9[96]? = some ?v7_3 := hV9 3 96 rfl rfl (of_decide_eq_true (by kernel_rfl))
                        have o9_1 := hO9 1 _ (by kernel_rfl) rfl
                        clear hV9 hO9
                        go_simp
                        exact hK9 _ (Grow.refl _)
                      case s7_10 =>
                        intro t9 w9 hT9 hV9 hO9 K9 hK9
                        have p9_3 : t9[96]? = some ?v7_3 := hV9 3 96 rfl rfl (of_decide_eq_true (by kernel_rfl))
                        have p9_8 : t9[101]? = some ?v7_8 := hV9 8 101 rfl rfl (of_decide_eq_true (by kernel_rfl))
                        have p9_9 : t9[102]? = some ?v7_9 := hV9 9 102 rfl rfl (of_decide_eq_true (by kernel_rfl))
                        clear hV9 hO9
                        go_simp
                        exact hK9 _ (Grow.refl _)
                      case s7_11 =>
                        intro t9 w9 hT9 hV9 hO9 K9 hK9
                        have p9_3 : t9[96]? = some ?v7_3 := hV9 3 96 rfl rfl (of_decide_eq_true (by kernel_rfl))
                        have p9_10 : t9[103]? = some ?v7_10 := hV9 10 103 rfl rfl (of_decide_eq_true (by kernel_rfl))
                        clear hV9 hO9
                        have d9_0 := grow_cell hT9 m0
                        have d9_1 := grow_cell hT9 m1
                        have d9_2 := grow_cell hT9 m2
                        have d9_3 := grow_cell hT9 i0'
                        have d9_4 := grow_cell hT9 i1'
                        have d9_5 := grow_cell hT9 i2'
                        have d9_6 := grow_cell hT9 j0'
                        have d9_7 := grow_cell hT9 j1'
                        have d9_8 := grow_cell hT9 j2'
                        go_simp
                        exact hK9 _ (Grow.refl _)
                      case s7_12 =>
                        intro t9 w9 hT9 hV9 hO9 K9 hK9
                        have p9_3 : t9[96]? = some ?v7_3 := hV9 3 96 rfl rfl (of_decide_eq_true (by kernel_rfl))
                        have p9_7 : t9[100]? = some ?v7_7 := hV9 7 100 rfl rfl (of_decide_eq_true (by kernel_rfl))
                        have p9_11 : t9[104]? = some ?v7_11 := hV9 11 104 rfl rfl (of_decide_eq_true (by kernel_rfl))
                        clear hV9 hO9
                        go_simp
                        first | exact hK9 _ (Grow.refl _) | (refine (hci.out _).mono ?_; rintro _ w8 ⟨rfl, hb8⟩; exact hK9 _ hb8)
                      case s7_13 =>
                        intro t9 w9 hT9 hV9 hO9 K9 hK9
                        have p9_3 : t9[96]? = some ?v7_3 := hV9 3 96 rfl rfl (of_decide_eq_true (by kernel_rfl))
                        have p9_12 : t9[105]? = some ?v7_12 := hV9 12 105 rfl rfl (of_decide_eq_true (by kernel_rfl))
                        clear hV9 hO9
                        go_simp
                        exact hK9 _ (Grow.refl _)
                      case s7_14 =>
                        intro t9 w9 hT9 hV9 hO9 K9 hK9
                        have p9_13 : t9[106]? = some ?v7_13 := hV9 13 106 rfl rfl (of_decide_eq_true (by kernel_rfl))
                        clear hV9 hO9
                        go_simp
                        exact hK9 _ (Grow.refl _)
                      case s7_15 =>
                        intro t9 w9 hT9 hV9 hO9 K9 hK9
                        have p9_14 : t9[107]? = some ?v7_14 := hV9 14 107 rfl rfl (of_decide_eq_true (by kernel_rfl))
                        have o9_12 := hO9 12 _ (by kernel_rfl) rfl
                        clear hV9 hO9
                        go_simp
                        exact hK9 _ (Grow.refl _)
                      case s7_16 =>
                        intro t9 w9 hT9 hV9 hO9 K9 hK9
                        have p9_14 : t9[107]? = some ?v7_14 := hV9 14 107 rfl rfl (of_decide_eq_true (by kernel_rfl))
                        have o9_2 := hO9 2 _ (by kernel_rfl) rfl
                        clear hV9 hO9
                        go_simp
                        exact hK9 _ (Grow.refl _)
                      case s7_17 =>
                        intro t9 w9 hT9 hV9 hO9 K9 hK9
                        have p9_14 : t9[107]? = some ?v7_14 := hV9 14 107 rfl rfl (of_decide_eq_true (by kernel_rfl))
                        have p9_15 : t9[108]? = some ?v7_15 := hV9 15 108 rfl rfl (of_decide_eq_true (by kernel_rfl))
                        have p9_16 : t9[109]? = some ?v7_16 := hV9 16 109 rfl rfl (of_decide_eq_true (by kernel_rfl))
                        clear hV9 hO9
                        go_simp
                        exact hK9 _ (Grow.refl _)
                      case s7_18 =>
                        intro t9 w9 hT9 hV9 hO9 K9 hK9
                        have p9_14 : t9[107]? = some ?v7_14 := hV9 14 107 rfl rfl (of_decide_eq_true (by kernel_rfl))
                        have p9_17 : t9[110]? = some ?v7_17 := hV9 17 110 rfl rfl (of_decide_eq_true (by kernel_rfl))
                        clear hV9 hO9
                        go_simp
                        exact hK9 _ (Grow.refl _)
                      case s7_19 =>
                        intro t9 w9 hT9 hV9 hO9 K9 hK9
                        have p9_18 : t9[111]? = some ?v7_18 := hV9 18 111 rfl rfl (of_decide_eq_true (by kernel_rfl))
                        have o9_8 := hO9 8 _ (by kernel_rfl) rfl
                        clear hV9 hO9
                        go_simp
                        exact hK9 _ (Grow.refl _)
                      case s7_20 =>
                        intro t9 w9 hT9 hV9 hO9 K9 hK9
                        have p9_18 : t9[111]? = some ?v7_18 := hV9 18 111 rfl rfl (of_decide_eq_true (by kernel_rfl))
                        have o9_12 := hO9 12 _ (by kernel_rfl) rfl
                        clear hV9 hO9
                        go_simp
                        exact hK9 _ (Grow.refl _)
                      case s7_21 =>
                        intro t9 w9 hT9 hV9 hO9 K9 hK9
                        have p9_18 : t9[111]? = some ?v7_18 := hV9 18 111 rfl rfl (of_decide_eq_true (by kernel_rfl))
                        have p9_19 : t9[112]? = some ?v7_19 := hV9 19 112 rfl rfl (of_decide_eq_true (by kernel_rfl))
                        have p9_20 : t9[113]? = some ?v7_20 := hV9 20 113 rfl rfl (of_decide_eq_true (by kernel_rfl))
                        clear hV9 hO9
                        go_simp
                        exact hK9 _ (Grow.refl _)
                      case s7_22 =>
                        intro t9 w9 hT9 hV9 hO9 K9 hK9
                        have p9_18 : t9[111]? = some ?v7_18 := hV9 18 111 rfl rfl (of_decide_eq_true (by kernel_rfl))
                        have p9_21 : t9[114]? = some ?v7_21 := hV9 21 114 rfl rfl (of_decide_eq_true (by kernel_rfl))
                        clear hV9 hO9
                        have d9_0 := grow_cell hT9 m0
                        have d9_1 := grow_cell hT9 m1
                        have d9_2 := grow_cell hT9 m2
                        have d9_3 := grow_cell hT9 i0'
                        have d9_4 := grow_cell hT9 i1'
                        have d9_5 := grow_cell hT9 i2'
                        have d9_6 := grow_cell hT9 j0'
                        have d9_7 := grow_cell hT9 j1'
                        have d9_8 := grow_cell hT9 j2'
                        go_simp
                        exact hK9 _ (Grow.refl _)
                      case s7_23 =>
                        intro t9 w9 hT9 hV9 hO9 K9 hK9
                        have p9_18 : t9[111]? = some ?v7_18 := hV9 18 111 rfl rfl (of_decide_eq_true (by kernel_rfl))
                        have o9_8 := hO9 8 _ (by kernel_rfl) rfl
                        clear hV9 hO9
                        go_simp
                        exact hK9 _ (Grow.refl _)
                      case s7_24 =>
                        intro t9 w9 hT9 hV9 hO9 K9 hK9
                        have p9_18 : t9[111]? = some ?v7_18 := hV9 18 111 rfl rfl (of_decide_eq_true (by kernel_rfl))
                        have o9_2 := hO9 2 _ (by kernel_rfl) rfl
                        clear hV9 hO9
                        go_simp
                        exact hK9 _ (Grow.refl _)
                      case s7_25 =>
                        intro t9 w9 hT9 hV9 hO9 K9 hK9
                        have p9_18 : t9[111]? = some ?v7_18 := hV9 18 111 rfl rfl (of_decide_eq_true (by kernel_rfl))
                        have p9_23 : t9[116]? = some ?v7_23 := hV9 23 116 rfl rfl (of_decide_eq_true (by kernel_rfl))
                        have p9_24 : t9[117]? = some ?v7_24 := hV9 24 117 rfl rfl (of_decide_eq_true (by kernel_rfl))
                        clear hV9 hO9
                        go_simp
                        exact hK9 _ (Grow.refl _)
                      case s7_26 =>
                        intro t9 w9 hT9 hV9 hO9 K9 hK9
                        have p9_18 : t9[111]? = some ?v7_18 := hV9 18 111 rfl rfl (of_decide_eq_true (by kernel_rfl))
                        have p9_25 : t9[118]? = some ?v7_25 := hV9 25 118 rfl rfl (of_decide_eq_true (by kernel_rfl))
                        clear hV9 hO9
                        have d9_0 := grow_cell hT9 m0
                        have d9_1 := grow_cell hT9 m1
                        have d9_2 := grow_cell hT9 m2
                        have d9_3 := grow_cell hT9 i0'
                        have d9_4 := grow_cell hT9 i1'
                        have d9_5 := grow_cell hT9 i2'
                        have d9_6 := grow_cell hT9 j0'
                        have d9_7 := grow_cell hT9 j1'
                        have d9_8 := grow_cell hT9 j2'
                        go_simp
                        exact hK9 _ (Grow.refl _)
                      case s7_27 =>
                        intro t9 w9 hT9 hV9 hO9 K9 hK9
                        have p9_18 : t9[111]? = some ?v7_18 := hV9 18 111 rfl rfl (of_decide_eq_true (by kernel_rfl))
                        have p9_22 : t9[115]? = some ?v7_22 := hV9 22 115 rfl rfl (of_decide_eq_true (by kernel_rfl))
                        have p9_26 : t9[119]? = some ?v7_26 := hV9 26 119 rfl rfl (of_decide_eq_true (by kernel_rfl))
                        clear hV9 hO9
                        go_simp
                        first | exact hK9 _ (Grow.refl _) | (refine (hcj.out _).mono ?_; rintro _ w8 ⟨rfl, hb8⟩; exact hK9 _ hb8)
                      case s7_28 =>
                        intro t9 w9 hT9 hV9 hO9 K9 hK9
                        have p9_14 : t9[107]? = some ?v7_14 := hV9 14 107 rfl rfl (of_decide_eq_true (by kernel_rfl))
                        have p9_18 : t9[111]? = some ?v7_18 := hV9 18 111 rfl rfl (of_decide_eq_true (by kernel_rfl))
                        have p9_27 : t9[120]? = some ?v7_27 := hV9 27 120 rfl rfl (of_decide_eq_true (by kernel_rfl))
                        clear hV9 hO9
                        go_simp
                        exact hK9 _ (Grow.refl _)
                      case s7_29 =>
                        intro t9 w9 hT9 hV9 hO9 K9 hK9
                        have p9_14 : t9[107]? = some ?v7_14 := hV9 14 107 rfl rfl (of_decide_eq_true (by kernel_rfl))
                        have p9_28 : t9[121]? = some ?v7_28 := hV9 28 121 rfl rfl (of_decide_eq_true (by kernel_rfl))
                        clear hV9 hO9
                        go_simp
                        exact hK9 _ (Grow.refl _)
                      case s7_30 =>
                        intro t9 w9 hT9 hV9 hO9 K9 hK9
                        have p9_29 : t9[122]? = some ?v7_29 := hV9 29 122 rfl rfl (of_decide_eq_true (by kernel_rfl))
                        clear hV9 hO9
                        go_simp
                        exact hK9 _ (Grow.refl _)
                      intro w9 hb9
                      simp only [putAll, Act.put, List.setIfInBounds_toArray, List.set_cons_succ, List.set_cons_zero, List.getD_cons_succ, List.getD_cons_zero, Nat.reduceAdd, Nat.zero_add]
                      go_wp2_with fail
                      go_meet
                      exact ⟨true, rfl, Lib.hid (⟨fun _ => hbo.out.1 (by first | exact trivial | rfl), fun _ => rfl⟩ : true = true ↔ (Sub ps m i0 ∧ Sub ps m j0)), hLm.below hb9, below5 hbm hb9⟩
                    | false =>
                      have hcj := Lib.hid (dom_call _ _ _ hdj)
                      have hbo : Hid (false = true ↔ (Sub ps m i0 ∧ Sub ps m j0)) := by show _ ↔ _; exact ⟨fun h => (by cases h), fun h => (by rcases h.2 with h2 | h2; exact absurd h2.symm hej; rw [DJ.out.2 h2] at hdj; cases hdj)⟩
                      clear hej hdj
                      refine wp_reg_abs (some 93 :: some 94 :: some 95 :: some 96 :: some 97 :: some 98 :: some 99 :: some 100 :: some 101 :: some 102 :: some 103 :: some 104 :: some 105 :: some 106 :: some 107 :: some 108 :: some 109 :: some 110 :: some 111 :: some 112 :: some 113 :: some 114 :: some 115 :: some 116 :: some 117 :: some 118 :: some 119 :: some 120 :: some 121 :: some 122 :: some 13 :: []) (?v8_0 :: ?v8_1 :: ?v8_2 :: ?v8_3 :: ?v8_4 :: ?v8_5 :: ?v8_6 :: ?v8_7 :: ?v8_8 :: ?v8_9 :: ?v8_10 :: ?v8_11 :: ?v8_12 :: ?v8_13 :: ?v8_14 :: ?v8_15 :: ?v8_16 :: ?v8_17 :: ?v8_18 :: ?v8_19 :: ?v8_20 :: ?v8_21 :: ?v8_22 :: ?v8_23 :: ?v8_24 :: ?v8_25 :: ?v8_26 :: ?v8_27 :: ?v8_28 :: ?v8_29 :: ?v8_30 :: []) rfl (by kernel_rfl) rfl rfl ⟨?s8_0, ?s8_1, ?s8_2, ?s8_3, ?s8_4, ?s8_5, ?s8_6, ?s8_7, ?s8_8, ?s8_9, ?s8_10, ?s8_11, ?s8_12, ?s8_13, ?s8_14, ?s8_15, ?s8_16, ?s8_17, ?s8_18, ?s8_19, ?s8_20, ?s8_21, ?s8_22, ?s8_23, ?s8_24, ?s8_25, ?s8_26, ?s8_27, ?s8_28, ?s8_29, ?s8_30, trivial⟩ ?p8
                      case s8_0 =>
                        intro t9 w9 hT9 hV9 hO9 K9 hK9
                        have o9_12 := hO9 12 _ (by kernel_rfl) rfl
                        clear hV9 hO9
                        go_simp
                        exact hK9 _ (Grow.refl _)
                      case s8_1 =>
                        intro t9 w9 hT9 hV9 hO9 K9 hK9
                        have o9_1 := hO9 1 _ (by kernel_rfl) rfl
                        clear hV9 hO9
                        go_simp
                        exact hK9 _ (Grow.refl _)
                      case s8_2 =>
                        intro t9 w9 hT9 hV9 hO9 K9 hK9
                        have p9_0 : t9[93]? = some ?v8_0 := hV9 0 93 rfl rfl (of_decide_eq_true (by kernel_rfl))
                        have p9_1 : t9[94]? = some ?v8_1 := hV9 1 94 rfl rfl (of_decide_eq_true (by kernel_rfl))
                        clear hV9 hO9
                        go_simp
                        exact hK9 _ (Grow.refl _)
                      case s8_3 =>
                        intro t9 w9 hT9 hV9 hO9 K9 hK9
                        have p9_2 : t9[95]? = some ?v8_2 := hV9 2 95 rfl rfl (of_decide_eq_true (by kernel_rfl))
                        clear hV9 hO9
                        go_simp
                        exact hK9 _ (Grow.refl _)
                      case s8_4 =>
                        intro t9 w9 hT9 hV9 hO9 K9 hK9
                        have p9_3 : t9[96]? = some ?v8_3 := hV9 3 96 rfl rfl (of_decide_eq_true (by kernel_rfl))
                        have o9_8 := hO9 8 _ (by kernel_rfl) rfl
                        clear hV9 hO9
                        go_simp
                        exact hK9 _ (Grow.refl _)
                      case s8_5 =>
                        intro t9 w9 hT9 hV9 hO9 K9 hK9
                        have p9_3 : t9[96]? = some ?v8_3 := hV9 3 96 rfl rfl (of_decide_eq_true (by kernel_rfl))
                        have o9_12 := hO9 12 _ (by kernel_rfl) rfl
                        clear hV9 hO9
                        go_simp
                        exact hK9 _ (Grow.refl _)
                      case s8_6 =>
                        intro t9 w9 hT9 hV9 hO9 K9 hK9
                        have p9_3 : t9[96]? = some ?v8_3 := hV9 3 96 rfl rfl (of_decide_eq_true (by kernel_rfl))
                        have p9_4 : t9[97]? = some ?v8_4 := hV9 4 97 rfl rfl (of_decide_eq_true (by kernel_rfl))
                        have p9_5 : t9[98]? = some ?v8_5 := hV9 5 98 rfl rfl (of_decide_eq_true (by kernel_rfl))
                        clear hV9 hO9
                        go_simp
                        exact hK9 _ (Grow.refl _)
                      case s8_7 =>
                        intro t9 w9 hT9 hV9 hO9 K9 hK9
                        have p9_3 : t9[96]? = some ?v8_3 := hV9 3 96 rfl rfl (of_decide_eq_true (by kernel_rfl))
                        have p9_6 : t9[99]? = some ?v8_6 := hV9 6 99 rfl rfl (of_decide_eq_true (by kernel_rfl))
                        clear hV9 hO9
                        have d9_0 := grow_cell hT9 m0
                        have d9_1 := grow_cell hT9 m1
                        have d9_2 := grow_cell hT9 m2
                        have d9_3 := grow_cell hT9 i0'
                        have d9_4 := grow_cell hT9 i1'
                        have d9_5 := grow_cell hT9 i2'
                        have d9_6 := grow_cell hT9 j0'
                        have d9_7 := grow_cell hT9 j1'
                        have d9_8 := grow_cell hT9 j2'
                        go_simp
                        exact hK9 _ (Grow.refl _)
                      case s8_8 =>
                        intro t9 w9 hT9 hV9 hO9 K9 hK9
                        have p9_3 : t9[96]? = some ?v8_3 := hV9 3 96 rfl rfl (of_decide_eq_true (by kernel_rfl))
                        have o9_8 := hO9 8 _ (by kernel_rfl) rfl
                        clear hV9 hO9
                        go_simp
                        exact hK9 _ (Grow.refl _)
                      case s8_9 =>
                        intro t9 w9 hT9 hV9 hO9 K9 hK9
                        have p9_3 : t9[96]? = some ?v8_3 := hV9 3 96 rfl rfl (of_decide_eq_true (by kernel_rfl))
                        have o9_1 := hO9 1 _ (by kernel_rfl) rfl
                        clear hV9 hO9
                        go_simp
                        exact hK9 _ (Grow.refl _)
                      case s8_10 =>
                        intro t9 w9 hT9 hV9 hO9 K9 hK9
                        have p9_3 : t9[96]? = some ?v8_3 := hV9 3 96 rfl rfl (of_decide_eq_true (by kernel_rfl))
                        have p9_8 : t9[101]? = some ?v8_8 := hV9 8 101 rfl rfl (of_decide_eq_true (by kernel_rfl))
                        have p9_9 : t9[102]? = some ?v8_9 := hV9 9 102 rfl rfl (of_decide_eq_true (by kernel_rfl))
                        clear hV9 hO9
                        go_simp
                        exact hK9 _ (Grow.refl _)
                      case s8_11 =>
                        intro t9 w9 hT9 hV9 hO9 K9 hK9
                        have p9_3 : t9[96]? = some ?v8_3 := hV9 3 96 rfl rfl (of_decide_eq_true (by kernel_rfl))
                        have p9_10 : t9[103]? = some ?v8_10 := hV9 10 103 rfl rfl (of_decide_eq_true (by kernel_rfl))
                        clear hV9 hO9
                        have d9_0 := grow_cell hT9 m0
                        have d9_1 := grow_cell hT9 m1
                        have d9_2 := grow_cell hT9 m2
                        have d9_3 := grow_cell hT9 i0'
                        have d9_4 := grow_cell hT9 i1'
                        have d9_5 := grow_cell hT9 i2'
                        have d9_6 := grow_cell hT9 j0'
                        have d9_7 := grow_cell hT9 j1'
                        have d9_8 := grow_cell hT9 j2'
                        go_simp
                        exact hK9 _ (Grow.refl _)
                      case s8_12 =>
                        intro t9 w9 hT9 hV9 hO9 K9 hK9
                        have p9_3 : t9[96]? = some ?v8_3 := hV9 3 96 rfl rfl (of_decide_eq_true (by kernel_rfl))
                        have p9_7 : t9[100]? = some ?v8_7 := hV9 7 100 rfl rfl (of_decide_eq_true (by kernel_rfl))
                        have p9_11 : t9[104]? = some ?v8_11 := hV9 11 104 rfl rfl (of_decide_eq_true (by kernel_rfl))
                        clear hV9 hO9
                        go_simp
                        first | exact hK9 _ (Grow.refl _) | (refine (hci.out _).mono ?_; rintro _ w8 ⟨rfl, hb8⟩; exact hK9 _ hb8)
                      case s8_13 =>
                        intro t9 w9 hT9 hV9 hO9 K9 hK9
                        have p9_3 : t9[96]? = some ?v8_3 := hV9 3 96 rfl rfl (of_decide_eq_true (by kernel_rfl))
                        have p9_12 : t9[105]? = some ?v8_12 := hV9 12 105 rfl rfl (of_decide_eq_true (by kernel_rfl))
                        clear hV9 hO9
                        go_simp
                        exact hK9 _ (Grow.refl _)
                      case s8_14 =>
                        intro t9 w9 hT9 hV9 hO9 K9 hK9
                        have p9_13 : t9[106]? = some ?v8_13 := hV9 13 106 rfl rfl (of_decide_eq_true (by kernel_rfl))
                        clear hV9 hO9
                        go_simp
                        exact hK9 _ (Grow.refl _)
                      case s8_15 =>
                        intro t9 w9 hT9 hV9 hO9 K9 hK9
                        have p9_14 : t9[107]? = some ?v8_14 := hV9 14 107 rfl rfl (of_decide_eq_true (by kernel_rfl))
                        have o9_12 := hO9 12 _ (by kernel_rfl) rfl
                        clear hV9 hO9
                        go_simp
                        exact hK9 _ (Grow.refl _)
                      case s8_16 =>
                        intro t9 w9 hT9 hV9 hO9 K9 hK9
                        have p9_14 : t9[107]? = some ?v8_14 := hV9 14 107 rfl rfl (of_decide_eq_true (by kernel_rfl))
                        have o9_2 := hO9 2 _ (by kernel_rfl) rfl
                        clear hV9 hO9
                        go_simp
                        exact hK9 _ (Grow.refl _)
                      case s8_17 =>
                        intro t9 w9 hT9 hV9 hO9 K9 hK9
                        have p9_14 : t9[107]? = some ?v8_14 := hV9 14 107 rfl rfl (of_decide_eq_true (by kernel_rfl))
                        have p9_15 : t9[108]? = some ?v8_15 := hV9 15 108 rfl rfl (of_decide_eq_true (by kernel_rfl))
                        have p9_16 : t9[109]? = some ?v8_16 := hV9 16 109 rfl rfl (of_decide_eq_true (by kernel_rfl))
                        clear hV9 hO9
                        go_simp
                        exact hK9 _ (Grow.refl _)
                      case s8_18 =>
                        intro t9 w9 hT9 hV9 hO9 K9 hK9
                        have p9_14 : t9[107]? = some ?v8_14 := hV9 14 107 rfl rfl (of_decide_eq_true (by kernel_rfl))
                        have p9_17 : t9[110]? = some ?v8_17 := hV9 17 110 rfl rfl (of_decide_eq_true (by kernel_rfl))
                        clear hV9 hO9
                        go_simp
                        exact hK9 _ (Grow.refl _)
                      case s8_19 =>
                        intro t9 w9 hT9 hV9 hO9 K9 hK9
                        have p9_18 : t9[111]? = some ?v8_18 := hV9 18 111 rfl rfl (of_decide_eq_true (by kernel_rfl))
                        have o9_8 := hO9 8 _ (by kernel_rfl) rfl
                        clear hV9 hO9
                        go_simp
                        exact hK9 _ (Grow.refl _)
                      case s8_20 =>
                        intro t9 w9 hT9 hV9 hO9 K9 hK9
                        have p9_18 : t9[111]? = some ?v8_18 := hV9 18 111 rfl rfl (of_decide_eq_true (by kernel_rfl))
                        have o9_12 := hO9 12 _ (by kernel_rfl) rfl
                        clear hV9 hO9
                        go_simp
                        exact hK9 _ (Grow.refl _)
                      case s8_21 =>
                        intro t9 w9 hT9 hV9 hO9 K9 hK9
                        have p9_18 : t9[111]? = some ?v8_18 := hV9 18 111 rfl rfl (of_decide_eq_true (by kernel_rfl))
                        have p9_19 : t9[112]? = some ?v8_19 := hV9 19 112 rfl rfl (of_decide_eq_true (by kernel_rfl))
                        have p9_20 : t9[113]? = some ?v8_20 := hV9 20 113 rfl rfl (of_decide_eq_true (by kernel_rfl))
                        clear hV9 hO9
                        go_simp
                        exact hK9 _ (Grow.refl _)
                      case s8_22 =>
                        intro t9 w9 hT9 hV9 hO9 K9 hK9
                        have p9_18 : t9[111]? = some ?v8_18 := hV9 18 111 rfl rfl (of_decide_eq_true (by kernel_rfl))
                        have p9_21 : t9[114]? = some ?v8_21 := hV9 21 114 rfl rfl (of_decide_eq_true (by kernel_rfl))
                        clear hV9 hO9
                        have d9_0 := grow_cell hT9 m0
                        have d9_1 := grow_cell hT9 m1
                        have d9_2 := grow_cell hT9 m2
                        have d9_3 := grow_cell hT9 i0'
                        have d9_4 := grow_cell hT9 i1'
                        have d9_5 := grow_cell hT9 i2'
                        have d9_6 := grow_cell hT9 j0'
                        have d9_7 := grow_cell hT9 j1'
                        have d9_8 := grow_cell hT9 j2'
                        go_simp
                        exact hK9 _ (Grow.refl _)
                      case s8_23 =>
                        intro t9 w9 hT9 hV9 hO9 K9 hK9
                        have p9_18 : t9[111]? = some ?v8_18 := hV9 18 111 rfl rfl (of_decide_eq_true (by kernel_rfl))
                        have o9_8 := hO9 8 _ (by kernel_rfl) rfl
                        clear hV9 hO9
                        go_simp
                        exact hK9 _ (Grow.refl _)
                      case s8_24 =>
                        intro t9 w9 hT9 hV9 hO9 K9 hK9
                        have p9_18 : t9[111]? = some ?v8_18 := hV9 18 111 rfl rfl (of_decide_eq_true (by kernel_rfl))
                        have o9_2 := hO9 2 _ (by kernel_rfl) rfl
                        clear hV9 hO9
                        go_simp
                        exact hK9 _ (Grow.refl _)
                      case s8_25 =>
                        intro t9 w9 hT9 hV9 hO9 K9 hK9
                        have p9_18 : t9[111]? = some ?v8_18 := hV9 18 111 rfl rfl (of_decide_eq_true (by kernel_rfl))
                        have p9_23 : t9[116]? = some ?v8_23 := hV9 23 116 rfl rfl (of_decide_eq_true (by kernel_rfl))
                        have p9_24 : t9[117]? = some ?v8_24 := hV9 24 117 rfl rfl (of_decide_eq_true (by kernel_rfl))
                        clear hV9 hO9
                        go_simp
                        exact hK9 _ (Grow.refl _)
                      case s8_26 =>
                        intro t9 w9 hT9 hV9 hO9 K9 hK9
                        have p9_18 : t9[111]? = some ?v8_18 := hV9 18 111 rfl rfl (of_decide_eq_true (by kernel_rfl))
                        have p9_25 : t9[118]? = some ?v8_25 := hV9 25 118 rfl rfl (of_decide_eq_true (by kernel_rfl))
                        clear hV9 hO9
                        have d9_0 := grow_cell hT9 m0
                        have d9_1 := grow_cell hT9 m1
                        have d9_2 := grow_cell hT9 m2
                        have d9_3 := grow_cell hT9 i0'
                        have d9_4 := grow_cell hT9 i1'
                        have d9_5 := grow_cell hT9 i2'
                        have d9_6 := grow_cell hT9 j0'
                        have d9_7 := grow_cell hT9 j1'
                        have d9_8 := grow_cell hT9 j2'
                        go_simp
                        exact hK9 _ (Grow.refl _)
                      case s8_27 =>
                        intro t9 w9 hT9 hV9 hO9 K9 hK9
                        have p9_18 : t9[111]? = some ?v8_18 := hV9 18 111 rfl rfl (of_decide_eq_true (by kernel_rfl))
                        have p9_22 : t9[115]? = some ?v8_22 := hV9 22 115 rfl rfl (of_decide_eq_true (by kernel_rfl))
                        have p9_26 : t9[119]? = some ?v8_26 := hV9 26 119 rfl rfl (of_decide_eq_true (by kernel_rfl))
                        clear hV9 hO9
                        go_simp
                        first | exact hK9 _ (Grow.refl _) | (refine (hcj.out _).mono ?_; rintro _ w8 ⟨rfl, hb8⟩; exact hK9 _ hb8)
                      case s8_28 =>
                        intro t9 w9 hT9 hV9 hO9 K9 hK9
                        have p9_14 : t9[107]? = some ?v8_14 := hV9 14 107 rfl rfl (of_decide_eq_true (by kernel_rfl))
                        have p9_18 : t9[111]? = some ?v8_18 := hV9 18 111 rfl rfl (of_decide_eq_true (by kernel_rfl))
                        have p9_27 : t9[120]? = some ?v8_27 := hV9 27 120 rfl rfl (of_decide_eq_true (by kernel_rfl))
                        clear hV9 hO9
                        go_simp
                        exact hK9 _ (Grow.refl _)
                      case s8_29 =>
                        intro t9 w9 hT9 hV9 hO9 K9 hK9
                        have p9_14 : t9[107]? = some ?v8_14 := hV9 14 107 rfl rfl (of_decide_eq_true (by kernel_rfl))
                        have p9_28 : t9[121]? = some ?v8_28 := hV9 28 121 rfl rfl (of_decide_eq_true (by kernel_rfl))
                        clear hV9 hO9
                        go_simp
                        exact hK9 _ (Grow.refl _)
                      case s8_30 =>
                        intro t9 w9 hT9 hV9 hO9 K9 hK9
                        have p9_29 : t9[122]? = some ?v8_29 := hV9 29 122 rfl rfl (of_decide_eq_true (by kernel_rfl))
                        clear hV9 hO9
                        go_simp
                        exact hK9 _ (Grow.refl _)
                      intro w9 hb9
                      simp only [putAll, Act.put, List.setIfInBounds_toArray, List.set_cons_succ, List.set_cons_zero, List.getD_cons_succ, List.getD_cons_zero, Nat.reduceAdd, Nat.zero_add]
                      go_wp2_with fail
                      go_meet
                      exact ⟨false, rfl, hbo, hLm.below hb9, below5 hbm hb9⟩
                | false =>
                  have hci := Lib.hid (dom_call _ _ _ hdi)
                  have hbo : Hid (false = true ↔ (Sub ps m i0 ∧ Sub ps m j0)) := by show _ ↔ _; exact ⟨fun h => (by cases h), fun h => (by rcases h.1 with h2 | h2; exact absurd h2.symm hei; rw [DI.out.2 h2] at hdi; cases hdi)⟩
                  clear hei hdi
                  refine wp_reg_abs (some 93 :: some 94 :: some 95 :: some 96 :: some 97 :: some 98 :: some 99 :: some 100 :: some 101 :: some 102 :: some 103 :: some 104 :: some 105 :: some 106 :: some 107 :: some 108 :: some 109 :: some 110 :: some 111 :: some 112 :: some 113 :: some 114 :: some 115 :: some 116 :: some 117 :: some 118 :: some 119 :: some 120 :: some 121 :: some 122 :: some 13 :: []) (?v9_0 :: ?v9_1 :: ?v9_2 :: ?v9_3 :: ?v9_4 :: ?v9_5 :: ?v9_6 :: ?v9_7 :: ?v9_8 :: ?v9_9 :: ?v9_10 :: ?v9_11 :: ?v9_12 :: ?v9_13 :: ?v9_14 :: ?v9_15 :: ?v9_16 :: ?v9_17 :: ?v9_18 :: ?v9_19 :: ?v9_20 :: ?v9_21 :: ?v9_22 :: ?v9_23 :: ?v9_24 :: ?v9_25 :: ?v9_26 :: ?v9_27 :: ?v9_28 :: ?v9_29 :: ?v9_30 :: []) rfl (by kernel_rfl) rfl rfl ⟨?s9_0, ?s9_1, ?s9_2, ?s9_3, ?s9_4, ?s9_5, ?s9_6, ?s9_7, ?s9_8, ?s9_9, ?s9_10, ?s9_11, ?s9_12, ?s9_13, ?s9_14, ?s9_15, ?s9_16, ?s9_17, ?s9_18, ?s9_19, ?s9_20, ?s9_21, ?s9_22, ?s9_23, ?s9_24, ?s9_25, ?s9_26, ?s9_27, ?s9_28, ?s9_29, ?s9_30, trivial⟩ ?p9
                  case s9_0 =>
                    intro t9 w9 hT9 hV9 hO9 K9 hK9
                    have o9_12 := hO9 12 _ (by kernel_rfl) rfl
                    clear hV9 hO9
                    go_simp
                    exact hK9 _ (Grow.refl _)
                  case s9_1 =>
                    intro t9 w9 hT9 hV9 hO9 K9 hK9
                    have o9_1 := hO9 1 _ (by kernel_rfl) rfl
                    clear hV9 hO9
                    go_simp
                    exact hK9 _ (Grow.refl _)
                  case s9_2 =>
                    intro t9 w9 hT9 hV9 hO9 K9 hK9
                    have p9_0 : t9[93]? = some ?v9_0 := hV9 0 93 rfl rfl (of_decide_eq_true (by kernel_rfl))
                    have p9_1 : t9[94]? = some ?v9_1 := hV9 1 94 rfl rfl (of_decide_eq_true (by kernel_rfl))
                    clear hV9 hO9
                    go_simp
                    exact hK9 _ (Grow.refl _)
                  case s9_3 =>
                    intro t9 w9 hT9 hV9 hO9 K9 hK9
                    have p9_2 : t9[95]? = some ?v9_2 := hV9 2 95 rfl rfl (of_decide_eq_true (by kernel_rfl))
                    clear hV9 hO9
                    go_simp
                    exact hK9 _ (Grow.refl _)
                  case s9_4 =>
                    intro t9 w9 hT9 hV9 hO9 K9 hK9
                    have p9_3 : t9[96]? = some ?v9_3 := hV9 3 96 rfl rfl (of_decide_eq_true (by kernel_rfl))
                    have o9_8 := hO9 8 _ (by kernel_rfl) rfl
                    clear hV9 hO9
                    go_simp
                    exact hK9 _ (Grow.refl _)
                  case s9_5 =>
                    intro t9 w9 hT9 hV9 hO9 K9 hK9
                    have p9_3 : t9[96]? = some ?v9_3 := hV9 3 96 rfl rfl (of_decide_eq_true (by kernel_rfl))
                    have o9_12 := hO9 12 _ (by kernel_rfl) rfl
                    clear hV9 hO9
                    go_simp
                    exact hK9 _ (Grow.refl _)
                  case s9_6 =>
                    intro t9 w9 hT9 hV9 hO9 K9 hK9
                    have p9_3 : t9[96]? = some ?v9_3 := hV9 3 96 rfl rfl (of_decide_eq_true (by kernel_rfl))
                    have p9_4 : t9[97]? = some ?v9_4 := hV9 4 97 rfl rfl (of_decide_eq_true (by kernel_rfl))
                    have p9_5 : t9[98]? = some ?v9_5 := hV9 5 98 rfl rfl (of_decide_eq_true (by kernel_rfl))
                    clear hV9 hO9
                    go_simp
                    exact hK9 _ (Grow.refl _)
                  case s9_7 =>
                    intro t9 w9 hT9 hV9 hO9 K9 hK9
                    have p9_3 : t9[96]? = some ?v9_3 := hV9 3 96 rfl rfl (of_decide_eq_true (by kernel_rfl))
                    have p9_6 : t9[99]? = some ?v9_6 := hV9 6 99 rfl rfl (of_decide_eq_true (by kernel_rfl))
                    clear hV9 hO9
                    have d9_0 := grow_cell hT9 m0
                    have d9_1 := grow_cell hT9 m1
                    have d9_2 := grow_cell hT9 m2
                    have d9_3 := grow_cell hT9 i0'
                    have d9_4 := grow_cell hT9 i1'
                    have d9_5 := grow_cell hT9 i2'
                    have d9_6 := grow_cell hT9 j0'
                    have d9_7 := grow_cell hT9 j1'
                    have d9_8 := grow_cell hT9 j2'
                    go_simp
                    exact hK9 _ (Grow.refl _)
                  case s9_8 =>
                    intro t9 w9 hT9 hV9 hO9 K9 hK9
                    have p9_3 : t9[96]? = some ?v9_3 := hV9 3 96 rfl rfl (of_decide_eq_true (by kernel_rfl))
                    have o9_8 := hO9 8 _ (by kernel_rfl) rfl
                    clear hV9 hO9
                    go_simp
                    exact hK9 _ (Grow.refl _)
                  case s9_9 =>
                    intro t9 w9 hT9 hV9 hO9 K9 hK9
                    have p9_3 : t9[96]? = some ?v9_3 := hV9 3 96 rfl rfl (of_decide_eq_true (by kernel_rfl))
                    have o9_1 := hO9 1 _ (by kernel_rfl) rfl
                    clear hV9 hO9
                    go_simp
                    exact hK9 _ (Grow.refl _)
                  case s9_10 =>
                    intro t9 w9 hT9 hV9 hO9 K9 hK9
                    have p9_3 : t9[96]? = some ?v9_3 := hV9 3 96 rfl rfl (of_decide_eq_true (by kernel_rfl))
                    have p9_8 : t9[101]? = some ?v9_8 := hV9 8 101 rfl rfl (of_decide_eq_true (by kernel_rfl))
                    have p9_9 : t9[102]? = some ?v9_9 := hV9 9 102 rfl rfl (of_decide_eq_true (by kernel_rfl))
                    clear hV9 hO9
                    go_simp
                    exact hK9 _ (Grow.refl _)
                  case s9_11 =>
                    intro t9 w9 hT9 hV9 hO9 K9 hK9
                    have p9_3 : t9[96]? = some ?v9_3 := hV9 3 96 rfl rfl (of_decide_eq_true (by kernel_rfl))
                    have p9_10 : t9[103]? = some ?v9_10 := hV9 10 103 rfl rfl (of_decide_eq_true (by kernel_rfl))
                    clear hV9 hO9
                    have d9_0 := grow_cell hT9 m0
                    have d9_1 := grow_cell hT9 m1
                    have d9_2 := grow_cell hT9 m2
                    have d9_3 := grow_cell hT9 i0'
                    have d9_4 := grow_cell hT9 i1'
                    have d9_5 := grow_cell hT9 i2'
                    have d9_6 := grow_cell hT9 j0'
                    have d9_7 := grow_cell hT9 j1'
                    have d9_8 := grow_cell hT9 j2'
                    go_simp
                    exact hK9 _ (Grow.refl _)
                  case s9_12 =>
                    intro t9 w9 hT9 hV9 hO9 K9 hK9
                    have p9_3 : t9[96]? = some ?v9_3 := hV9 3 96 rfl rfl (of_decide_eq_true (by kernel_rfl))
                    have p9_7 : t9[100]? = some ?v9_7 := hV9 7 100 rfl rfl (of_decide_eq_true (by kernel_rfl))
                    have p9_11 : t9[104]? = some ?v9_11 := hV9 11 104 rfl rfl (of_decide_eq_true (by kernel_rfl))
                    clear hV9 hO9
                    go_simp
                    first | exact hK9 _ (Grow.refl _) | (refine (hci.out _).mono ?_; rintro _ w8 ⟨rfl, hb8⟩; exact hK9 _ hb8)
                  case s9_13 =>
                    intro t9 w9 hT9 hV9 hO9 K9 hK9
                    have p9_3 : t9[96]? = some ?v9_3 := hV9 3 96 rfl rfl (of_decide_eq_true (by kernel_rfl))
                    have p9_12 : t9[105]? = some ?v9_12 := hV9 12 105 rfl rfl (of_decide_eq_true (by kernel_rfl))
                    clear hV9 hO9
                    go_simp
                    exact hK9 _ (Grow.refl _)
                  case s9_14 =>
                    intro t9 w9 hT9 hV9 hO9 K9 hK9
                    have p9_13 : t9[106]? = some ?v9_13 := hV9 13 106 rfl rfl (of_decide_eq_true (by kernel_rfl))
                    clear hV9 hO9
                    go_simp
                    exact hK9 _ (Grow.refl _)
                  case s9_15 =>
                    intro t9 w9 hT9 hV9 hO9 K9 hK9
                    have p9_14 : t9[107]? = some ?v9_14 := hV9 14 107 rfl rfl (of_decide_eq_true (by kernel_rfl))
                    have o9_12 := hO9 12 _ (by kernel_rfl) rfl
                    clear hV9 hO9
                    go_simp
                    exact hK9 _ (Grow.refl _)
                  case s9_16 =>
                    intro t9 w9 hT9 hV9 hO9 K9 hK9
                    have p9_14 : t9[107]? = some ?v9_14 := hV9 14 107 rfl rfl (of_decide_eq_true (by kernel_rfl))
                    have o9_2 := hO9 2 _ (by kernel_rfl) rfl
                    clear hV9 hO9
                    go_simp
                    exact hK9 _ (Grow.refl _)
                  case s9_17 =>
                    intro t9 w9 hT9 hV9 hO9 K9 hK9
                    have p9_14 : t9[107]? = some ?v9_14 := hV9 14 107 rfl rfl (of_decide_eq_true (by kernel_rfl))
                    have p9_15 : t9[108]? = some ?v9_15 := hV9 15 108 rfl rfl (of_decide_eq_true (by kernel_rfl))
                    have p9_16 : t9[109]? = some ?v9_16 := hV9 16 109 rfl rfl (of_decide_eq_true (by kernel_rfl))
                    clear hV9 hO9
                    go_simp
                    exact hK9 _ (Grow.refl _)
                  case s9_18 =>
                    intro t9 w9 hT9 hV9 hO9 K9 hK9
                    have p9_14 : t9[107]? = some ?v9_14 := hV9 14 107 rfl rfl (of_decide_eq_true (by kernel_rfl))
                    have p9_17 : t9[110]? = some ?v9_17 := hV9 17 110 rfl rfl (of_decide_eq_true (by kernel_rfl))
                    clear hV9 hO9
                    go_simp
                    exact hK9 _ (Grow.refl _)
                  case s9_19 =>
                    intro t9 w9 hT9 hV9 hO9 K9 hK9
                    have p9_18 : t9[111]? = some ?v9_18 := hV9 18 111 rfl rfl (of_decide_eq_true (by kernel_rfl))
                    have o9_8 := hO9 8 _ (by kernel_rfl) rfl
                    clear hV9 hO9
                    go_simp
                    exact hK9 _ (Grow.refl _)
                  case s9_20 =>
                    intro t9 w9 hT9 hV9 hO9 K9 hK9
                    have p9_18 : t9[111]? = some ?v9_18 := hV9 18 111 rfl rfl (of_decide_eq_true (by kernel_rfl))
                    have o9_12 := hO9 12 _ (by kernel_rfl) rfl
                    clear hV9 hO9
                    go_simp
                    exact hK9 _ (Grow.refl _)
                  case s9_21 =>
                    intro t9 w9 hT9 hV9 hO9 K9 hK9
                    have p9_18 : t9[111]? = some ?v9_18 := hV9 18 111 rfl rfl (of_decide_eq_true (by kernel_rfl))
                    have p9_19 : t9[112]? = some ?v9_19 := hV9 19 112 rfl rfl (of_decide_eq_true (by kernel_rfl))
                    have p9_20 : t9[113]? = some ?v9_20 := hV9 20 113 rfl rfl (of_decide_eq_true (by kernel_rfl))
                    clear hV9 hO9
                    go_simp
                    exact hK9 _ (Grow.refl _)
                  case s9_22 =>
                    intro t9 w9 hT9 hV9 hO9 K9 hK9
                    have p9_18 : t9[111]? = some ?v9_18 := hV9 18 111 rfl rfl (of_decide_eq_true (by kernel_rfl))
                    have p9_21 : t9[114]? = some ?v9_21 := hV9 21 114 rfl rfl (of_decide_eq_true (by kernel_rfl))
                    clear hV9 hO9
                    have d9_0 := grow_cell hT9 m0
                    have d9_1 := grow_cell hT9 m1
                    have d9_2 := grow_cell hT9 m2
                    have d9_3 := grow_cell hT9 i0'
                    have d9_4 := grow_cell hT9 i1'
                    have d9_5 := grow_cell hT9 i2'
                    have d9_6 := grow_cell hT9 j0'
                    have d9_7 := grow_cell hT9 j1'
                    have d9_8 := grow_cell hT9 j2'
                    go_simp
                    exact hK9 _ (Grow.refl _)
                  case s9_23 =>
                    intro t9 w9 hT9 hV9 hO9 K9 hK9
                    have p9_18 : t9[111]? = some ?v9_18 := hV9 18 111 rfl rfl (of_decide_eq_true (by kernel_rfl))
                    have o9_8 := hO9 8 _ (by kernel_rfl) rfl
                    clear hV9 hO9
                    go_simp
                    exact hK9 _ (Grow.refl _)
                  case s9_24 =>
                    intro t9 w9 hT9 hV9 hO9 K9 hK9
                    have p9_18 : t9[111]? = some ?v9_18 := hV9 18 111 rfl rfl (of_decide_eq_true (by kernel_rfl))
                    have o9_2 := hO9 2 _ (by kernel_rfl) rfl
                    clear hV9 hO9
                    go_simp
                    exact hK9 _ (Grow.refl _)
                  case s9_25 =>
                    intro t9 w9 hT9 hV9 hO9 K9 hK9
                    have p9_18 : t9[111]? = some ?v9_18 := hV9 18 111 rfl rfl (of_decide_eq_true (by kernel_rfl))
                    have p9_23 : t9[116]? = some ?v9_23 := hV9 23 116 rfl rfl (of_decide_eq_true (by kernel_rfl))
                    have p9_24 : t9[117]? = some ?v9_24 := hV9 24 117 rfl rfl (of_decide_eq_true (by kernel_rfl))
                    clear hV9 hO9
                    go_simp
                    exact hK9 _ (Grow.refl _)
                  case s9_26 =>
                    intro t9 w9 hT9 hV9 hO9 K9 hK9
                    have p9_18 : t9[111]? = some ?v9_18 := hV9 18 111 rfl rfl (of_decide_eq_true (by kernel_rfl))
                    have p9_25 : t9[118]? = some ?v9_25 := hV9 25 118 rfl rfl (of_decide_eq_true (by kernel_rfl))
                    clear hV9 hO9
                    have d9_0 := grow_cell hT9 m0
                    have d9_1 := grow_cell hT9 m1
                    have d9_2 := grow_cell hT9 m2
                    have d9_3 := grow_cell hT9 i0'
                    have d9_4 := grow_cell hT9 i1'
                    have d9_5 := grow_cell hT9 i2'
                    have d9_6 := grow_cell hT9 j0'
                    have d9_7 := grow_cell hT9 j1'
                    have d9_8 := grow_cell hT9 j2'
                    go_simp
                    exact hK9 _ (Grow.refl _)
                  case s9_27 =>
                    intro t9 w9 hT9 hV9 hO9 K9 hK9
                    have p9_18 : t9[111]? = some ?v9_18 := hV9 18 111 rfl rfl (of_decide_eq_true (by kernel_rfl))
                    have p9_22 : t9[115]? = some ?v9_22 := hV9 22 115 rfl rfl (of_decide_eq_true (by kernel_rfl))
                    have p9_26 : t9[119]? = some ?v9_26 := hV9 26 119 rfl rfl (of_decide_eq_true (by kernel_rfl))
                    clear hV9 hO9
                    go_simp
                    first | exact hK9 _ (Grow.refl _) | (refine (hci.out _).mono ?_; rintro _ w8 ⟨rfl, hb8⟩; exact hK9 _ hb8)
                  case s9_28 =>
                    intro t9 w9 hT9 hV9 hO9 K9 hK9
                    have p9_14 : t9[107]? = some ?v9_14 := hV9 14 107 rfl rfl (of_decide_eq_true (by kernel_rfl))
                    have p9_18 : t9[111]? = some ?v9_18 := hV9 18 111 rfl rfl (of_decide_eq_true (by kernel_rfl))
                    have p9_27 : t9[120]? = some ?v9_27 := hV9 27 120 rfl rfl (of_decide_eq_true (by kernel_rfl))
                    clear hV9 hO9
                    go_simp
                    exact hK9 _ (Grow.refl _)
                  case s9_29 =>
                    intro t9 w9 hT9 hV9 hO9 K9 hK9
                    have p9_14 : t9[107]? = some ?v9_14 := hV9 14 107 rfl rfl (of_decide_eq_true (by kernel_rfl))
                    have p9_28 : t9[121]? = some ?v9_28 := hV9 28 121 rfl rfl (of_decide_eq_true (by kernel_rfl))
                    clear hV9 hO9
                    go_simp
                    exact hK9 _ (Grow.refl _)
                  case s9_30 =>
                    intro t9 w9 hT9 hV9 hO9 K9 hK9
                    have p9_29 : t9[122]? = some ?v9_29 := hV9 29 122 rfl rfl (of_decide_eq_true (by kernel_rfl))
                    clear hV9 hO9
                    go_simp
                    exact hK9 _ (Grow.refl _)
                  intro w9 hb9
                  simp only [putAll, Act.put, List.setIfInBounds_toArray, List.set_cons_succ, List.set_cons_zero, List.getD_cons_succ, List.getD_cons_zero, Nat.reduceAdd, Nat.zero_add]
                  go_wp2_with fail
                  go_meet
                  exact ⟨false, rfl, hbo, hLm.below hb9, below5 hbm hb9⟩
            case rest =>
              obtain ⟨both, rfl, hbo, hLx, hbx⟩ := hcut
              go_upto_region 12 with (fail)
              clear m0 m1 m2 i0' i1' i2' j0' j1' j2' hLm hbm
              have hml : m < (labels ps).length := by rw [HLL.out]; exact hlt
              obtain ⟨_, _, e, n0, n1, n2⟩ := hLx.get hml
              cases e
              rw [labAt_get hml] at n0 n1 n2
              clear hml
              rcases hk'.out with ⟨x, hkx, hx1, hx2, hx3⟩ | ⟨hkx, hx1⟩
              · subst hkx
                have hxp : x < ps.length := by omega
                have hxl : x < (labels ps).length := by rw [HLL.out]; exact hxp
                obtain ⟨_, _, e, o0, o1, o2⟩ := hLx.get hxl
                cases e
                rw [labAt_get hxl] at o0 o1 o2
                clear hxl
                have z0 : decide ((x : Int) < 0) = false := decide_eq_false (by omega)
                have z1 : decide ((0 : Int) ≤ x) = true := decide_eq_true (by omega)
                cases both with
                | false =>
                  have he : ((x : Int) == (m : Int)) = false := by
                    rw [beq_eq_false_iff_ne]
                    intro h
                    obtain rfl : x = m := by omega
                    exact absurd (hbo.out.2 ⟨hx1, hx2⟩) (by decide)
                  clear hx1 hx2 hx3
                  refine wp_reg_abs (some 123 :: some 124 :: some 125 :: some 126 :: some 127 :: some 128 :: some 129 :: some 130 :: some 131 :: some 132 :: some 133 :: some 134 :: some 135 :: some 136 :: some 137 :: some 138 :: some 139 :: some 140 :: some 141 :: some 142 :: some 143 :: some 144 :: some 145 :: some 146 :: some 147 :: some 148 :: some 149 :: some 150 :: some 151 :: some 152 :: some 153 :: some 154 :: some 155 :: some 156 :: some 157 :: some 158 :: some 159 :: some 160 :: []) (?v10_0 :: ?v10_1 :: ?v10_2 :: ?v10_3 :: ?v10_4 :: ?v10_5 :: ?v10_6 :: ?v10_7 :: ?v10_8 :: ?v10_9 :: ?v10_10 :: ?v10_11 :: ?v10_12 :: ?v10_13 :: ?v10_14 :: ?v10_15 :: ?v10_16 :: ?v10_17 :: ?v10_18 :: ?v10_19 :: ?v10_20 :: ?v10_21 :: ?v10_22 :: ?v10_23 :: ?v10_24 :: ?v10_25 :: ?v10_26 :: ?v10_27 :: ?v10_28 :: ?v10_29 :: ?v10_30 :: ?v10_31 :: ?v10_32 :: ?v10_33 :: ?v10_34 :: ?v10_35 :: ?v10_36 :: ?v10_37 :: []) rfl (by kernel_rfl) rfl rfl ⟨?s10_0, ?s10_1, ?s10_2, ?s10_3, ?s10_4, ?s10_5, ?s10_6, ?s10_7, ?s10_8, ?s10_9, ?s10_10, ?s10_11, ?s10_12, ?s10_13, ?s10_14, ?s10_15, ?s10_16, ?s10_17, ?s10_18, ?s10_19, ?s10_20, ?s10_21, ?s10_22, ?s10_23, ?s10_24, ?s10_25, ?s10_26, ?s10_27, ?s10_28, ?s10_29, ?s10_30, ?s10_31, ?s10_32, ?s10_33, ?s10_34, ?s10_35, ?s10_36, ?s10_37, trivial⟩ ?p10
                  case s10_0 =>
                    intro t9 w9 hT9 hV9 hO9 K9 hK9
                    have o9_11 := hO9 11 _ (by kernel_rfl) rfl
                    clear hV9 hO9
                    go_simp
                    exact hK9 _ (Grow.refl _)
                  case s10_1 =>
                    intro t9 w9 hT9 hV9 hO9 K9 hK9
                    have p9_0 : t9[123]? = some ?v10_0 := hV9 0 123 rfl rfl (of_decide_eq_true (by kernel_rfl))
                    clear hV9 hO9
                    go_simp
                    exact hK9 _ (Grow.refl _)
                  case s10_2 =>
                    intro t9 w9 hT9 hV9 hO9 K9 hK9
                    have p9_1 : t9[124]? = some ?v10_1 := hV9 1 124 rfl rfl (of_decide_eq_true (by kernel_rfl))
                    clear hV9 hO9
                    go_simp
                    exact hK9 _ (Grow.refl _)
                  case s10_3 =>
                    intro t9 w9 hT9 hV9 hO9 K9 hK9
                    have p9_2 : t9[125]? = some ?v10_2 := hV9 2 125 rfl rfl (of_decide_eq_true (by kernel_rfl))
                    have o9_13 := hO9 13 _ (by kernel_rfl) rfl
                    clear hV9 hO9
                    go_simp
                    exact hK9 _ (Grow.refl _)
                  case s10_4 =>
                    intro t9 w9 hT9 hV9 hO9 K9 hK9
                    have p9_2 : t9[125]? = some ?v10_2 := hV9 2 125 rfl rfl (of_decide_eq_true (by kernel_rfl))
                    have p9_3 : t9[126]? = some ?v10_3 := hV9 3 126 rfl rfl (of_decide_eq_true (by kernel_rfl))
                    clear hV9 hO9
                    go_simp
                    exact hK9 _ (Grow.refl _)
                  case s10_5 =>
                    intro t9 w9 hT9 hV9 hO9 K9 hK9
                    have p9_4 : t9[127]? = some ?v10_4 := hV9 4 127 rfl rfl (of_decide_eq_true (by kernel_rfl))
                    clear hV9 hO9
                    go_simp
                    exact hK9 _ (Grow.refl _)
                  case s10_6 =>
                    intro t9 w9 hT9 hV9 hO9 K9 hK9
                    have p9_5 : t9[128]? = some ?v10_5 := hV9 5 128 rfl rfl (of_decide_eq_true (by kernel_rfl))
                    have o9_11 := hO9 11 _ (by kernel_rfl) rfl
                    clear hV9 hO9
                    go_simp
                    exact hK9 _ (Grow.refl _)
                  case s10_7 =>
                    intro t9 w9 hT9 hV9 hO9 K9 hK9
                    have p9_5 : t9[128]? = some ?v10_5 := hV9 5 128 rfl rfl (of_decide_eq_true (by kernel_rfl))
                    have p9_6 : t9[129]? = some ?v10_6 := hV9 6 129 rfl rfl (of_decide_eq_true (by kernel_rfl))
                    clear hV9 hO9
                    go_simp
                    exact hK9 _ (Grow.refl _)
                  case s10_8 =>
                    intro t9 w9 hT9 hV9 hO9 K9 hK9
                    have p9_5 : t9[128]? = some ?v10_5 := hV9 5 128 rfl rfl (of_decide_eq_true (by kernel_rfl))
                    have p9_7 : t9[130]? = some ?v10_7 := hV9 7 130 rfl rfl (of_decide_eq_true (by kernel_rfl))
                    clear hV9 hO9
                    go_simp
                    exact hK9 _ (Grow.refl _)
                  case s10_9 =>
                    intro t9 w9 hT9 hV9 hO9 K9 hK9
                    have p9_8 : t9[131]? = some ?v10_8 := hV9 8 131 rfl rfl (of_decide_eq_true (by kernel_rfl))
                    have o9_13 := hO9 13 _ (by kernel_rfl) rfl
                    clear hV9 hO9
                    go_simp
                    exact hK9 _ (Grow.refl _)
                  case s10_10 =>
                    intro t9 w9 hT9 hV9 hO9 K9 hK9
                    have p9_5 : t9[128]? = some ?v10_5 := hV9 5 128 rfl rfl (of_decide_eq_true (by kernel_rfl))
                    have p9_8 : t9[131]? = some ?v10_8 := hV9 8 131 rfl rfl (of_decide_eq_true (by kernel_rfl))
                    have p9_9 : t9[132]? = some ?v10_9 := hV9 9 132 rfl rfl (of_decide_eq_true (by kernel_rfl))
                    clear hV9 hO9
                    go_simp
                    exact hK9 _ (Grow.refl _)
                  case s10_11 =>
                    intro t9 w9 hT9 hV9 hO9 K9 hK9
                    have p9_5 : t9[128]? = some ?v10_5 := hV9 5 128 rfl rfl (of_decide_eq_true (by kernel_rfl))
                    have p9_10 : t9[133]? = some ?v10_10 := hV9 10 133 rfl rfl (of_decide_eq_true (by kernel_rfl))
                    clear hV9 hO9
                    go_simp
                    exact hK9 _ (Grow.refl _)
                  case s10_12 =>
                    intro t9 w9 hT9 hV9 hO9 K9 hK9
                    have p9_11 : t9[134]? = some ?v10_11 := hV9 11 134 rfl rfl (of_decide_eq_true (by kernel_rfl))
                    have o9_12 := hO9 12 _ (by kernel_rfl) rfl
                    clear hV9 hO9
                    go_simp
                    exact hK9 _ (Grow.refl _)
                  case s10_13 =>
                    intro t9 w9 hT9 hV9 hO9 K9 hK9
                    have p9_11 : t9[134]? = some ?v10_11 := hV9 11 134 rfl rfl (of_decide_eq_true (by kernel_rfl))
                    have o9_11 := hO9 11 _ (by kernel_rfl) rfl
                    clear hV9 hO9
                    go_simp
                    exact hK9 _ (Grow.refl _)
                  case s10_14 =>
                    intro t9 w9 hT9 hV9 hO9 K9 hK9
                    have p9_11 : t9[134]? = some ?v10_11 := hV9 11 134 rfl rfl (of_decide_eq_true (by kernel_rfl))
                    have p9_12 : t9[135]? = some ?v10_12 := hV9 12 135 rfl rfl (of_decide_eq_true (by kernel_rfl))
                    have p9_13 : t9[136]? = some ?v10_13 := hV9 13 136 rfl rfl (of_decide_eq_true (by kernel_rfl))
                    clear hV9 hO9
                    go_simp
                    exact hK9 _ (Grow.refl _)
                  case s10_15 =>
                    intro t9 w9 hT9 hV9 hO9 K9 hK9
                    have p9_5 : t9[128]? = some ?v10_5 := hV9 5 128 rfl rfl (of_decide_eq_true (by kernel_rfl))
                    have p9_11 : t9[134]? = some ?v10_11 := hV9 11 134 rfl rfl (of_decide_eq_true (by kernel_rfl))
                    have p9_14 : t9[137]? = some ?v10_14 := hV9 14 137 rfl rfl (of_decide_eq_true (by kernel_rfl))
                    clear hV9 hO9
                    go_simp
                    exact hK9 _ (Grow.refl _)
                  case s10_16 =>
                    intro t9 w9 hT9 hV9 hO9 K9 hK9
                    have p9_5 : t9[128]? = some ?v10_5 := hV9 5 128 rfl rfl (of_decide_eq_true (by kernel_rfl))
                    have p9_15 : t9[138]? = some ?v10_15 := hV9 15 138 rfl rfl (of_decide_eq_true (by kernel_rfl))
                    clear hV9 hO9
                    go_simp
                    exact hK9 _ (Grow.refl _)
                  case s10_17 =>
                    intro t9 w9 hT9 hV9 hO9 K9 hK9
                    have p9_16 : t9[139]? = some ?v10_16 := hV9 16 139 rfl rfl (of_decide_eq_true (by kernel_rfl))
                    have o9_8 := hO9 8 _ (by kernel_rfl) rfl
                    clear hV9 hO9
                    go_simp
                    exact hK9 _ (Grow.refl _)
                  case s10_18 =>
                    intro t9 w9 hT9 hV9 hO9 K9 hK9
                    have p9_16 : t9[139]? = some ?v10_16 := hV9 16 139 rfl rfl (of_decide_eq_true (by kernel_rfl))
                    have o9_12 := hO9 12 _ (by kernel_rfl) rfl
                    clear hV9 hO9
                    go_simp
                    exact hK9 _ (Grow.refl _)
                  case s10_19 =>
                    intro t9 w9 hT9 hV9 hO9 K9 hK9
                    have p9_16 : t9[139]? = some ?v10_16 := hV9 16 139 rfl rfl (of_decide_eq_true (by kernel_rfl))
                    have p9_17 : t9[140]? = some ?v10_17 := hV9 17 140 rfl rfl (of_decide_eq_true (by kernel_rfl))
                    have p9_18 : t9[141]? = some ?v10_18 := hV9 18 141 rfl rfl (of_decide_eq_true (by kernel_rfl))
                    clear hV9 hO9
                    go_simp
                    exact hK9 _ (Grow.refl _)
                  case s10_20 =>
                    intro t9 w9 hT9 hV9 hO9 K9 hK9
                    have p9_16 : t9[139]? = some ?v10_16 := hV9 16 139 rfl rfl (of_decide_eq_true (by kernel_rfl))
                    have p9_19 : t9[142]? = some ?v10_19 := hV9 19 142 rfl rfl (of_decide_eq_true (by kernel_rfl))
                    clear hV9 hO9
                    have d9_0 := grow_cell hT9 n0
                    have d9_1 := grow_cell hT9 n1
                    have d9_2 := grow_cell hT9 n2
                    have d9_3 := grow_cell hT9 o0
                    have d9_4 := grow_cell hT9 o1
                    have d9_5 := grow_cell hT9 o2
                    go_simp
                    exact hK9 _ (Grow.refl _)
                  case s10_21 =>
                    intro t9 w9 hT9 hV9 hO9 K9 hK9
                    have p9_16 : t9[139]? = some ?v10_16 := hV9 16 139 rfl rfl (of_decide_eq_true (by kernel_rfl))
                    have o9_8 := hO9 8 _ (by kernel_rfl) rfl
                    clear hV9 hO9
                    go_simp
                    exact hK9 _ (Grow.refl _)
                  case s10_22 =>
                    intro t9 w9 hT9 hV9 hO9 K9 hK9
                    have p9_16 : t9[139]? = some ?v10_16 := hV9 16 139 rfl rfl (of_decide_eq_true (by kernel_rfl))
                    have o9_11 := hO9 11 _ (by kernel_rfl) rfl
                    clear hV9 hO9
                    go_simp
                    exact hK9 _ (Grow.refl _)
                  case s10_23 =>
                    intro t9 w9 hT9 hV9 hO9 K9 hK9
                    have p9_16 : t9[139]? = some ?v10_16 := hV9 16 139 rfl rfl (of_decide_eq_true (by kernel_rfl))
                    have p9_21 : t9[144]? = some ?v10_21 := hV9 21 144 rfl rfl (of_decide_eq_true (by kernel_rfl))
                    have p9_22 : t9[145]? = some ?v10_22 := hV9 22 145 rfl rfl (of_decide_eq_true (by kernel_rfl))
                    clear hV9 hO9
                    go_simp
                    exact hK9 _ (Grow.refl _)
                  case s10_24 =>
                    intro t9 w9 hT9 hV9 hO9 K9 hK9
                    have p9_16 : t9[139]? = some ?v10_16 := hV9 16 139 rfl rfl (of_decide_eq_true (by kernel_rfl))
                    have p9_23 : t9[146]? = some ?v10_23 := hV9 23 146 rfl rfl (of_decide_eq_true (by kernel_rfl))
                    clear hV9 hO9
                    have d9_0 := grow_cell hT9 n0
                    have d9_1 := grow_cell hT9 n1
                    have d9_2 := grow_cell hT9 n2
                    have d9_3 := grow_cell hT9 o0
                    have d9_4 := grow_cell hT9 o1
                    have d9_5 := grow_cell hT9 o2
                    go_simp
                    exact hK9 _ (Grow.refl _)
                  case s10_25 =>
                    intro t9 w9 hT9 hV9 hO9 K9 hK9
                    have p9_16 : t9[139]? = some ?v10_16 := hV9 16 139 rfl rfl (of_decide_eq_true (by kernel_rfl))
                    have p9_20 : t9[143]? = some ?v10_20 := hV9 20 143 rfl rfl (of_decide_eq_true (by kernel_rfl))
                    have p9_24 : t9[147]? = some ?v10_24 := hV9 24 147 rfl rfl (of_decide_eq_true (by kernel_rfl))
                    clear hV9 hO9
                    go_simp
                    exact hK9 _ (Grow.refl _)
                  case s10_26 =>
                    intro t9 w9 hT9 hV9 hO9 K9 hK9
                    have p9_16 : t9[139]? = some ?v10_16 := hV9 16 139 rfl rfl (of_decide_eq_true (by kernel_rfl))
                    have p9_25 : t9[148]? = some ?v10_25 := hV9 25 148 rfl rfl (of_decide_eq_true (by kernel_rfl))
                    clear hV9 hO9
                    go_simp
                    exact hK9 _ (Grow.refl _)
                  case s10_27 =>
                    intro t9 w9 hT9 hV9 hO9 K9 hK9
                    have p9_5 : t9[128]? = some ?v10_5 := hV9 5 128 rfl rfl (of_decide_eq_true (by kernel_rfl))
                    have p9_16 : t9[139]? = some ?v10_16 := hV9 16 139 rfl rfl (of_decide_eq_true (by kernel_rfl))
                    have p9_26 : t9[149]? = some ?v10_26 := hV9 26 149 rfl rfl (of_decide_eq_true (by kernel_rfl))
                    clear hV9 hO9
                    go_simp
                    exact hK9 _ (Grow.refl _)
                  case s10_28 =>
                    intro t9 w9 hT9 hV9 hO9 K9 hK9
                    have p9_5 : t9[128]? = some ?v10_5 := hV9 5 128 rfl rfl (of_decide_eq_true (by kernel_rfl))
                    have p9_27 : t9[150]? = some ?v10_27 := hV9 27 150 rfl rfl (of_decide_eq_true (by kernel_rfl))
                    clear hV9 hO9
                    go_simp
                    exact hK9 _ (Grow.refl _)
                  case s10_29 =>
                    intro t9 w9 hT9 hV9 hO9 K9 hK9
                    have p9_28 : t9[151]? = some ?v10_28 := hV9 28 151 rfl rfl (of_decide_eq_true (by kernel_rfl))
                    clear hV9 hO9
                    go_simp
                    exact hK9 _ (Grow.refl _)
                  case s10_30 =>
                    intro t9 w9 hT9 hV9 hO9 K9 hK9
                    have p9_29 : t9[152]? = some ?v10_29 := hV9 29 152 rfl rfl (of_decide_eq_true (by kernel_rfl))
                    have o9_11 := hO9 11 _ (by kernel_rfl) rfl
                    clear hV9 hO9
                    go_simp
                    exact hK9 _ (Grow.refl _)
                  case s10_31 =>
                    intro t9 w9 hT9 hV9 hO9 K9 hK9
                    have p9_29 : t9[152]? = some ?v10_29 := hV9 29 152 rfl rfl (of_decide_eq_true (by kernel_rfl))
                    have o9_12 := hO9 12 _ (by kernel_rfl) rfl
                    clear hV9 hO9
                    go_simp
                    exact hK9 _ (Grow.refl _)
                  case s10_32 =>
                    intro t9 w9 hT9 hV9 hO9 K9 hK9
                    have p9_29 : t9[152]? = some ?v10_29 := hV9 29 152 rfl rfl (of_decide_eq_true (by kernel_rfl))
                    have p9_30 : t9[153]? = some ?v10_30 := hV9 30 153 rfl rfl (of_decide_eq_true (by kernel_rfl))
                    have p9_31 : t9[154]? = some ?v10_31 := hV9 31 154 rfl rfl (of_decide_eq_true (by kernel_rfl))
                    clear hV9 hO9
                    go_simp
                    exact hK9 _ (Grow.refl _)
                  case s10_33 =>
                    intro t9 w9 hT9 hV9 hO9 K9 hK9
                    have p9_29 : t9[152]? = some ?v10_29 := hV9 29 152 rfl rfl (of_decide_eq_true (by kernel_rfl))
                    have p9_32 : t9[155]? = some ?v10_32 := hV9 32 155 rfl rfl (of_decide_eq_true (by kernel_rfl))
                    clear hV9 hO9
                    go_simp
                    exact hK9 _ (Grow.refl _)
                  case s10_34 =>
                    intro t9 w9 hT9 hV9 hO9 K9 hK9
                    have p9_33 : t9[156]? = some ?v10_33 := hV9 33 156 rfl rfl (of_decide_eq_true (by kernel_rfl))
                    have o9_13 := hO9 13 _ (by kernel_rfl) rfl
                    clear hV9 hO9
                    go_simp
                    exact hK9 _ (Grow.refl _)
                  case s10_35 =>
                    intro t9 w9 hT9 hV9 hO9 K9 hK9
                    have p9_33 : t9[156]? = some ?v10_33 := hV9 33 156 rfl rfl (of_decide_eq_true (by kernel_rfl))
                    have p9_34 : t9[157]? = some ?v10_34 := hV9 34 157 rfl rfl (of_decide_eq_true (by kernel_rfl))
                    clear hV9 hO9
                    go_simp
                    exact hK9 _ (Grow.refl _)
                  case s10_36 =>
                    intro t9 w9 hT9 hV9 hO9 K9 hK9
                    have p9_29 : t9[152]? = some ?v10_29 := hV9 29 152 rfl rfl (of_decide_eq_true (by kernel_rfl))
                    have p9_33 : t9[156]? = some ?v10_33 := hV9 33 156 rfl rfl (of_decide_eq_true (by kernel_rfl))
                    have p9_35 : t9[158]? = some ?v10_35 := hV9 35 158 rfl rfl (of_decide_eq_true (by kernel_rfl))
                    clear hV9 hO9
                    go_simp
                    exact hK9 _ (Grow.refl _)
                  case s10_37 =>
                    intro t9 w9 hT9 hV9 hO9 K9 hK9
                    have p9_29 : t9[152]? = some ?v10_29 := hV9 29 152 rfl rfl (of_decide_eq_true (by kernel_rfl))
                    have p9_36 : t9[159]? = some ?v10_36 := hV9 36 159 rfl rfl (of_decide_eq_true (by kernel_rfl))
                    clear hV9 hO9
                    go_simp
                    exact hK9 _ (Grow.refl _)
                  intro w9 hb9
                  simp only [putAll, Act.put, List.setIfInBounds_toArray, List.set_cons_succ, List.set_cons_zero, List.getD_cons_succ, List.getD_cons_zero, Nat.reduceAdd, Nat.zero_add]
                  go_wp2
                  go_roundg (ps.length - (m + 1))
                  case measure => have := HQ.out; omega
                  case rel => exact ⟨m + 1, rfl, by omega, rfl, hLx.below hb9, below5 hbx hb9⟩
                | true =>
                  have hbb := hbo.out.1 rfl
                  have hs := hx3 m hbb.1 hbb.2
                  clear hx1 hx2 hx3 hbb
                  by_cases hmx : m = x
                  · clear hs
                    subst hmx
                    have he : ((m : Int) == (m : Int)) = true := by simp
                    have hn : ((m : Int) != (m : Int)) = false := by simp
                    clear o0 o1 o2
                    refine wp_reg_abs (some 123 :: some 124 :: some 125 :: some 126 :: some 127 :: some 128 :: some 129 :: some 130 :: some 131 :: some 132 :: some 133 :: some 134 :: some 135 :: some 136 :: some 137 :: some 138 :: some 139 :: some 140 :: some 141 :: some 142 :: some 143 :: some 144 :: some 145 :: some 146 :: some 147 :: some 148 :: some 149 :: some 150 :: some 151 :: some 152 :: some 153 :: some 154 :: some 155 :: some 156 :: some 157 :: some 158 :: some 159 :: some 160 :: []) (?v11_0 :: ?v11_1 :: ?v11_2 :: ?v11_3 :: ?v11_4 :: ?v11_5 :: ?v11_6 :: ?v11_7 :: ?v11_8 :: ?v11_9 :: ?v11_10 :: ?v11_11 :: ?v11_12 :: ?v11_13 :: ?v11_14 :: ?v11_15 :: ?v11_16 :: ?v11_17 :: ?v11_18 :: ?v11_19 :: ?v11_20 :: ?v11_21 :: ?v11_22 :: ?v11_23 :: ?v11_24 :: ?v11_25 :: ?v11_26 :: ?v11_27 :: ?v11_28 :: ?v11_29 :: ?v11_30 :: ?v11_31 :: ?v11_32 :: ?v11_33 :: ?v11_34 :: ?v11_35 :: ?v11_36 :: ?v11_37 :: []) rfl (by kernel_rfl) rfl rfl ⟨?s11_0, ?s11_1, ?s11_2, ?s11_3, ?s11_4, ?s11_5, ?s11_6, ?s11_7, ?s11_8, ?s11_9, ?s11_10, ?s11_11, ?s11_12, ?s11_13, ?s11_14, ?s11_15, ?s11_16, ?s11_17, ?s11_18, ?s11_19, ?s11_20, ?s11_21, ?s11_22, ?s11_23, ?s11_24, ?s11_25, ?s11_26, ?s11_27, ?s11_28, ?s11_29, ?s11_30, ?s11_31, ?s11_32, ?s11_33, ?s11_34, ?s11_35, ?s11_36, ?s11_37, trivial⟩ ?p11
                    case s11_0 =>
                      intro t9 w9 hT9 hV9 hO9 K9 hK9
                      have o9_11 := hO9 11 _ (by kernel_rfl) rfl
                      clear hV9 hO9
                      go_simp
                      exact hK9 _ (Grow.refl _)
                    case s11_1 =>
                      intro t9 w9 hT9 hV9 hO9 K9 hK9
                      have p9_0 : t9[123]? = some ?v11_0 := hV9 0 123 rfl rfl (of_decide_eq_true (by kernel_rfl))
                      clear hV9 hO9
                      go_simp
                      exact hK9 _ (Grow.refl _)
                    case s11_2 =>
                      intro t9 w9 hT9 hV9 hO9 K9 hK9
                      have p9_1 : t9[124]? = some ?v11_1 := hV9 1 124 rfl rfl (of_decide_eq_true (by kernel_rfl))
                      clear hV9 hO9
                      go_simp
                      exact hK9 _ (Grow.refl _)
                    case s11_3 =>
                      intro t9 w9 hT9 hV9 hO9 K9 hK9
                      have p9_2 : t9[125]? = some ?v11_2 := hV9 2 125 rfl rfl (of_decide_eq_true (by kernel_rfl))
                      have o9_13 := hO9 13 _ (by kernel_rfl) rfl
                      clear hV9 hO9
                      go_simp
                      exact hK9 _ (Grow.refl _)
                    case s11_4 =>
                      intro t9 w9 hT9 hV9 hO9 K9 hK9
                      have p9_2 : t9[125]? = some ?v11_2 := hV9 2 125 rfl rfl (of_decide_eq_true (by kernel_rfl))
                      have p9_3 : t9[126]? = some ?v11_3 := hV9 3 126 rfl rfl (of_decide_eq_true (by kernel_rfl))
                      clear hV9 hO9
                      go_simp
                      exact hK9 _ (Grow.refl _)
                    case s11_5 =>
                      intro t9 w9 hT9 hV9 hO9 K9 hK9
                      have p9_4 : t9[127]? = some ?v11_4 := hV9 4 127 rfl rfl (of_decide_eq_true (by kernel_rfl))
                      clear hV9 hO9
                      go_simp
                      exact hK9 _ (Grow.refl _)
                    case s11_6 =>
                      intro t9 w9 hT9 hV9 hO9 K9 hK9
                      have p9_5 : t9[128]? = some ?v11_5 := hV9 5 128 rfl rfl (of_decide_eq_true (by kernel_rfl))
                      have o9_11 := hO9 11 _ (by kernel_rfl) rfl
                      clear hV9 hO9
                      go_simp
                      exact hK9 _ (Grow.refl _)
                    case s11_7 =>
                      intro t9 w9 hT9 hV9 hO9 K9 hK9
                      have p9_5 : t9[128]? = some ?v11_5 := hV9 5 128 rfl rfl (of_decide_eq_true (by kernel_rfl))
                      have p9_6 : t9[129]? = some ?v11_6 := hV9 6 129 rfl rfl (of_decide_eq_true (by kernel_rfl))
                      clear hV9 hO9
                      go_simp
                      exact hK9 _ (Grow.refl _)
                    case s11_8 =>
                      intro t9 w9 hT9 hV9 hO9 K9 hK9
                      have p9_5 : t9[128]? = some ?v11_5 := hV9 5 128 rfl rfl (of_decide_eq_true (by kernel_rfl))
                      have p9_7 : t9[130]? = some ?v11_7 := hV9 7 130 rfl rfl (of_decide_eq_true (by kernel_rfl))
                      clear hV9 hO9
                      go_simp
                      exact hK9 _ (Grow.refl _)
                    case s11_9 =>
                      intro t9 w9 hT9 hV9 hO9 K9 hK9
                      have p9_8 : t9[131]? = some ?v11_8 := hV9 8 131 rfl rfl (of_decide_eq_true (by kernel_rfl))
                      have o9_13 := hO9 13 _ (by kernel_rfl) rfl
                      clear hV9 hO9
                      go_simp
                      exact hK9 _ (Grow.refl _)
                    case s11_10 =>
                      intro t9 w9 hT9 hV9 hO9 K9 hK9
                      have p9_5 : t9[128]? = some ?v11_5 := hV9 5 128 rfl rfl (of_decide_eq_true (by kernel_rfl))
                      have p9_8 : t9[131]? = some ?v11_8 := hV9 8 131 rfl rfl (of_decide_eq_true (by kernel_rfl))
                      have p9_9 : t9[132]? = some ?v11_9 := hV9 9 132 rfl rfl (of_decide_eq_true (by kernel_rfl))
                      clear hV9 hO9
                      go_simp
                      exact hK9 _ (Grow.refl _)
                    case s11_11 =>
                      intro t9 w9 hT9 hV9 hO9 K9 hK9
                      have p9_5 : t9[128]? = some ?v11_5 := hV9 5 128 rfl rfl (of_decide_eq_true (by kernel_rfl))
                      have p9_10 : t9[133]? = some ?v11_10 := hV9 10 133 rfl rfl (of_decide_eq_true (by kernel_rfl))
                      clear hV9 hO9
                      go_simp
                      exact hK9 _ (Grow.refl _)
                    case s11_12 =>
                      intro t9 w9 hT9 hV9 hO9 K9 hK9
                      have p9_11 : t9[134]? = some ?v11_11 := hV9 11 134 rfl rfl (of_decide_eq_true (by kernel_rfl))
                      have o9_12 := hO9 12 _ (by kernel_rfl) rfl
                      clear hV9 hO9
                      go_simp
                      exact hK9 _ (Grow.refl _)
                    case s11_13 =>
                      intro t9 w9 hT9 hV9 hO9 K9 hK9
                      have p9_11 : t9[134]? = some ?v11_11 := hV9 11 134 rfl rfl (of_decide_eq_true (by kernel_rfl))
                      have o9_11 := hO9 11 _ (by kernel_rfl) rfl
                      clear hV9 hO9
                      go_simp
                      exact hK9 _ (Grow.refl _)
                    case s11_14 =>
                      intro t9 w9 hT9 hV9 hO9 K9 hK9
                      have p9_11 : t9[134]? = some ?v11_11 := hV9 11 134 rfl rfl (of_decide_eq_true (by kernel_rfl))
                      have p9_12 : t9[135]? = some ?v11_12 := hV9 12 135 rfl rfl (of_decide_eq_true (by kernel_rfl))
                      have p9_13 : t9[136]? = some ?v11_13 := hV9 13 136 rfl rfl (of_decide_eq_true (by kernel_rfl))
                      clear hV9 hO9
                      go_simp
                      exact hK9 _ (Grow.refl _)
                    case s11_15 =>
                      intro t9 w9 hT9 hV9 hO9 K9 hK9
                      have p9_5 : t9[128]? = some ?v11_5 := hV9 5 128 rfl rfl (of_decide_eq_true (by kernel_rfl))
                      have p9_11 : t9[134]? = some ?v11_11 := hV9 11 134 rfl rfl (of_decide_eq_true (by kernel_rfl))
                      have p9_14 : t9[137]? = some ?v11_14 := hV9 14 137 rfl rfl (of_decide_eq_true (by kernel_rfl))
                      clear hV9 hO9
                      go_simp
                      exact hK9 _ (Grow.refl _)
                    case s11_16 =>
                      intro t9 w9 hT9 hV9 hO9 K9 hK9
                      have p9_5 : t9[128]? = some ?v11_5 := hV9 5 128 rfl rfl (of_decide_eq_true (by kernel_rfl))
                      have p9_15 : t9[138]? = some ?v11_15 := hV9 15 138 rfl rfl (of_decide_eq_true (by kernel_rfl))
                      clear hV9 hO9
                      go_simp
                      exact hK9 _ (Grow.refl _)
                    case s11_17 =>
                      intro t9 w9 hT9 hV9 hO9 K9 hK9
                      have p9_16 : t9[139]? = some ?v11_16 := hV9 16 139 rfl rfl (of_decide_eq_true (by kernel_rfl))
                      have o9_8 := hO9 8 _ (by kernel_rfl) rfl
                      clear hV9 hO9
                      go_simp
                      exact hK9 _ (Grow.refl _)
                    case s11_18 =>
                      intro t9 w9 hT9 hV9 hO9 K9 hK9
                      have p9_16 : t9[139]? = some ?v11_16 := hV9 16 139 rfl rfl (of_decide_eq_true (by kernel_rfl))
                      have o9_12 := hO9 12 _ (by kernel_rfl) rfl
                      clear hV9 hO9
                      go_simp
                      exact hK9 _ (Grow.refl _)
                    case s11_19 =>
                      intro t9 w9 hT9 hV9 hO9 K9 hK9
                      have p9_16 : t9[139]? = some ?v11_16 := hV9 16 139 rfl rfl (of_decide_eq_true (by kernel_rfl))
                      have p9_17 : t9[140]? = some ?v11_17 := hV9 17 140 rfl rfl (of_decide_eq_true (by kernel_rfl))
                      have p9_18 : t9[141]? = some ?v11_18 := hV9 18 141 rfl rfl (of_decide_eq_true (by kernel_rfl))
                      clear hV9 hO9
                      go_simp
                      exact hK9 _ (Grow.refl _)
                    case s11_20 =>
                      intro t9 w9 hT9 hV9 hO9 K9 hK9
                      have p9_16 : t9[139]? = some ?v11_16 := hV9 16 139 rfl rfl (of_decide_eq_true (by kernel_rfl))
                      have p9_19 : t9[142]? = some ?v11_19 := hV9 19 142 rfl rfl (of_decide_eq_true (by kernel_rfl))
                      clear hV9 hO9
                      have d9_0 := grow_cell hT9 n0
                      have d9_1 := grow_cell hT9 n1
                      have d9_2 := grow_cell hT9 n2
                      go_simp
                      exact hK9 _ (Grow.refl _)
                    case s11_21 =>
                      intro t9 w9 hT9 hV9 hO9 K9 hK9
                      have p9_16 : t9[139]? = some ?v11_16 := hV9 16 139 rfl rfl (of_decide_eq_true (by kernel_rfl))
                      have o9_8 := hO9 8 _ (by kernel_rfl) rfl
                      clear hV9 hO9
                      go_simp
                      exact hK9 _ (Grow.refl _)
                    case s11_22 =>
                      intro t9 w9 hT9 hV9 hO9 K9 hK9
                      have p9_16 : t9[139]? = some ?v11_16 := hV9 16 139 rfl rfl (of_decide_eq_true (by kernel_rfl))
                      have o9_11 := hO9 11 _ (by kernel_rfl) rfl
                      clear hV9 hO9
                      go_simp
                      exact hK9 _ (Grow.refl _)
                    case s11_23 =>
                      intro t9 w9 hT9 hV9 hO9 K9 hK9
                      have p9_16 : t9[139]? = some ?v11_16 := hV9 16 139 rfl rfl (of_decide_eq_true (by kernel_rfl))
                      have p9_21 : t9[144]? = some ?v11_21 := hV9 21 144 rfl rfl (of_decide_eq_true (by kernel_rfl))
                      have p9_22 : t9[145]? = some ?v11_22 := hV9 22 145 rfl rfl (of_decide_eq_true (by kernel_rfl))
                      clear hV9 hO9
                      go_simp
                      exact hK9 _ (Grow.refl _)
                    case s11_24 =>
                      intro t9 w9 hT9 hV9 hO9 K9 hK9
                      have p9_16 : t9[139]? = some ?v11_16 := hV9 16 139 rfl rfl (of_decide_eq_true (by kernel_rfl))
                      have p9_23 : t9[146]? = some ?v11_23 := hV9 23 146 rfl rfl (of_decide_eq_true (by kernel_rfl))
                      clear hV9 hO9
                      have d9_0 := grow_cell hT9 n0
                      have d9_1 := grow_cell hT9 n1
                      have d9_2 := grow_cell hT9 n2
                      go_simp
                      exact hK9 _ (Grow.refl _)
                    case s11_25 =>
                      intro t9 w9 hT9 hV9 hO9 K9 hK9
                      have p9_16 : t9[139]? = some ?v11_16 := hV9 16 139 rfl rfl (of_decide_eq_true (by kernel_rfl))
                      have p9_20 : t9[143]? = some ?v11_20 := hV9 20 143 rfl rfl (of_decide_eq_true (by kernel_rfl))
                      have p9_24 : t9[147]? = some ?v11_24 := hV9 24 147 rfl rfl (of_decide_eq_true (by kernel_rfl))
                      clear hV9 hO9
                      go_simp
                      exact hK9 _ (Grow.refl _)
                    case s11_26 =>
                      intro t9 w9 hT9 hV9 hO9 K9 hK9
                      have p9_16 : t9[139]? = some ?v11_16 := hV9 16 139 rfl rfl (of_decide_eq_true (by kernel_rfl))
                      have p9_25 : t9[148]? = some ?v11_25 := hV9 25 148 rfl rfl (of_decide_eq_true (by kernel_rfl))
                      clear hV9 hO9
                      go_simp
                      exact hK9 _ (Grow.refl _)
                    case s11_27 =>
                      intro t9 w9 hT9 hV9 hO9 K9 hK9
                      have p9_5 : t9[128]? = some ?v11_5 := hV9 5 128 rfl rfl (of_decide_eq_true (by kernel_rfl))
                      have p9_16 : t9[139]? = some ?v11_16 := hV9 16 139 rfl rfl (of_decide_eq_true (by kernel_rfl))
                      have p9_26 : t9[149]? = some ?v11_26 := hV9 26 149 rfl rfl (of_decide_eq_true (by kernel_rfl))
                      clear hV9 hO9
                      go_simp
                      exact hK9 _ (Grow.refl _)
                    case s11_28 =>
                      intro t9 w9 hT9 hV9 hO9 K9 hK9
                      have p9_5 : t9[128]? = some ?v11_5 := hV9 5 128 rfl rfl (of_decide_eq_true (by kernel_rfl))
                      have p9_27 : t9[150]? = some ?v11_27 := hV9 27 150 rfl rfl (of_decide_eq_true (by kernel_rfl))
                      clear hV9 hO9
                      go_simp
                      exact hK9 _ (Grow.refl _)
                    case s11_29 =>
                      intro t9 w9 hT9 hV9 hO9 K9 hK9
                      have p9_28 : t9[151]? = some ?v11_28 := hV9 28 151 rfl rfl (of_decide_eq_true (by kernel_rfl))
                      clear hV9 hO9
                      go_simp
                      exact hK9 _ (Grow.refl _)
                    case s11_30 =>
                      intro t9 w9 hT9 hV9 hO9 K9 hK9
                      have p9_29 : t9[152]? = some ?v11_29 := hV9 29 152 rfl rfl (of_decide_eq_true (by kernel_rfl))
                      have o9_11 := hO9 11 _ (by kernel_rfl) rfl
                      clear hV9 hO9
                      go_simp
                      exact hK9 _ (Grow.refl _)
                    case s11_31 =>
                      intro t9 w9 hT9 hV9 hO9 K9 hK9
                      have p9_29 : t9[152]? = some ?v11_29 := hV9 29 152 rfl rfl (of_decide_eq_true (by kernel_rfl))
                      have o9_12 := hO9 12 _ (by kernel_rfl) rfl
                      clear hV9 hO9
                      go_simp
                      exact hK9 _ (Grow.refl _)
                    case s11_32 =>
                      intro t9 w9 hT9 hV9 hO9 K9 hK9
                      have p9_29 : t9[152]? = some ?v11_29 := hV9 29 152 rfl rfl (of_decide_eq_true (by kernel_rfl))
                      have p9_30 : t9[153]? = some ?v11_30 := hV9 30 153 rfl rfl (of_decide_eq_true (by kernel_rfl))
                      have p9_31 : t9[154]? = some ?v11_31 := hV9 31 154 rfl rfl (of_decide_eq_true (by kernel_rfl))
                      clear hV9 hO9
                      go_simp
                      exact hK9 _ (Grow.refl _)
                    case s11_33 =>
                      intro t9 w9 hT9 hV9 hO9 K9 hK9
                      have p9_29 : t9[152]? = some ?v11_29 := hV9 29 152 rfl rfl (of_decide_eq_true (by kernel_rfl))
                      have p9_32 : t9[155]? = some ?v11_32 := hV9 32 155 rfl rfl (of_decide_eq_true (by kernel_rfl))
                      clear hV9 hO9
                      go_simp
                      exact hK9 _ (Grow.refl _)
                    case s11_34 =>
                      intro t9 w9 hT9 hV9 hO9 K9 hK9
                      have p9_33 : t9[156]? = some ?v11_33 := hV9 33 156 rfl rfl (of_decide_eq_true (by kernel_rfl))
                      have o9_13 := hO9 13 _ (by kernel_rfl) rfl
                      clear hV9 hO9
                      go_simp
                      exact hK9 _ (Grow.refl _)
                    case s11_35 =>
                      intro t9 w9 hT9 hV9 hO9 K9 hK9
                      have p9_33 : t9[156]? = some ?v11_33 := hV9 33 156 rfl rfl (of_decide_eq_true (by kernel_rfl))
                      have p9_34 : t9[157]? = some ?v11_34 := hV9 34 157 rfl rfl (of_decide_eq_true (by kernel_rfl))
                      clear hV9 hO9
                      go_simp
                      exact hK9 _ (Grow.refl _)
                    case s11_36 =>
                      intro t9 w9 hT9 hV9 hO9 K9 hK9
                      have p9_29 : t9[152]? = some ?v11_29 := hV9 29 152 rfl rfl (of_decide_eq_true (by kernel_rfl))
                      have p9_33 : t9[156]? = some ?v11_33 := hV9 33 156 rfl rfl (of_decide_eq_true (by kernel_rfl))
                      have p9_35 : t9[158]? = some ?v11_35 := hV9 35 158 rfl rfl (of_decide_eq_true (by kernel_rfl))
                      clear hV9 hO9
                      go_simp
                      exact hK9 _ (Grow.refl _)
                    case s11_37 =>
                      intro t9 w9 hT9 hV9 hO9 K9 hK9
                      have p9_29 : t9[152]? = some ?v11_29 := hV9 29 152 rfl rfl (of_decide_eq_true (by kernel_rfl))
                      have p9_36 : t9[159]? = some ?v11_36 := hV9 36 159 rfl rfl (of_decide_eq_true (by kernel_rfl))
                      clear hV9 hO9
                      go_simp
                      exact hK9 _ (Grow.refl _)
                    intro w9 hb9
                    simp only [putAll, Act.put, List.setIfInBounds_toArray, List.set_cons_succ, List.set_cons_zero, List.getD_cons_succ, List.getD_cons_zero, Nat.reduceAdd, Nat.zero_add]
                    go_wp2
                    go_roundg (ps.length - (m + 1))
                    case measure => have := HQ.out; omega
                    case rel => exact ⟨m + 1, rfl, by omega, rfl, hLx.below hb9, below5 hbx hb9⟩
                  · have he : ((x : Int) == (m : Int)) = false := by rw [beq_eq_false_iff_ne]; omega
                    have hn : ((m : Int) != (x : Int)) = true := by rw [bne_iff_ne]; omega
                    have hd : Dom (labAt (labels ps) m) (labAt (labels ps) x) = true := by
                      rw [Dom_iff, F.out.anc_iff hlt hxp]
                      rcases hs with h | h
                      · exact absurd h.symm hmx
                      · exact h
                    have hcd := Lib.hid (dom_call _ _ _ hd)
                    clear hmx hs hd
                    refine wp_reg_abs (some 123 :: some 124 :: some 125 :: some 126 :: some 127 :: some 128 :: some 129 :: some 130 :: some 131 :: some 132 :: some 133 :: some 134 :: some 135 :: some 136 :: some 137 :: some 138 :: some 139 :: some 140 :: some 141 :: some 142 :: some 143 :: some 144 :: some 145 :: some 146 :: some 147 :: some 148 :: some 149 :: some 150 :: some 151 :: some 152 :: some 153 :: some 154 :: some 155 :: some 156 :: some 157 :: some 158 :: some 159 :: some 160 :: []) (?v12_0 :: ?v12_1 :: ?v12_2 :: ?v12_3 :: ?v12_4 :: ?v12_5 :: ?v12_6 :: ?v12_7 :: ?v12_8 :: ?v12_9 :: ?v12_10 :: ?v12_11 :: ?v12_12 :: ?v12_13 :: ?v12_14 :: ?v12_15 :: ?v12_16 :: ?v12_17 :: ?v12_18 :: ?v12_19 :: ?v12_20 :: ?v12_21 :: ?v12_22 :: ?v12_23 :: ?v12_24 :: ?v12_25 :: ?v12_26 :: ?v12_27 :: ?v12_28 :: ?v12_29 :: ?v12_30 :: ?v12_31 :: ?v12_32 :: ?v12_33 :: ?v12_34 :: ?v12_35 :: ?v12_36 :: ?v12_37 :: []) rfl (by kernel_rfl) rfl rfl ⟨?s12_0, ?s12_1, ?s12_2, ?s12_3, ?s12_4, ?s12_5, ?s12_6, ?s12_7, ?s12_8, ?s12_9, ?s12_10, ?s12_11, ?s12_12, ?s12_13, ?s12_14, ?s12_15, ?s12_16, ?s12_17, ?s12_18, ?s12_19, ?s12_20, ?s12_21, ?s12_22, ?s12_23, ?s12_24, ?s12_25, ?s12_26, ?s12_27, ?s12_28, ?s12_29, ?s12_30, ?s12_31, ?s12_32, ?s12_33, ?s12_34, ?s12_35, ?s12_36, ?s12_37, trivial⟩ ?p12
                    case s12_0 =>
                      intro t9 w9 hT9 hV9 hO9 K9 hK9
                      have o9_11 := hO9 11 _ (by kernel_rfl) rfl
                      clear hV9 hO9
                      go_simp
                      exact hK9 _ (Grow.refl _)
                    case s12_1 =>
                      intro t9 w9 hT9 hV9 hO9 K9 hK9
                      have p9_0 : t9[123]? = some ?v12_0 := hV9 0 123 rfl rfl (of_decide_eq_true (by kernel_rfl))
                      clear hV9 hO9
                      go_simp
                      exact hK9 _ (Grow.refl _)
                    case s12_2 =>
                      intro t9 w9 hT9 hV9 hO9 K9 hK9
                      have p9_1 : t9[124]? = some ?v12_1 := hV9 1 124 rfl rfl (of_decide_eq_true (by kernel_rfl))
                      clear hV9 hO9
                      go_simp
                      exact hK9 _ (Grow.refl _)
                    case s12_3 =>
                      intro t9 w9 hT9 hV9 hO9 K9 hK9
                      have p9_2 : t9[125]? = some ?v12_2 := hV9 2 125 rfl rfl (of_decide_eq_true (by kernel_rfl))
                      have o9_13 := hO9 13 _ (by kernel_rfl) rfl
                      clear hV9 hO9
                      go_simp
                      exact hK9 _ (Grow.refl _)
                    case s12_4 =>
                      intro t9 w9 hT9 hV9 hO9 K9 hK9
                      have p9_2 : t9[125]? = some ?v12_2 := hV9 2 125 rfl rfl (of_decide_eq_true (by kernel_rfl))
                      have p9_3 : t9[126]? = some ?v12_3 := hV9 3 126 rfl rfl (of_decide_eq_true (by kernel_rfl))
                      clear hV9 hO9
                      go_simp
                      exact hK9 _ (Grow.refl _)
                    case s12_5 =>
                      intro t9 w9 hT9 hV9 hO9 K9 hK9
                      have p9_4 : t9[127]? = some ?v12_4 := hV9 4 127 rfl rfl (of_decide_eq_true (by kernel_rfl))
                      clear hV9 hO9
                      go_simp
                      exact hK9 _ (Grow.refl _)
                    case s12_6 =>
                      intro t9 w9 hT9 hV9 hO9 K9 hK9
                      have p9_5 : t9[128]? = some ?v12_5 := hV9 5 128 rfl rfl (of_decide_eq_true (by kernel_rfl))
                      have o9_11 := hO9 11 _ (by kernel_rfl) rfl
                      clear hV9 hO9
                      go_simp
                      exact hK9 _ (Grow.refl _)
                    case s12_7 =>
                      intro t9 w9 hT9 hV9 hO9 K9 hK9
                      have p9_5 : t9[128]? = some ?v12_5 := hV9 5 128 rfl rfl (of_decide_eq_true (by kernel_rfl))
                      have p9_6 : t9[129]? = some ?v12_6 := hV9 6 129 rfl rfl (of_decide_eq_true (by kernel_rfl))
                      clear hV9 hO9
                      go_simp
                      exact hK9 _ (Grow.refl _)
                    case s12_8 =>
                      intro t9 w9 hT9 hV9 hO9 K9 hK9
                      have p9_5 : t9[128]? = some ?v12_5 := hV9 5 128 rfl rfl (of_decide_eq_true (by kernel_rfl))
                      have p9_7 : t9[130]? = some ?v12_7 := hV9 7 130 rfl rfl (of_decide_eq_true (by kernel_rfl))
                      clear hV9 hO9
                      go_simp
                      exact hK9 _ (Grow.refl _)
                    case s12_9 =>
                      intro t9 w9 hT9 hV9 hO9 K9 hK9
                      have p9_8 : t9[131]? = some ?v12_8 := hV9 8 131 rfl rfl (of_decide_eq_true (by kernel_rfl))
                      have o9_13 := hO9 13 _ (by kernel_rfl) rfl
                      clear hV9 hO9
                      go_simp
                      exact hK9 _ (Grow.refl _)
                    case s12_10 =>
                      intro t9 w9 hT9 hV9 hO9 K9 hK9
                      have p9_5 : t9[128]? = some ?v12_5 := hV9 5 128 rfl rfl (of_decide_eq_true (by kernel_rfl))
                      have p9_8 : t9[131]? = some ?v12_8 := hV9 8 131 rfl rfl (of_decide_eq_true (by kernel_rfl))
                      have p9_9 : t9[132]? = some ?v12_9 := hV9 9 132 rfl rfl (of_decide_eq_true (by kernel_rfl))
                      clear hV9 hO9
                      go_simp
                      exact hK9 _ (Grow.refl _)
                    case s12_11 =>
                      intro t9 w9 hT9 hV9 hO9 K9 hK9
                      have p9_5 : t9[128]? = some ?v12_5 := hV9 5 128 rfl rfl (of_decide_eq_true (by kernel_rfl))
                      have p9_10 : t9[133]? = some ?v12_10 := hV9 10 133 rfl rfl (of_decide_eq_true (by kernel_rfl))
                      clear hV9 hO9
                      go_simp
                      exact hK9 _ (Grow.refl _)
                    case s12_12 =>
                      intro t9 w9 hT9 hV9 hO9 K9 hK9
                      have p9_11 : t9[134]? = some ?v12_11 := hV9 11 134 rfl rfl (of_decide_eq_true (by kernel_rfl))
                      have o9_12 := hO9 12 _ (by kernel_rfl) rfl
                      clear hV9 hO9
                      go_simp
                      exact hK9 _ (Grow.refl _)
                    case s12_13 =>
                      intro t9 w9 hT9 hV9 hO9 K9 hK9
                      have p9_11 : t9[134]? = some ?v12_11 := hV9 11 134 rfl rfl (of_decide_eq_true (by kernel_rfl))
                      have o9_11 := hO9 11 _ (by kernel_rfl) rfl
                      clear hV9 hO9
                      go_simp
                      exact hK9 _ (Grow.refl _)
                    case s12_14 =>
                      intro t9 w9 hT9 hV9 hO9 K9 hK9
                      have p9_11 : t9[134]? = some ?v12_11 := hV9 11 134 rfl rfl (of_decide_eq_true (by kernel_rfl))
                      have p9_12 : t9[135]? = some ?v12_12 := hV9 12 135 rfl rfl (of_decide_eq_true (by kernel_rfl))
                      have p9_13 : t9[136]? = some ?v12_13 := hV9 13 136 rfl rfl (of_decide_eq_true (by kernel_rfl))
                      clear hV9 hO9
                      go_simp
                      exact hK9 _ (Grow.refl _)
                    case s12_15 =>
                      intro t9 w9 hT9 hV9 hO9 K9 hK9
                      have p9_5 : t9[128]? = some ?v12_5 := hV9 5 128 rfl rfl (of_decide_eq_true (by kernel_rfl))
                      have p9_11 : t9[134]? = some ?v12_11 := hV9 11 134 rfl rfl (of_decide_eq_true (by kernel_rfl))
                      have p9_14 : t9[137]? = some ?v12_14 := hV9 14 137 rfl rfl (of_decide_eq_true (by kernel_rfl))
                      clear hV9 hO9
                      go_simp
                      exact hK9 _ (Grow.refl _)
                    case s12_16 =>
                      intro t9 w9 hT9 hV9 hO9 K9 hK9
                      have p9_5 : t9[128]? = some ?v12_5 := hV9 5 128 rfl rfl (of_decide_eq_true (by kernel_rfl))
                      have p9_15 : t9[138]? = some ?v12_15 := hV9 15 138 rfl rfl (of_decide_eq_true (by kernel_rfl))
                      clear hV9 hO9
                      go_simp
                      exact hK9 _ (Grow.refl _)
                    case s12_17 =>
                      intro t9 w9 hT9 hV9 hO9 K9 hK9
                      have p9_16 : t9[139]? = some ?v12_16 := hV9 16 139 rfl rfl (of_decide_eq_true (by kernel_rfl))
                      have o9_8 := hO9 8 _ (by kernel_rfl) rfl
                      clear hV9 hO9
                      go_simp
                      exact hK9 _ (Grow.refl _)
                    case s12_18 =>
                      intro t9 w9 hT9 hV9 hO9 K9 hK9
                      have p9_16 : t9[139]? = some ?v12_16 := hV9 16 139 rfl rfl (of_decide_eq_true (by kernel_rfl))
                      have o9_12 := hO9 12 _ (by kernel_rfl) rfl
                      clear hV9 hO9
                      go_simp
                      exact hK9 _ (Grow.refl _)
                    case s12_19 =>
                      intro t9 w9 hT9 hV9 hO9 K9 hK9
                      have p9_16 : t9[139]? = some ?v12_16 := hV9 16 139 rfl rfl (of_decide_eq_true (by kernel_rfl))
                      have p9_17 : t9[140]? = some ?v12_17 := hV9 17 140 rfl rfl (of_decide_eq_true (by kernel_rfl))
                      have p9_18 : t9[141]? = some ?v12_18 := hV9 18 141 rfl rfl (of_decide_eq_true (by kernel_rfl))
                      clear hV9 hO9
                      go_simp
                      exact hK9 _ (Grow.refl _)
                    case s12_20 =>
                      intro t9 w9 hT9 hV9 hO9 K9 hK9
                      have p9_16 : t9[139]? = some ?v12_16 := hV9 16 139 rfl rfl (of_decide_eq_true (by kernel_rfl))
                      have p9_19 : t9[142]? = some ?v12_19 := hV9 19 142 rfl rfl (of_decide_eq_true (by kernel_rfl))
                      clear hV9 hO9
                      have d9_0 := grow_cell hT9 n0
                      have d9_1 := grow_cell hT9 n1
                      have d9_2 := grow_cell hT9 n2
                      have d9_3 := grow_cell hT9 o0
                      have d9_4 := grow_cell hT9 o1
                      have d9_5 := grow_cell hT9 o2
                      go_simp
                      exact hK9 _ (Grow.refl _)
                    case s12_21 =>
                      intro t9 w9 hT9 hV9 hO9 K9 hK9
                      have p9_16 : t9[139]? = some ?v12_16 := hV9 16 139 rfl rfl (of_decide_eq_true (by kernel_rfl))
                      have o9_8 := hO9 8 _ (by kernel_rfl) rfl
                      clear hV9 hO9
                      go_simp
                      exact hK9 _ (Grow.refl _)
                    case s12_22 =>
                      intro t9 w9 hT9 hV9 hO9 K9 hK9
                      have p9_16 : t9[139]? = some ?v12_16 := hV9 16 139 rfl rfl (of_decide_eq_true (by kernel_rfl))
                      have o9_11 := hO9 11 _ (by kernel_rfl) rfl
                      clear hV9 hO9
                      go_simp
                      exact hK9 _ (Grow.refl _)
                    case s12_23 =>
                      intro t9 w9 hT9 hV9 hO9 K9 hK9
                      have p9_16 : t9[139]? = some ?v12_16 := hV9 16 139 rfl rfl (of_decide_eq_true (by kernel_rfl))
                      have p9_21 : t9[144]? = some ?v12_21 := hV9 21 144 rfl rfl (of_decide_eq_true (by kernel_rfl))
                      have p9_22 : t9[145]? = some ?v12_22 := hV9 22 145 rfl rfl (of_decide_eq_true (by kernel_rfl))
                      clear hV9 hO9
                      go_simp
                      exact hK9 _ (Grow.refl _)
                    case s12_24 =>
                      intro t9 w9 hT9 hV9 hO9 K9 hK9
                      have p9_16 : t9[139]? = some ?v12_16 := hV9 16 139 rfl rfl (of_decide_eq_true (by kernel_rfl))
                      have p9_23 : t9[146]? = some ?v12_23 := hV9 23 146 rfl rfl (of_decide_eq_true (by kernel_rfl))
                      clear hV9 hO9
                      have d9_0 := grow_cell hT9 n0
                      have d9_1 := grow_cell hT9 n1
                      have d9_2 := grow_cell hT9 n2
                      have d9_3 := grow_cell hT9 o0
                      have d9_4 := grow_cell hT9 o1
                      have d9_5 := grow_cell hT9 o2
                      go_simp
                      exact hK9 _ (Grow.refl _)
                    case s12_25 =>
                      intro t9 w9 hT9 hV9 hO9 K9 hK9
                      have p9_16 : t9[139]? = some ?v12_16 := hV9 16 139 rfl rfl (of_decide_eq_true (by kernel_rfl))
                      have p9_20 : t9[143]? = some ?v12_20 := hV9 20 143 rfl rfl (of_decide_eq_true (by kernel_rfl))
                      have p9_24 : t9[147]? = some ?v12_24 := hV9 24 147 rfl rfl (of_decide_eq_true (by kernel_rfl))
                      clear hV9 hO9
                      go_simp
                      first | exact hK9 _ (Grow.refl _) | (refine (hcd.out _).mono ?_; rintro _ w8 ⟨rfl, hb8⟩; exact hK9 _ hb8)
                    case s12_26 =>
                      intro t9 w9 hT9 hV9 hO9 K9 hK9
                      have p9_16 : t9[139]? = some ?v12_16 := hV9 16 139 rfl rfl (of_decide_eq_true (by kernel_rfl))
                      have p9_25 : t9[148]? = some ?v12_25 := hV9 25 148 rfl rfl (of_decide_eq_true (by kernel_rfl))
                      clear hV9 hO9
                      go_simp
                      exact hK9 _ (Grow.refl _)
                    case s12_27 =>
                      intro t9 w9 hT9 hV9 hO9 K9 hK9
                      have p9_5 : t9[128]? = some ?v12_5 := hV9 5 128 rfl rfl (of_decide_eq_true (by kernel_rfl))
                      have p9_16 : t9[139]? = some ?v12_16 := hV9 16 139 rfl rfl (of_decide_eq_true (by kernel_rfl))
                      have p9_26 : t9[149]? = some ?v12_26 := hV9 26 149 rfl rfl (of_decide_eq_true (by kernel_rfl))
                      clear hV9 hO9
                      go_simp
                      exact hK9 _ (Grow.refl _)
                    case s12_28 =>
                      intro t9 w9 hT9 hV9 hO9 K9 hK9
                      have p9_5 : t9[128]? = some ?v12_5 := hV9 5 128 rfl rfl (of_decide_eq_true (by kernel_rfl))
                      have p9_27 : t9[150]? = some ?v12_27 := hV9 27 150 rfl rfl (of_decide_eq_true (by kernel_rfl))
                      clear hV9 hO9
                      go_simp
                      exact hK9 _ (Grow.refl _)
                    case s12_29 =>
                      intro t9 w9 hT9 hV9 hO9 K9 hK9
                      have p9_28 : t9[151]? = some ?v12_28 := hV9 28 151 rfl rfl (of_decide_eq_true (by kernel_rfl))
                      clear hV9 hO9
                      go_simp
                      exact hK9 _ (Grow.refl _)
                    case s12_30 =>
                      intro t9 w9 hT9 hV9 hO9 K9 hK9
                      have p9_29 : t9[152]? = some ?v12_29 := hV9 29 152 rfl rfl (of_decide_eq_true (by kernel_rfl))
                      have o9_11 := hO9 11 _ (by kernel_rfl) rfl
                      clear hV9 hO9
                      go_simp
                      exact hK9 _ (Grow.refl _)
                    case s12_31 =>
                      intro t9 w9 hT9 hV9 hO9 K9 hK9
                      have p9_29 : t9[152]? = some ?v12_29 := hV9 29 152 rfl rfl (of_decide_eq_true (by kernel_rfl))
                      have o9_12 := hO9 12 _ (by kernel_rfl) rfl
                      clear hV9 hO9
                      go_simp
                      exact hK9 _ (Grow.refl _)
                    case s12_32 =>
                      intro t9 w9 hT9 hV9 hO9 K9 hK9
                      have p9_29 : t9[152]? = some ?v12_29 := hV9 29 152 rfl rfl (of_decide_eq_true (by kernel_rfl))
                      have p9_30 : t9[153]? = some ?v12_30 := hV9 30 153 rfl rfl (of_decide_eq_true (by kernel_rfl))
                      have p9_31 : t9[154]? = some ?v12_31 := hV9 31 154 rfl rfl (of_decide_eq_true (by kernel_rfl))
                      clear hV9 hO9
                      go_simp
                      exact hK9 _ (Grow.refl _)
                    case s12_33 =>
                      intro t9 w9 hT9 hV9 hO9 K9 hK9
                      have p9_29 : t9[152]? = some ?v12_29 := hV9 29 152 rfl rfl (of_decide_eq_true (by kernel_rfl))
                      have p9_32 : t9[155]? = some ?v12_32 := hV9 32 155 rfl rfl (of_decide_eq_true (by kernel_rfl))
                      clear hV9 hO9
                      go_simp
                      exact hK9 _ (Grow.refl _)
                    case s12_34 =>
                      intro t9 w9 hT9 hV9 hO9 K9 hK9
                      have p9_33 : t9[156]? = some ?v12_33 := hV9 33 156 rfl rfl (of_decide_eq_true (by kernel_rfl))
                      have o9_13 := hO9 13 _ (by kernel_rfl) rfl
                      clear hV9 hO9
                      go_simp
                      exact hK9 _ (Grow.refl _)
                    case s12_35 =>
                      intro t9 w9 hT9 hV9 hO9 K9 hK9
                      have p9_33 : t9[156]? = some ?v12_33 := hV9 33 156 rfl rfl (of_decide_eq_true (by kernel_rfl))
                      have p9_34 : t9[157]? = some ?v12_34 := hV9 34 157 rfl rfl (of_decide_eq_true (by kernel_rfl))
                      clear hV9 hO9
                      go_simp
                      exact hK9 _ (Grow.refl _)
                    case s12_36 =>
                      intro t9 w9 hT9 hV9 hO9 K9 hK9
                      have p9_29 : t9[152]? = some ?v12_29 := hV9 29 152 rfl rfl (of_decide_eq_true (by kernel_rfl))
                      have p9_33 : t9[156]? = some ?v12_33 := hV9 33 156 rfl rfl (of_decide_eq_true (by kernel_rfl))
                      have p9_35 : t9[158]? = some ?v12_35 := hV9 35 158 rfl rfl (of_decide_eq_true (by kernel_rfl))
                      clear hV9 hO9
                      go_simp
                      exact hK9 _ (Grow.refl _)
                    case s12_37 =>
                      intro t9 w9 hT9 hV9 hO9 K9 hK9
                      have p9_29 : t9[152]? = some ?v12_29 := hV9 29 152 rfl rfl (of_decide_eq_true (by kernel_rfl))
                      have p9_36 : t9[159]? = some ?v12_36 := hV9 36 159 rfl rfl (of_decide_eq_true (by kernel_rfl))
                      clear hV9 hO9
                      go_simp
                      exact hK9 _ (Grow.refl _)
                    intro w9 hb9
                    simp only [putAll, Act.put, List.setIfInBounds_toArray, List.set_cons_succ, List.set_cons_zero, List.getD_cons_succ, List.getD_cons_zero, Nat.reduceAdd, Nat.zero_add]
                    go_wp2
                    go_roundg (ps.length - (m + 1))
                    case measure => have := HQ.out; omega
                    case rel => exact ⟨m + 1, rfl, by omega, rfl, hLx.below hb9, below5 hbx hb9⟩
              · subst hkx
                cases both with
                | true => exact absurd (hbo.out.1 rfl).2 (hx1 m (hbo.out.1 rfl).1)
                | false =>
                  have he : ((-1 : Int) == (m : Int)) = false := by rw [beq_eq_false_iff_ne]; omega
                  clear hx1
                  refine wp_reg_abs (some 123 :: some 124 :: some 125 :: some 126 :: some 127 :: some 128 :: some 129 :: some 130 :: some 131 :: some 132 :: some 133 :: some 134 :: some 135 :: some 136 :: some 137 :: some 138 :: some 139 :: some 140 :: some 141 :: some 142 :: some 143 :: some 144 :: some 145 :: some 146 :: some 147 :: some 148 :: some 149 :: some 150 :: some 151 :: some 152 :: some 153 :: some 154 :: some 155 :: some 156 :: some 157 :: some 158 :: some 159 :: some 160 :: []) (?v13_0 :: ?v13_1 :: ?v13_2 :: ?v13_3 :: ?v13_4 :: ?v13_5 :: ?v13_6 :: ?v13_7 :: ?v13_8 :: ?v13_9 :: ?v13_10 :: ?v13_11 :: ?v13_12 :: ?v13_13 :: ?v13_14 :: ?v13_15 :: ?v13_16 :: ?v13_17 :: ?v13_18 :: ?v13_19 :: ?v13_20 :: ?v13_21 :: ?v13_22 :: ?v13_23 :: ?v13_24 :: ?v13_25 :: ?v13_26 :: ?v13_27 :: ?v13_28 :: ?v13_29 :: ?v13_30 :: ?v13_31 :: ?v13_32 :: ?v13_33 :: ?v13_34 :: ?v13_35 :: ?v13_36 :: ?v13_37 :: []) rfl (by kernel_rfl) rfl rfl ⟨?s13_0, ?s13_1, ?s13_2, ?s13_3, ?s13_4, ?s13_5, ?s13_6, ?s13_7, ?s13_8, ?s13_9, ?s13_10, ?s13_11, ?s13_12, ?s13_13, ?s13_14, ?s13_15, ?s13_16, ?s13_17, ?s13_18, ?s13_19, ?s13_20, ?s13_21, ?s13_22, ?s13_23, ?s13_24, ?s13_25, ?s13_26, ?s13_27, ?s13_28, ?s13_29, ?s13_30, ?s13_31, ?s13_32, ?s13_33, ?s13_34, ?s13_35, ?s13_36, ?s13_37, trivial⟩ ?p13
                  case s13_0 =>
                    intro t9 w9 hT9 hV9 hO9 K9 hK9
                    have o9_11 := hO9 11 _ (by kernel_rfl) rfl
                    clear hV9 hO9
                    go_simp
                    exact hK9 _ (Grow.refl _)
                  case s13_1 =>
                    intro t9 w9 hT9 hV9 hO9 K9 hK9
                    have p9_0 : t9[123]? = some ?v13_0 := hV9 0 123 rfl rfl (of_decide_eq_true (by kernel_rfl))
                    clear hV9 hO9
                    go_simp
                    exact hK9 _ (Grow.refl _)
                  case s13_2 =>
                    intro t9 w9 hT9 hV9 hO9 K9 hK9
                    have p9_1 : t9[124]? = some ?v13_1 := hV9 1 124 rfl rfl (of_decide_eq_true (by kernel_rfl))
                    clear hV9 hO9
                    go_simp
                    exact hK9 _ (Grow.refl _)
                  case s13_3 =>
                    intro t9 w9 hT9 hV9 hO9 K9 hK9
                    have p9_2 : t9[125]? = some ?v13_2 := hV9 2 125 rfl rfl (of_decide_eq_true (by kernel_rfl))
                    have o9_13 := hO9 13 _ (by kernel_rfl) rfl
                    clear hV9 hO9
                    go_simp
                    exact hK9 _ (Grow.refl _)
                  case s13_4 =>
                    intro t9 w9 hT9 hV9 hO9 K9 hK9
                    have p9_2 : t9[125]? = some ?v13_2 := hV9 2 125 rfl rfl (of_decide_eq_true (by kernel_rfl))
                    have p9_3 : t9[126]? = some ?v13_3 := hV9 3 126 rfl rfl (of_decide_eq_true (by kernel_rfl))
                    clear hV9 hO9
                    go_simp
                    exact hK9 _ (Grow.refl _)
                  case s13_5 =>
                    intro t9 w9 hT9 hV9 hO9 K9 hK9
                    have p9_4 : t9[127]? = some ?v13_4 := hV9 4 127 rfl rfl (of_decide_eq_true (by kernel_rfl))
                    clear hV9 hO9
                    go_simp
                    exact hK9 _ (Grow.refl _)
                  case s13_6 =>
                    intro t9 w9 hT9 hV9 hO9 K9 hK9
                    have p9_5 : t9[128]? = some ?v13_5 := hV9 5 128 rfl rfl (of_decide_eq_true (by kernel_rfl))
                    have o9_11 := hO9 11 _ (by kernel_rfl) rfl
                    clear hV9 hO9
                    go_simp
                    exact hK9 _ (Grow.refl _)
                  case s13_7 =>
                    intro t9 w9 hT9 hV9 hO9 K9 hK9
                    have p9_5 : t9[128]? = some ?v13_5 := hV9 5 128 rfl rfl (of_decide_eq_true (by kernel_rfl))
                    have p9_6 : t9[129]? = some ?v13_6 := hV9 6 129 rfl rfl (of_decide_eq_true (by kernel_rfl))
                    clear hV9 hO9
                    go_simp
                    exact hK9 _ (Grow.refl _)
                  case s13_8 =>
                    intro t9 w9 hT9 hV9 hO9 K9 hK9
                    have p9_5 : t9[128]? = some ?v13_5 := hV9 5 128 rfl rfl (of_decide_eq_true (by kernel_rfl))
                    have p9_7 : t9[130]? = some ?v13_7 := hV9 7 130 rfl rfl (of_decide_eq_true (by kernel_rfl))
                    clear hV9 hO9
                    go_simp
                    exact hK9 _ (Grow.refl _)
                  case s13_9 =>
                    intro t9 w9 hT9 hV9 hO9 K9 hK9
                    have p9_8 : t9[131]? = some ?v13_8 := hV9 8 131 rfl rfl (of_decide_eq_true (by kernel_rfl))
                    have o9_13 := hO9 13 _ (by kernel_rfl) rfl
                    clear hV9 hO9
                    go_simp
                    exact hK9 _ (Grow.refl _)
                  case s13_10 =>
                    intro t9 w9 hT9 hV9 hO9 K9 hK9
                    have p9_5 : t9[128]? = some ?v13_5 := hV9 5 128 rfl rfl (of_decide_eq_true (by kernel_rfl))
                    have p9_8 : t9[131]? = some ?v13_8 := hV9 8 131 rfl rfl (of_decide_eq_true (by kernel_rfl))
                    have p9_9 : t9[132]? = some ?v13_9 := hV9 9 132 rfl rfl (of_decide_eq_true (by kernel_rfl))
                    clear hV9 hO9
                    go_simp
                    exact hK9 _ (Grow.refl _)
                  case s13_11 =>
                    intro t9 w9 hT9 hV9 hO9 K9 hK9
                    have p9_5 : t9[128]? = some ?v13_5 := hV9 5 128 rfl rfl (of_decide_eq_true (by kernel_rfl))
                    have p9_10 : t9[133]? = some ?v13_10 := hV9 10 133 rfl rfl (of_decide_eq_true (by kernel_rfl))
                    clear hV9 hO9
                    go_simp
                    exact hK9 _ (Grow.refl _)
                  case s13_12 =>
                    intro t9 w9 hT9 hV9 hO9 K9 hK9
                    have p9_11 : t9[134]? = some ?v13_11 := hV9 11 134 rfl rfl (of_decide_eq_true (by kernel_rfl))
                    have o9_12 := hO9 12 _ (by kernel_rfl) rfl
                    clear hV9 hO9
                    go_simp
                    exact hK9 _ (Grow.refl _)
                  case s13_13 =>
                    intro t9 w9 hT9 hV9 hO9 K9 hK9
                    have p9_11 : t9[134]? = some ?v13_11 := hV9 11 134 rfl rfl (of_decide_eq_true (by kernel_rfl))
                    have o9_11 := hO9 11 _ (by kernel_rfl) rfl
                    clear hV9 hO9
                    go_simp
                    exact hK9 _ (Grow.refl _)
                  case s13_14 =>
                    intro t9 w9 hT9 hV9 hO9 K9 hK9
                    have p9_11 : t9[134]? = some ?v13_11 := hV9 11 134 rfl rfl (of_decide_eq_true (by kernel_rfl))
                    have p9_12 : t9[135]? = some ?v13_12 := hV9 12 135 rfl rfl (of_decide_eq_true (by kernel_rfl))
                    have p9_13 : t9[136]? = some ?v13_13 := hV9 13 136 rfl rfl (of_decide_eq_true (by kernel_rfl))
                    clear hV9 hO9
                    go_simp
                    exact hK9 _ (Grow.refl _)
                  case s13_15 =>
                    intro t9 w9 hT9 hV9 hO9 K9 hK9
                    have p9_5 : t9[128]? = some ?v13_5 := hV9 5 128 rfl rfl (of_decide_eq_true (by kernel_rfl))
                    have p9_11 : t9[134]? = some ?v13_11 := hV9 11 134 rfl rfl (of_decide_eq_true (by kernel_rfl))
                    have p9_14 : t9[137]? = some ?v13_14 := hV9 14 137 rfl rfl (of_decide_eq_true (by kernel_rfl))
                    clear hV9 hO9
                    go_simp
                    exact hK9 _ (Grow.refl _)
                  case s13_16 =>
                    intro t9 w9 hT9 hV9 hO9 K9 hK9
                    have p9_5 : t9[128]? = some ?v13_5 := hV9 5 128 rfl rfl (of_decide_eq_true (by kernel_rfl))
                    have p9_15 : t9[138]? = some ?v13_15 := hV9 15 138 rfl rfl (of_decide_eq_true (by kernel_rfl))
                    clear hV9 hO9
                    go_simp
                    exact hK9 _ (Grow.refl _)
                  case s13_17 =>
                    intro t9 w9 hT9 hV9 hO9 K9 hK9
                    have p9_16 : t9[139]? = some ?v13_16 := hV9 16 139 rfl rfl (of_decide_eq_true (by kernel_rfl))
                    have o9_8 := hO9 8 _ (by kernel_rfl) rfl
                    clear hV9 hO9
                    go_simp
                    exact hK9 _ (Grow.refl _)
                  case s13_18 =>
                    intro t9 w9 hT9 hV9 hO9 K9 hK9
                    have p9_16 : t9[139]? = some ?v13_16 := hV9 16 139 rfl rfl (of_decide_eq_true (by kernel_rfl))
                    have o9_12 := hO9 12 _ (by kernel_rfl) rfl
                    clear hV9 hO9
                    go_simp
                    exact hK9 _ (Grow.refl _)
                  case s13_19 =>
                    intro t9 w9 hT9 hV9 hO9 K9 hK9
                    have p9_16 : t9[139]? = some ?v13_16 := hV9 16 139 rfl rfl (of_decide_eq_true (by kernel_rfl))
                    have p9_17 : t9[140]? = some ?v13_17 := hV9 17 140 rfl rfl (of_decide_eq_true (by kernel_rfl))
                    have p9_18 : t9[141]? = some ?v13_18 := hV9 18 141 rfl rfl (of_decide_eq_true (by kernel_rfl))
                    clear hV9 hO9
                    go_simp
                    exact hK9 _ (Grow.refl _)
                  case s13_20 =>
                    intro t9 w9 hT9 hV9 hO9 K9 hK9
                    have p9_16 : t9[139]? = some ?v13_16 := hV9 16 139 rfl rfl (of_decide_eq_true (by kernel_rfl))
                    have p9_19 : t9[142]? = some ?v13_19 := hV9 19 142 rfl rfl (of_decide_eq_true (by kernel_rfl))
                    clear hV9 hO9
                    have d9_0 := grow_cell hT9 n0
                    have d9_1 := grow_cell hT9 n1
                    have d9_2 := grow_cell hT9 n2
                    go_simp
                    exact hK9 _ (Grow.refl _)
                  case s13_21 =>
                    intro t9 w9 hT9 hV9 hO9 K9 hK9
                    have p9_16 : t9[139]? = some ?v13_16 := hV9 16 139 rfl rfl (of_decide_eq_true (by kernel_rfl))
                    have o9_8 := hO9 8 _ (by kernel_rfl) rfl
                    clear hV9 hO9
                    go_simp
                    exact hK9 _ (Grow.refl _)
                  case s13_22 =>
                    intro t9 w9 hT9 hV9 hO9 K9 hK9
                    have p9_16 : t9[139]? = some ?v13_16 := hV9 16 139 rfl rfl (of_decide_eq_true (by kernel_rfl))
                    have o9_11 := hO9 11 _ (by kernel_rfl) rfl
                    clear hV9 hO9
                    go_simp
                    exact hK9 _ (Grow.refl _)
                  case s13_23 =>
                    intro t9 w9 hT9 hV9 hO9 K9 hK9
                    have p9_16 : t9[139]? = some ?v13_16 := hV9 16 139 rfl rfl (of_decide_eq_true (by kernel_rfl))
                    have p9_21 : t9[144]? = some ?v13_21 := hV9 21 144 rfl rfl (of_decide_eq_true (by kernel_rfl))
                    have p9_22 : t9[145]? = some ?v13_22 := hV9 22 145 rfl rfl (of_decide_eq_true (by kernel_rfl))
                    clear hV9 hO9
                    go_simp
                    exact hK9 _ (Grow.refl _)
                  case s13_24 =>
                    intro t9 w9 hT9 hV9 hO9 K9 hK9
                    have p9_16 : t9[139]? = some ?v13_16 := hV9 16 139 rfl rfl (of_decide_eq_true (by kernel_rfl))
                    have p9_23 : t9[146]? = some ?v13_23 := hV9 23 146 rfl rfl (of_decide_eq_true (by kernel_rfl))
                    clear hV9 hO9
                    have d9_0 := grow_cell hT9 n0
                    have d9_1 := grow_cell hT9 n1
                    have d9_2 := grow_cell hT9 n2
                    go_simp
                    exact hK9 _ (Grow.refl _)
                  case s13_25 =>
                    intro t9 w9 hT9 hV9 hO9 K9 hK9
                    have p9_16 : t9[139]? = some ?v13_16 := hV9 16 139 rfl rfl (of_decide_eq_true (by kernel_rfl))
                    have p9_20 : t9[143]? = some ?v13_20 := hV9 20 143 rfl rfl (of_decide_eq_true (by kernel_rfl))
                    have p9_24 : t9[147]? = some ?v13_24 := hV9 24 147 rfl rfl (of_decide_eq_true (by kernel_rfl))
                    clear hV9 hO9
                    go_simp
                    exact hK9 _ (Grow.refl _)
                  case s13_26 =>
                    intro t9 w9 hT9 hV9 hO9 K9 hK9
                    have p9_16 : t9[139]? = some ?v13_16 := hV9 16 139 rfl rfl (of_decide_eq_true (by kernel_rfl))
                    have p9_25 : t9[148]? = some ?v13_25 := hV9 25 148 rfl rfl (of_decide_eq_true (by kernel_rfl))
                    clear hV9 hO9
                    go_simp
                    exact hK9 _ (Grow.refl _)
                  case s13_27 =>
                    intro t9 w9 hT9 hV9 hO9 K9 hK9
                    have p9_5 : t9[128]? = some ?v13_5 := hV9 5 128 rfl rfl (of_decide_eq_true (by kernel_rfl))
                    have p9_16 : t9[139]? = some ?v13_16 := hV9 16 139 rfl rfl (of_decide_eq_true (by kernel_rfl))
                    have p9_26 : t9[149]? = some ?v13_26 := hV9 26 149 rfl rfl (of_decide_eq_true (by kernel_rfl))
                    clear hV9 hO9
                    go_simp
                    exact hK9 _ (Grow.refl _)
                  case s13_28 =>
                    intro t9 w9 hT9 hV9 hO9 K9 hK9
                    have p9_5 : t9[128]? = some ?v13_5 := hV9 5 128 rfl rfl (of_decide_eq_true (by kernel_rfl))
                    have p9_27 : t9[150]? = some ?v13_27 := hV9 27 150 rfl rfl (of_decide_eq_true (by kernel_rfl))
                    clear hV9 hO9
                    go_simp
                    exact hK9 _ (Grow.refl _)
                  case s13_29 =>
                    intro t9 w9 hT9 hV9 hO9 K9 hK9
                    have p9_28 : t9[151]? = some ?v13_28 := hV9 28 151 rfl rfl (of_decide_eq_true (by kernel_rfl))
                    clear hV9 hO9
                    go_simp
                    exact hK9 _ (Grow.refl _)
                  case s13_30 =>
                    intro t9 w9 hT9 hV9 hO9 K9 hK9
                    have p9_29 : t9[152]? = some ?v13_29 := hV9 29 152 rfl rfl (of_decide_eq_true (by kernel_rfl))
                    have o9_11 := hO9 11 _ (by kernel_rfl) rfl
                    clear hV9 hO9
                    go_simp
                    exact hK9 _ (Grow.refl _)
                  case s13_31 =>
                    intro t9 w9 hT9 hV9 hO9 K9 hK9
                    have p9_29 : t9[152]? = some ?v13_29 := hV9 29 152 rfl rfl (of_decide_eq_true (by kernel_rfl))
                    have o9_12 := hO9 12 _ (by kernel_rfl) rfl
                    clear hV9 hO9
                    go_simp
                    exact hK9 _ (Grow.refl _)
                  case s13_32 =>
                    intro t9 w9 hT9 hV9 hO9 K9 hK9
                    have p9_29 : t9[152]? = some ?v13_29 := hV9 29 152 rfl rfl (of_decide_eq_true (by kernel_rfl))
                    have p9_30 : t9[153]? = some ?v13_30 := hV9 30 153 rfl rfl (of_decide_eq_true (by kernel_rfl))
                    have p9_31 : t9[154]? = some ?v13_31 := hV9 31 154 rfl rfl (of_decide_eq_true (by kernel_rfl))
                    clear hV9 hO9
                    go_simp
                    exact hK9 _ (Grow.refl _)
                  case s13_33 =>
                    intro t9 w9 hT9 hV9 hO9 K9 hK9
                    have p9_29 : t9[152]? = some ?v13_29 := hV9 29 152 rfl rfl (of_decide_eq_true (by kernel_rfl))
                    have p9_32 : t9[155]? = some ?v13_32 := hV9 32 155 rfl rfl (of_decide_eq_true (by kernel_rfl))
                    clear hV9 hO9
                    go_simp
                    exact hK9 _ (Grow.refl _)
                  case s13_34 =>
                    intro t9 w9 hT9 hV9 hO9 K9 hK9
                    have p9_33 : t9[156]? = some ?v13_33 := hV9 33 156 rfl rfl (of_decide_eq_true (by kernel_rfl))
                    have o9_13 := hO9 13 _ (by kernel_rfl) rfl
                    clear hV9 hO9
                    go_simp
                    exact hK9 _ (Grow.refl _)
                  case s13_35 =>
                    intro t9 w9 hT9 hV9 hO9 K9 hK9
                    have p9_33 : t9[156]? = some ?v13_33 := hV9 33 156 rfl rfl (of_decide_eq_true (by kernel_rfl))
                    have p9_34 : t9[157]? = some ?v13_34 := hV9 34 157 rfl rfl (of_decide_eq_true (by kernel_rfl))
                    clear hV9 hO9
                    go_simp
                    exact hK9 _ (Grow.refl _)
                  case s13_36 =>
                    intro t9 w9 hT9 hV9 hO9 K9 hK9
                    have p9_29 : t9[152]? = some ?v13_29 := hV9 29 152 rfl rfl (of_decide_eq_true (by kernel_rfl))
                    have p9_33 : t9[156]? = some ?v13_33 := hV9 33 156 rfl rfl (of_decide_eq_true (by kernel_rfl))
                    have p9_35 : t9[158]? = some ?v13_35 := hV9 35 158 rfl rfl (of_decide_eq_true (by kernel_rfl))
                    clear hV9 hO9
                    go_simp
                    exact hK9 _ (Grow.refl _)
                  case s13_37 =>
                    intro t9 w9 hT9 hV9 hO9 K9 hK9
                    have p9_29 : t9[152]? = some ?v13_29 := hV9 29 152 rfl rfl (of_decide_eq_true (by kernel_rfl))
                    have p9_36 : t9[159]? = some ?v13_36 := hV9 36 159 rfl rfl (of_decide_eq_true (by kernel_rfl))
                    clear hV9 hO9
                    go_simp
                    exact hK9 _ (Grow.refl _)
                  intro w9 hb9
                  simp only [putAll, Act.put, List.setIfInBounds_toArray, List.set_cons_succ, List.set_cons_zero, List.getD_cons_succ, List.getD_cons_zero, Nat.reduceAdd, Nat.zero_add]
                  go_wp2
                  go_roundg (ps.length - (m + 1))
                  case measure => have := HQ.out; omega
                  case rel => exact ⟨m + 1, rfl, by omega, rfl, hLx.below hb9, below5 hbx hb9⟩
          · have hle : decide ((m : Int) < ps.length) = false := decide_eq_false (by omega)
            have hle' : decide (m < ps.length) = false := decide_eq_false hlt
            go_wp2_with fail
            refine (awake_any _).mono ?_
            rintro e w6 ⟨rfl, hb6⟩
            go_wp2
            go_ret
            exact ⟨rfl, below5 hbm hb6⟩
    · exact common_out A c ps i j w hx'.out HA hrange
  · exact common_bad A c ps i j w hA hx'.out hc
end Go.Proofs.Ytgimddboflhpaaa
