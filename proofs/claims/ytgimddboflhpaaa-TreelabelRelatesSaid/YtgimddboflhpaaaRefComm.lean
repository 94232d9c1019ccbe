/- Sisters and the lowest common ancestor: what the reference returns. -/
import Derived.Test.YtgimddboflhpaaaComm2
namespace Go.Proofs.Ytgimddboflhpaaa
set_option linter.unusedSimpArgs false
set_option linter.unusedVariables false
set_option linter.unusedSectionVars false
open Go.RowKit Tr

theorem sub_iff {ps : List Int} {x j : Nat} : Sub ps x j ↔ ∃ l, it ps l j = (x : Int) := by
  constructor
  · rintro (h | ⟨k, hk⟩)
    · exact ⟨0, by rw [h]; rfl⟩
    · exact ⟨k + 1, hk⟩
  · rintro ⟨l, hl⟩
    cases l with
    | zero => left; have : (j : Int) = x := hl; omega
    | succ l => right; exact ⟨l, hl⟩

set_option maxRecDepth 100000 in
set_option maxHeartbeats 8000000 in
theorem rsisters_any (A : Option Addr) (c : Nat) (ls : List Lab) (i j : Int) (w : World) (hA : Labs w A ls) (hx : ls.length ≤ maxLen) :
    Calls Try.prog 25 #[.slice A ls.length c, .int .i64 i, .int .i64 j] w (SisPost ls i j w) := by
  have HC := Lib.hid (rparents_any A c ls w hA hx)
  unfold maxLen at hx
  go_enter Try.func25, Try.ntmps25
  go_wp2_with fail
  refine HC.out.mono ?_
  rintro e w1 ⟨hb, ⟨ps, v, hF, rfl, hs⟩ | ⟨hno, rfl⟩⟩
  · obtain ⟨_, F⟩ := facts hF
    have hlen := F.len
    obtain ⟨Ap, cp, rfl, _, _, hrd⟩ := hs
    have HF := Lib.hid hF
    have HNO : Hid (¬ InR ls.length i j → ¬ sisP ls i j) := fun h ⟨_, _, h2, _⟩ => h h2
    have HLEN := Lib.hid hlen
    have hle1 : (ps.length : Int) ≤ ls.length := by omega
    have hle2 : (ls.length : Int) ≤ ps.length := by omega
    clear F hlen hF HC
    by_cases r1 : 0 ≤ i
    · by_cases r2 : i < ps.length
      · by_cases r3 : 0 ≤ j
        · by_cases r4 : j < ps.length
          · have hiff := Lib.hid (sisP_of HF.out ⟨⟨r1, by omega⟩, r3, by omega⟩)
            obtain ⟨x, hx1, hx2⟩ := getD_at (ps := ps) r1 r2
            obtain ⟨y, hy1, hy2⟩ := getD_at (ps := ps) r3 r4
            rw [hx1, hy1] at hiff
            obtain ⟨b, off, rfl, c0⟩ := hrd _ _ hx2
            obtain ⟨_, _, e, c1⟩ := hrd _ _ hy2
            cases e
            clear hx1 hx2 hy1 hy2 hrd
            by_cases hij : i = j
            · have hb1 : (i != j) = false := by simp [hij]
              have HIJ := Lib.hid hij; clear hij
              go_wp2
              refine wp_reg_vals [some 14, some 15, some 16, some 17, some 18, some 19, some 20, some 21, some 22, some 23, some 24, some 25, some 26, some 27, some 28, some 29, some 30, some 31, some 32, some 33, some 34, some 35, some 36, some 37, some 38, some 39, some 40, some 41, some 42, some 43, some 44, some 45, some 46, some 47, some 48, some 49, some 50, some 51, some 6] [?v1_0, ?v1_1, ?v1_2, ?v1_3, ?v1_4, ?v1_5, ?v1_6, ?v1_7, ?v1_8, ?v1_9, ?v1_10, ?v1_11, ?v1_12, ?v1_13, ?v1_14, ?v1_15, ?v1_16, ?v1_17, ?v1_18, ?v1_19, ?v1_20, ?v1_21, ?v1_22, ?v1_23, ?v1_24, ?v1_25, ?v1_26, ?v1_27, ?v1_28, ?v1_29, ?v1_30, ?v1_31, ?v1_32, ?v1_33, ?v1_34, ?v1_35, ?v1_36, ?v1_37, ?v1_38] rfl (by kernel_rfl) rfl rfl ⟨?s1_0, ?s1_1, ?s1_2, ?s1_3, ?s1_4, ?s1_5, ?s1_6, ?s1_7, ?s1_8, ?s1_9, ?s1_10, ?s1_11, ?s1_12, ?s1_13, ?s1_14, ?s1_15, ?s1_16, ?s1_17, ?s1_18, ?s1_19, ?s1_20, ?s1_21, ?s1_22, ?s1_23, ?s1_24, ?s1_25, ?s1_26, ?s1_27, ?s1_28, ?s1_29, ?s1_30, ?s1_31, ?s1_32, ?s1_33, ?s1_34, ?s1_35, ?s1_36, ?s1_37, ?s1_38, trivial⟩ ?p1
              case s1_0 =>
                intro u9 w9 hT9 hV9 K9 hK9
                clear hV9
                simp only [putAll, Act.put, List.setIfInBounds_toArray, List.set_cons_succ, List.set_cons_zero, List.getD_cons_succ, List.getD_cons_zero, Nat.reduceAdd, Nat.zero_add] at hK9 ⊢
                go_simp
                exact hK9 _ (Grow.refl _)
              case s1_1 =>
                intro u9 w9 hT9 hV9 K9 hK9
                have p9_0 := hV9 0 rfl
                clear hV9
                simp only [putAll, Act.put, List.setIfInBounds_toArray, List.set_cons_succ, List.set_cons_zero, List.getD_cons_succ, List.getD_cons_zero, Nat.reduceAdd, Nat.zero_add] at p9_0 hK9 ⊢
                simp only [p9_0] at hK9 ⊢
                clear p9_0
                go_simp
                exact hK9 _ (Grow.refl _)
              case s1_2 =>
                intro u9 w9 hT9 hV9 K9 hK9
                have p9_1 := hV9 1 rfl
                clear hV9
                simp only [putAll, Act.put, List.setIfInBounds_toArray, List.set_cons_succ, List.set_cons_zero, List.getD_cons_succ, List.getD_cons_zero, Nat.reduceAdd, Nat.zero_add] at p9_1 hK9 ⊢
                simp only [p9_1] at hK9 ⊢
                clear p9_1
                go_simp
                exact hK9 _ (Grow.refl _)
              case s1_3 =>
                intro u9 w9 hT9 hV9 K9 hK9
                have p9_2 := hV9 2 rfl
                clear hV9
                simp only [putAll, Act.put, List.setIfInBounds_toArray, List.set_cons_succ, List.set_cons_zero, List.getD_cons_succ, List.getD_cons_zero, Nat.reduceAdd, Nat.zero_add] at p9_2 hK9 ⊢
                simp only [p9_2] at hK9 ⊢
                clear p9_2
                go_simp
                exact hK9 _ (Grow.refl _)
              case s1_4 =>
                intro u9 w9 hT9 hV9 K9 hK9
                have p9_2 := hV9 2 rfl
                have p9_3 := hV9 3 rfl
                clear hV9
                simp only [putAll, Act.put, List.setIfInBounds_toArray, List.set_cons_succ, List.set_cons_zero, List.getD_cons_succ, List.getD_cons_zero, Nat.reduceAdd, Nat.zero_add] at p9_2 p9_3 hK9 ⊢
                simp only [p9_2, p9_3] at hK9 ⊢
                clear p9_2 p9_3
                go_simp
                exact hK9 _ (Grow.refl _)
              case s1_5 =>
                intro u9 w9 hT9 hV9 K9 hK9
                have p9_2 := hV9 2 rfl
                have p9_4 := hV9 4 rfl
                clear hV9
                simp only [putAll, Act.put, List.setIfInBounds_toArray, List.set_cons_succ, List.set_cons_zero, List.getD_cons_succ, List.getD_cons_zero, Nat.reduceAdd, Nat.zero_add] at p9_2 p9_4 hK9 ⊢
                simp only [p9_2, p9_4] at hK9 ⊢
                clear p9_2 p9_4
                go_simp
                exact hK9 _ (Grow.refl _)
              case s1_6 =>
                intro u9 w9 hT9 hV9 K9 hK9
                have p9_5 := hV9 5 rfl
                clear hV9
                simp only [putAll, Act.put, List.setIfInBounds_toArray, List.set_cons_succ, List.set_cons_zero, List.getD_cons_succ, List.getD_cons_zero, Nat.reduceAdd, Nat.zero_add] at p9_5 hK9 ⊢
                simp only [p9_5] at hK9 ⊢
                clear p9_5
                go_simp
                exact hK9 _ (Grow.refl _)
              case s1_7 =>
                intro u9 w9 hT9 hV9 K9 hK9
                have p9_6 := hV9 6 rfl
                clear hV9
                simp only [putAll, Act.put, List.setIfInBounds_toArray, List.set_cons_succ, List.set_cons_zero, List.getD_cons_succ, List.getD_cons_zero, Nat.reduceAdd, Nat.zero_add] at p9_6 hK9 ⊢
                simp only [p9_6] at hK9 ⊢
                clear p9_6
                go_simp
                exact hK9 _ (Grow.refl _)
              case s1_8 =>
                intro u9 w9 hT9 hV9 K9 hK9
                have p9_6 := hV9 6 rfl
                clear hV9
                simp only [putAll, Act.put, List.setIfInBounds_toArray, List.set_cons_succ, List.set_cons_zero, List.getD_cons_succ, List.getD_cons_zero, Nat.reduceAdd, Nat.zero_add] at p9_6 hK9 ⊢
                simp only [p9_6] at hK9 ⊢
                clear p9_6
                go_simp
                exact hK9 _ (Grow.refl _)
              case s1_9 =>
                intro u9 w9 hT9 hV9 K9 hK9
                have p9_6 := hV9 6 rfl
                have p9_8 := hV9 8 rfl
                clear hV9
                simp only [putAll, Act.put, List.setIfInBounds_toArray, List.set_cons_succ, List.set_cons_zero, List.getD_cons_succ, List.getD_cons_zero, Nat.reduceAdd, Nat.zero_add] at p9_6 p9_8 hK9 ⊢
                simp only [p9_6, p9_8] at hK9 ⊢
                clear p9_6 p9_8
                go_simp
                exact hK9 _ (Grow.refl _)
              case s1_10 =>
                intro u9 w9 hT9 hV9 K9 hK9
                have p9_6 := hV9 6 rfl
                have p9_7 := hV9 7 rfl
                have p9_9 := hV9 9 rfl
                clear hV9
                simp only [putAll, Act.put, List.setIfInBounds_toArray, List.set_cons_succ, List.set_cons_zero, List.getD_cons_succ, List.getD_cons_zero, Nat.reduceAdd, Nat.zero_add] at p9_6 p9_7 p9_9 hK9 ⊢
                simp only [p9_6, p9_7, p9_9] at hK9 ⊢
                clear p9_6 p9_7 p9_9
                go_simp
                exact hK9 _ (Grow.refl _)
              case s1_11 =>
                intro u9 w9 hT9 hV9 K9 hK9
                have p9_6 := hV9 6 rfl
                have p9_10 := hV9 10 rfl
                clear hV9
                simp only [putAll, Act.put, List.setIfInBounds_toArray, List.set_cons_succ, List.set_cons_zero, List.getD_cons_succ, List.getD_cons_zero, Nat.reduceAdd, Nat.zero_add] at p9_6 p9_10 hK9 ⊢
                simp only [p9_6, p9_10] at hK9 ⊢
                clear p9_6 p9_10
                go_simp
                exact hK9 _ (Grow.refl _)
              case s1_12 =>
                intro u9 w9 hT9 hV9 K9 hK9
                have p9_11 := hV9 11 rfl
                clear hV9
                simp only [putAll, Act.put, List.setIfInBounds_toArray, List.set_cons_succ, List.set_cons_zero, List.getD_cons_succ, List.getD_cons_zero, Nat.reduceAdd, Nat.zero_add] at p9_11 hK9 ⊢
                simp only [p9_11] at hK9 ⊢
                clear p9_11
                go_simp
                exact hK9 _ (Grow.refl _)
              case s1_13 =>
                intro u9 w9 hT9 hV9 K9 hK9
                have p9_12 := hV9 12 rfl
                clear hV9
                simp only [putAll, Act.put, List.setIfInBounds_toArray, List.set_cons_succ, List.set_cons_zero, List.getD_cons_succ, List.getD_cons_zero, Nat.reduceAdd, Nat.zero_add] at p9_12 hK9 ⊢
                simp only [p9_12] at hK9 ⊢
                clear p9_12
                go_simp
                exact hK9 _ (Grow.refl _)
              case s1_14 =>
                intro u9 w9 hT9 hV9 K9 hK9
                have p9_12 := hV9 12 rfl
                have p9_13 := hV9 13 rfl
                clear hV9
                simp only [putAll, Act.put, List.setIfInBounds_toArray, List.set_cons_succ, List.set_cons_zero, List.getD_cons_succ, List.getD_cons_zero, Nat.reduceAdd, Nat.zero_add] at p9_12 p9_13 hK9 ⊢
                simp only [p9_12, p9_13] at hK9 ⊢
                clear p9_12 p9_13
                go_simp
                exact hK9 _ (Grow.refl _)
              case s1_15 =>
                intro u9 w9 hT9 hV9 K9 hK9
                have p9_12 := hV9 12 rfl
                have p9_14 := hV9 14 rfl
                clear hV9
                simp only [putAll, Act.put, List.setIfInBounds_toArray, List.set_cons_succ, List.set_cons_zero, List.getD_cons_succ, List.getD_cons_zero, Nat.reduceAdd, Nat.zero_add] at p9_12 p9_14 hK9 ⊢
                simp only [p9_12, p9_14] at hK9 ⊢
                clear p9_12 p9_14
                go_simp
                exact hK9 _ (Grow.refl _)
              case s1_16 =>
                intro u9 w9 hT9 hV9 K9 hK9
                have p9_15 := hV9 15 rfl
                clear hV9
                simp only [putAll, Act.put, List.setIfInBounds_toArray, List.set_cons_succ, List.set_cons_zero, List.getD_cons_succ, List.getD_cons_zero, Nat.reduceAdd, Nat.zero_add] at p9_15 hK9 ⊢
                simp only [p9_15] at hK9 ⊢
                clear p9_15
                go_simp
                exact hK9 _ (Grow.refl _)
              case s1_17 =>
                intro u9 w9 hT9 hV9 K9 hK9
                have p9_16 := hV9 16 rfl
                clear hV9
                simp only [putAll, Act.put, List.setIfInBounds_toArray, List.set_cons_succ, List.set_cons_zero, List.getD_cons_succ, List.getD_cons_zero, Nat.reduceAdd, Nat.zero_add] at p9_16 hK9 ⊢
                simp only [p9_16] at hK9 ⊢
                clear p9_16
                go_simp
                exact hK9 _ (Grow.refl _)
              case s1_18 =>
                intro u9 w9 hT9 hV9 K9 hK9
                have p9_16 := hV9 16 rfl
                clear hV9
                simp only [putAll, Act.put, List.setIfInBounds_toArray, List.set_cons_succ, List.set_cons_zero, List.getD_cons_succ, List.getD_cons_zero, Nat.reduceAdd, Nat.zero_add] at p9_16 hK9 ⊢
                simp only [p9_16] at hK9 ⊢
                clear p9_16
                go_simp
                exact hK9 _ (Grow.refl _)
              case s1_19 =>
                intro u9 w9 hT9 hV9 K9 hK9
                have p9_16 := hV9 16 rfl
                have p9_18 := hV9 18 rfl
                clear hV9
                simp only [putAll, Act.put, List.setIfInBounds_toArray, List.set_cons_succ, List.set_cons_zero, List.getD_cons_succ, List.getD_cons_zero, Nat.reduceAdd, Nat.zero_add] at p9_16 p9_18 hK9 ⊢
                simp only [p9_16, p9_18] at hK9 ⊢
                clear p9_16 p9_18
                go_simp
                exact hK9 _ (Grow.refl _)
              case s1_20 =>
                intro u9 w9 hT9 hV9 K9 hK9
                have p9_16 := hV9 16 rfl
                have p9_17 := hV9 17 rfl
                have p9_19 := hV9 19 rfl
                clear hV9
                simp only [putAll, Act.put, List.setIfInBounds_toArray, List.set_cons_succ, List.set_cons_zero, List.getD_cons_succ, List.getD_cons_zero, Nat.reduceAdd, Nat.zero_add] at p9_16 p9_17 p9_19 hK9 ⊢
                simp only [p9_16, p9_17, p9_19] at hK9 ⊢
                clear p9_16 p9_17 p9_19
                go_simp
                exact hK9 _ (Grow.refl _)
              case s1_21 =>
                intro u9 w9 hT9 hV9 K9 hK9
                have p9_16 := hV9 16 rfl
                have p9_20 := hV9 20 rfl
                clear hV9
                simp only [putAll, Act.put, List.setIfInBounds_toArray, List.set_cons_succ, List.set_cons_zero, List.getD_cons_succ, List.getD_cons_zero, Nat.reduceAdd, Nat.zero_add] at p9_16 p9_20 hK9 ⊢
                simp only [p9_16, p9_20] at hK9 ⊢
                clear p9_16 p9_20
                go_simp
                exact hK9 _ (Grow.refl _)
              case s1_22 =>
                intro u9 w9 hT9 hV9 K9 hK9
                have p9_21 := hV9 21 rfl
                clear hV9
                simp only [putAll, Act.put, List.setIfInBounds_toArray, List.set_cons_succ, List.set_cons_zero, List.getD_cons_succ, List.getD_cons_zero, Nat.reduceAdd, Nat.zero_add] at p9_21 hK9 ⊢
                simp only [p9_21] at hK9 ⊢
                clear p9_21
                go_simp
                exact hK9 _ (Grow.refl _)
              case s1_23 =>
                intro u9 w9 hT9 hV9 K9 hK9
                have p9_22 := hV9 22 rfl
                clear hV9
                simp only [putAll, Act.put, List.setIfInBounds_toArray, List.set_cons_succ, List.set_cons_zero, List.getD_cons_succ, List.getD_cons_zero, Nat.reduceAdd, Nat.zero_add] at p9_22 hK9 ⊢
                simp only [p9_22] at hK9 ⊢
                clear p9_22
                go_simp
                exact hK9 _ (Grow.refl _)
              case s1_24 =>
                intro u9 w9 hT9 hV9 K9 hK9
                have p9_22 := hV9 22 rfl
                clear hV9
                simp only [putAll, Act.put, List.setIfInBounds_toArray, List.set_cons_succ, List.set_cons_zero, List.getD_cons_succ, List.getD_cons_zero, Nat.reduceAdd, Nat.zero_add] at p9_22 hK9 ⊢
                simp only [p9_22] at hK9 ⊢
                clear p9_22
                go_simp
                exact hK9 _ (Grow.refl _)
              case s1_25 =>
                intro u9 w9 hT9 hV9 K9 hK9
                have p9_22 := hV9 22 rfl
                have p9_23 := hV9 23 rfl
                have p9_24 := hV9 24 rfl
                clear hV9
                simp only [putAll, Act.put, List.setIfInBounds_toArray, List.set_cons_succ, List.set_cons_zero, List.getD_cons_succ, List.getD_cons_zero, Nat.reduceAdd, Nat.zero_add] at p9_22 p9_23 p9_24 hK9 ⊢
                simp only [p9_22, p9_23, p9_24] at hK9 ⊢
                clear p9_22 p9_23 p9_24
                go_simp
                exact hK9 _ (Grow.refl _)
              case s1_26 =>
                intro u9 w9 hT9 hV9 K9 hK9
                have p9_22 := hV9 22 rfl
                have p9_25 := hV9 25 rfl
                clear hV9
                simp only [putAll, Act.put, List.setIfInBounds_toArray, List.set_cons_succ, List.set_cons_zero, List.getD_cons_succ, List.getD_cons_zero, Nat.reduceAdd, Nat.zero_add] at p9_22 p9_25 hK9 ⊢
                simp only [p9_22, p9_25] at hK9 ⊢
                clear p9_22 p9_25
                go_simp
                exact hK9 _ (Grow.refl _)
              case s1_27 =>
                intro u9 w9 hT9 hV9 K9 hK9
                have p9_26 := hV9 26 rfl
                clear hV9
                simp only [putAll, Act.put, List.setIfInBounds_toArray, List.set_cons_succ, List.set_cons_zero, List.getD_cons_succ, List.getD_cons_zero, Nat.reduceAdd, Nat.zero_add] at p9_26 hK9 ⊢
                simp only [p9_26] at hK9 ⊢
                clear p9_26
                go_simp
                exact hK9 _ (Grow.refl _)
              case s1_28 =>
                intro u9 w9 hT9 hV9 K9 hK9
                have p9_27 := hV9 27 rfl
                clear hV9
                simp only [putAll, Act.put, List.setIfInBounds_toArray, List.set_cons_succ, List.set_cons_zero, List.getD_cons_succ, List.getD_cons_zero, Nat.reduceAdd, Nat.zero_add] at p9_27 hK9 ⊢
                simp only [p9_27] at hK9 ⊢
                clear p9_27
                go_simp
                exact hK9 _ (Grow.refl _)
              case s1_29 =>
                intro u9 w9 hT9 hV9 K9 hK9
                have p9_27 := hV9 27 rfl
                clear hV9
                simp only [putAll, Act.put, List.setIfInBounds_toArray, List.set_cons_succ, List.set_cons_zero, List.getD_cons_succ, List.getD_cons_zero, Nat.reduceAdd, Nat.zero_add] at p9_27 hK9 ⊢
                simp only [p9_27] at hK9 ⊢
                clear p9_27
                go_simp
                exact hK9 _ (Grow.refl _)
              case s1_30 =>
                intro u9 w9 hT9 hV9 K9 hK9
                have p9_27 := hV9 27 rfl
                have p9_28 := hV9 28 rfl
                have p9_29 := hV9 29 rfl
                clear hV9
                simp only [putAll, Act.put, List.setIfInBounds_toArray, List.set_cons_succ, List.set_cons_zero, List.getD_cons_succ, List.getD_cons_zero, Nat.reduceAdd, Nat.zero_add] at p9_27 p9_28 p9_29 hK9 ⊢
                simp only [p9_27, p9_28, p9_29] at hK9 ⊢
                clear p9_27 p9_28 p9_29
                go_simp
                exact hK9 _ (Grow.refl _)
              case s1_31 =>
                intro u9 w9 hT9 hV9 K9 hK9
                have p9_27 := hV9 27 rfl
                have p9_30 := hV9 30 rfl
                clear hV9
                simp only [putAll, Act.put, List.setIfInBounds_toArray, List.set_cons_succ, List.set_cons_zero, List.getD_cons_succ, List.getD_cons_zero, Nat.reduceAdd, Nat.zero_add] at p9_27 p9_30 hK9 ⊢
                simp only [p9_27, p9_30] at hK9 ⊢
                clear p9_27 p9_30
                have d9_0 := grow_cell hT9 c0
                have d9_1 := grow_cell hT9 c1
                go_simp
                exact hK9 _ (Grow.refl _)
              case s1_32 =>
                intro u9 w9 hT9 hV9 K9 hK9
                have p9_27 := hV9 27 rfl
                clear hV9
                simp only [putAll, Act.put, List.setIfInBounds_toArray, List.set_cons_succ, List.set_cons_zero, List.getD_cons_succ, List.getD_cons_zero, Nat.reduceAdd, Nat.zero_add] at p9_27 hK9 ⊢
                simp only [p9_27] at hK9 ⊢
                clear p9_27
                go_simp
                exact hK9 _ (Grow.refl _)
              case s1_33 =>
                intro u9 w9 hT9 hV9 K9 hK9
                have p9_27 := hV9 27 rfl
                clear hV9
                simp only [putAll, Act.put, List.setIfInBounds_toArray, List.set_cons_succ, List.set_cons_zero, List.getD_cons_succ, List.getD_cons_zero, Nat.reduceAdd, Nat.zero_add] at p9_27 hK9 ⊢
                simp only [p9_27] at hK9 ⊢
                clear p9_27
                go_simp
                exact hK9 _ (Grow.refl _)
              case s1_34 =>
                intro u9 w9 hT9 hV9 K9 hK9
                have p9_27 := hV9 27 rfl
                have p9_32 := hV9 32 rfl
                have p9_33 := hV9 33 rfl
                clear hV9
                simp only [putAll, Act.put, List.setIfInBounds_toArray, List.set_cons_succ, List.set_cons_zero, List.getD_cons_succ, List.getD_cons_zero, Nat.reduceAdd, Nat.zero_add] at p9_27 p9_32 p9_33 hK9 ⊢
                simp only [p9_27, p9_32, p9_33] at hK9 ⊢
                clear p9_27 p9_32 p9_33
                go_simp
                exact hK9 _ (Grow.refl _)
              case s1_35 =>
                intro u9 w9 hT9 hV9 K9 hK9
                have p9_27 := hV9 27 rfl
                have p9_34 := hV9 34 rfl
                clear hV9
                simp only [putAll, Act.put, List.setIfInBounds_toArray, List.set_cons_succ, List.set_cons_zero, List.getD_cons_succ, List.getD_cons_zero, Nat.reduceAdd, Nat.zero_add] at p9_27 p9_34 hK9 ⊢
                simp only [p9_27, p9_34] at hK9 ⊢
                clear p9_27 p9_34
                have d9_0 := grow_cell hT9 c0
                have d9_1 := grow_cell hT9 c1
                go_simp
                exact hK9 _ (Grow.refl _)
              case s1_36 =>
                intro u9 w9 hT9 hV9 K9 hK9
                have p9_27 := hV9 27 rfl
                have p9_31 := hV9 31 rfl
                have p9_35 := hV9 35 rfl
                clear hV9
                simp only [putAll, Act.put, List.setIfInBounds_toArray, List.set_cons_succ, List.set_cons_zero, List.getD_cons_succ, List.getD_cons_zero, Nat.reduceAdd, Nat.zero_add] at p9_27 p9_31 p9_35 hK9 ⊢
                simp only [p9_27, p9_31, p9_35] at hK9 ⊢
                clear p9_27 p9_31 p9_35
                go_simp
                exact hK9 _ (Grow.refl _)
              case s1_37 =>
                intro u9 w9 hT9 hV9 K9 hK9
                have p9_27 := hV9 27 rfl
                have p9_36 := hV9 36 rfl
                clear hV9
                simp only [putAll, Act.put, List.setIfInBounds_toArray, List.set_cons_succ, List.set_cons_zero, List.getD_cons_succ, List.getD_cons_zero, Nat.reduceAdd, Nat.zero_add] at p9_27 p9_36 hK9 ⊢
                simp only [p9_27, p9_36] at hK9 ⊢
                clear p9_27 p9_36
                go_simp
                exact hK9 _ (Grow.refl _)
              case s1_38 =>
                intro u9 w9 hT9 hV9 K9 hK9
                have p9_37 := hV9 37 rfl
                clear hV9
                simp only [putAll, Act.put, List.setIfInBounds_toArray, List.set_cons_succ, List.set_cons_zero, List.getD_cons_succ, List.getD_cons_zero, Nat.reduceAdd, Nat.zero_add] at p9_37 hK9 ⊢
                simp only [p9_37] at hK9 ⊢
                clear p9_37
                go_simp
                exact hK9 _ (Grow.refl _)
              intro w9 hb9
              simp only [putAll, Act.put, List.setIfInBounds_toArray, List.set_cons_succ, List.set_cons_zero, List.getD_cons_succ, List.getD_cons_zero, Nat.reduceAdd, Nat.zero_add]
              go_wp2
              go_ret
              exact ⟨hb.trans (hb9.mono hb.size), false, rfl, by rw [hiff.out]; simp [HIJ.out]⟩
            · have hb1 : (i != j) = true := by simp [hij]
              go_wp2
              refine wp_reg_vals [some 14, some 15, some 16, some 17, some 18, some 19, some 20, some 21, some 22, some 23, some 24, some 25, some 26, some 27, some 28, some 29, some 30, some 31, some 32, some 33, some 34, some 35, some 36, some 37, some 38, some 39, some 40, some 41, some 42, some 43, some 44, some 45, some 46, some 47, some 48, some 49, some 50, some 51, some 6] [?v2_0, ?v2_1, ?v2_2, ?v2_3, ?v2_4, ?v2_5, ?v2_6, ?v2_7, ?v2_8, ?v2_9, ?v2_10, ?v2_11, ?v2_12, ?v2_13, ?v2_14, ?v2_15, ?v2_16, ?v2_17, ?v2_18, ?v2_19, ?v2_20, ?v2_21, ?v2_22, ?v2_23, ?v2_24, ?v2_25, ?v2_26, ?v2_27, ?v2_28, ?v2_29, ?v2_30, ?v2_31, ?v2_32, ?v2_33, ?v2_34, ?v2_35, ?v2_36, ?v2_37, ?v2_38] rfl (by kernel_rfl) rfl rfl ⟨?s2_0, ?s2_1, ?s2_2, ?s2_3, ?s2_4, ?s2_5, ?s2_6, ?s2_7, ?s2_8, ?s2_9, ?s2_10, ?s2_11, ?s2_12, ?s2_13, ?s2_14, ?s2_15, ?s2_16, ?s2_17, ?s2_18, ?s2_19, ?s2_20, ?s2_21, ?s2_22, ?s2_23, ?s2_24, ?s2_25, ?s2_26, ?s2_27, ?s2_28, ?s2_29, ?s2_30, ?s2_31, ?s2_32, ?s2_33, ?s2_34, ?s2_35, ?s2_36, ?s2_37, ?s2_38, trivial⟩ ?p2
              case s2_0 =>
                intro u9 w9 hT9 hV9 K9 hK9
                clear hV9
                simp only [putAll, Act.put, List.setIfInBounds_toArray, List.set_cons_succ, List.set_cons_zero, List.getD_cons_succ, List.getD_cons_zero, Nat.reduceAdd, Nat.zero_add] at hK9 ⊢
                go_simp
                exact hK9 _ (Grow.refl _)
              case s2_1 =>
                intro u9 w9 hT9 hV9 K9 hK9
                have p9_0 := hV9 0 rfl
                clear hV9
                simp only [putAll, Act.put, List.setIfInBounds_toArray, List.set_cons_succ, List.set_cons_zero, List.getD_cons_succ, List.getD_cons_zero, Nat.reduceAdd, Nat.zero_add] at p9_0 hK9 ⊢
                simp only [p9_0] at hK9 ⊢
                clear p9_0
                go_simp
                exact hK9 _ (Grow.refl _)
              case s2_2 =>
                intro u9 w9 hT9 hV9 K9 hK9
                have p9_1 := hV9 1 rfl
                clear hV9
                simp only [putAll, Act.put, List.setIfInBounds_toArray, List.set_cons_succ, List.set_cons_zero, List.getD_cons_succ, List.getD_cons_zero, Nat.reduceAdd, Nat.zero_add] at p9_1 hK9 ⊢
                simp only [p9_1] at hK9 ⊢
                clear p9_1
                go_simp
                exact hK9 _ (Grow.refl _)
              case s2_3 =>
                intro u9 w9 hT9 hV9 K9 hK9
                have p9_2 := hV9 2 rfl
                clear hV9
                simp only [putAll, Act.put, List.setIfInBounds_toArray, List.set_cons_succ, List.set_cons_zero, List.getD_cons_succ, List.getD_cons_zero, Nat.reduceAdd, Nat.zero_add] at p9_2 hK9 ⊢
                simp only [p9_2] at hK9 ⊢
                clear p9_2
                go_simp
                exact hK9 _ (Grow.refl _)
              case s2_4 =>
                intro u9 w9 hT9 hV9 K9 hK9
                have p9_2 := hV9 2 rfl
                have p9_3 := hV9 3 rfl
                clear hV9
                simp only [putAll, Act.put, List.setIfInBounds_toArray, List.set_cons_succ, List.set_cons_zero, List.getD_cons_succ, List.getD_cons_zero, Nat.reduceAdd, Nat.zero_add] at p9_2 p9_3 hK9 ⊢
                simp only [p9_2, p9_3] at hK9 ⊢
                clear p9_2 p9_3
                go_simp
                exact hK9 _ (Grow.refl _)
              case s2_5 =>
                intro u9 w9 hT9 hV9 K9 hK9
                have p9_2 := hV9 2 rfl
                have p9_4 := hV9 4 rfl
                clear hV9
                simp only [putAll, Act.put, List.setIfInBounds_toArray, List.set_cons_succ, List.set_cons_zero, List.getD_cons_succ, List.getD_cons_zero, Nat.reduceAdd, Nat.zero_add] at p9_2 p9_4 hK9 ⊢
                simp only [p9_2, p9_4] at hK9 ⊢
                clear p9_2 p9_4
                go_simp
                exact hK9 _ (Grow.refl _)
              case s2_6 =>
                intro u9 w9 hT9 hV9 K9 hK9
                have p9_5 := hV9 5 rfl
                clear hV9
                simp only [putAll, Act.put, List.setIfInBounds_toArray, List.set_cons_succ, List.set_cons_zero, List.getD_cons_succ, List.getD_cons_zero, Nat.reduceAdd, Nat.zero_add] at p9_5 hK9 ⊢
                simp only [p9_5] at hK9 ⊢
                clear p9_5
                go_simp
                exact hK9 _ (Grow.refl _)
              case s2_7 =>
                intro u9 w9 hT9 hV9 K9 hK9
                have p9_6 := hV9 6 rfl
                clear hV9
                simp only [putAll, Act.put, List.setIfInBounds_toArray, List.set_cons_succ, List.set_cons_zero, List.getD_cons_succ, List.getD_cons_zero, Nat.reduceAdd, Nat.zero_add] at p9_6 hK9 ⊢
                simp only [p9_6] at hK9 ⊢
                clear p9_6
                go_simp
                exact hK9 _ (Grow.refl _)
              case s2_8 =>
                intro u9 w9 hT9 hV9 K9 hK9
                have p9_6 := hV9 6 rfl
                clear hV9
                simp only [putAll, Act.put, List.setIfInBounds_toArray, List.set_cons_succ, List.set_cons_zero, List.getD_cons_succ, List.getD_cons_zero, Nat.reduceAdd, Nat.zero_add] at p9_6 hK9 ⊢
                simp only [p9_6] at hK9 ⊢
                clear p9_6
                go_simp
                exact hK9 _ (Grow.refl _)
              case s2_9 =>
                intro u9 w9 hT9 hV9 K9 hK9
                have p9_6 := hV9 6 rfl
                have p9_8 := hV9 8 rfl
                clear hV9
                simp only [putAll, Act.put, List.setIfInBounds_toArray, List.set_cons_succ, List.set_cons_zero, List.getD_cons_succ, List.getD_cons_zero, Nat.reduceAdd, Nat.zero_add] at p9_6 p9_8 hK9 ⊢
                simp only [p9_6, p9_8] at hK9 ⊢
                clear p9_6 p9_8
                go_simp
                exact hK9 _ (Grow.refl _)
              case s2_10 =>
                intro u9 w9 hT9 hV9 K9 hK9
                have p9_6 := hV9 6 rfl
                have p9_7 := hV9 7 rfl
                have p9_9 := hV9 9 rfl
                clear hV9
                simp only [putAll, Act.put, List.setIfInBounds_toArray, List.set_cons_succ, List.set_cons_zero, List.getD_cons_succ, List.getD_cons_zero, Nat.reduceAdd, Nat.zero_add] at p9_6 p9_7 p9_9 hK9 ⊢
                simp only [p9_6, p9_7, p9_9] at hK9 ⊢
                clear p9_6 p9_7 p9_9
                go_simp
                exact hK9 _ (Grow.refl _)
              case s2_11 =>
                intro u9 w9 hT9 hV9 K9 hK9
                have p9_6 := hV9 6 rfl
                have p9_10 := hV9 10 rfl
                clear hV9
                simp only [putAll, Act.put, List.setIfInBounds_toArray, List.set_cons_succ, List.set_cons_zero, List.getD_cons_succ, List.getD_cons_zero, Nat.reduceAdd, Nat.zero_add] at p9_6 p9_10 hK9 ⊢
                simp only [p9_6, p9_10] at hK9 ⊢
                clear p9_6 p9_10
                go_simp
                exact hK9 _ (Grow.refl _)
              case s2_12 =>
                intro u9 w9 hT9 hV9 K9 hK9
                have p9_11 := hV9 11 rfl
                clear hV9
                simp only [putAll, Act.put, List.setIfInBounds_toArray, List.set_cons_succ, List.set_cons_zero, List.getD_cons_succ, List.getD_cons_zero, Nat.reduceAdd, Nat.zero_add] at p9_11 hK9 ⊢
                simp only [p9_11] at hK9 ⊢
                clear p9_11
                go_simp
                exact hK9 _ (Grow.refl _)
              case s2_13 =>
                intro u9 w9 hT9 hV9 K9 hK9
                have p9_12 := hV9 12 rfl
                clear hV9
                simp only [putAll, Act.put, List.setIfInBounds_toArray, List.set_cons_succ, List.set_cons_zero, List.getD_cons_succ, List.getD_cons_zero, Nat.reduceAdd, Nat.zero_add] at p9_12 hK9 ⊢
                simp only [p9_12] at hK9 ⊢
                clear p9_12
                go_simp
                exact hK9 _ (Grow.refl _)
              case s2_14 =>
                intro u9 w9 hT9 hV9 K9 hK9
                have p9_12 := hV9 12 rfl
                have p9_13 := hV9 13 rfl
                clear hV9
                simp only [putAll, Act.put, List.setIfInBounds_toArray, List.set_cons_succ, List.set_cons_zero, List.getD_cons_succ, List.getD_cons_zero, Nat.reduceAdd, Nat.zero_add] at p9_12 p9_13 hK9 ⊢
                simp only [p9_12, p9_13] at hK9 ⊢
                clear p9_12 p9_13
                go_simp
                exact hK9 _ (Grow.refl _)
              case s2_15 =>
                intro u9 w9 hT9 hV9 K9 hK9
                have p9_12 := hV9 12 rfl
                have p9_14 := hV9 14 rfl
                clear hV9
                simp only [putAll, Act.put, List.setIfInBounds_toArray, List.set_cons_succ, List.set_cons_zero, List.getD_cons_succ, List.getD_cons_zero, Nat.reduceAdd, Nat.zero_add] at p9_12 p9_14 hK9 ⊢
                simp only [p9_12, p9_14] at hK9 ⊢
                clear p9_12 p9_14
                go_simp
                exact hK9 _ (Grow.refl _)
              case s2_16 =>
                intro u9 w9 hT9 hV9 K9 hK9
                have p9_15 := hV9 15 rfl
                clear hV9
                simp only [putAll, Act.put, List.setIfInBounds_toArray, List.set_cons_succ, List.set_cons_zero, List.getD_cons_succ, List.getD_cons_zero, Nat.reduceAdd, Nat.zero_add] at p9_15 hK9 ⊢
                simp only [p9_15] at hK9 ⊢
                clear p9_15
                go_simp
                exact hK9 _ (Grow.refl _)
              case s2_17 =>
                intro u9 w9 hT9 hV9 K9 hK9
                have p9_16 := hV9 16 rfl
                clear hV9
                simp only [putAll, Act.put, List.setIfInBounds_toArray, List.set_cons_succ, List.set_cons_zero, List.getD_cons_succ, List.getD_cons_zero, Nat.reduceAdd, Nat.zero_add] at p9_16 hK9 ⊢
                simp only [p9_16] at hK9 ⊢
                clear p9_16
                go_simp
                exact hK9 _ (Grow.refl _)
              case s2_18 =>
                intro u9 w9 hT9 hV9 K9 hK9
                have p9_16 := hV9 16 rfl
                clear hV9
                simp only [putAll, Act.put, List.setIfInBounds_toArray, List.set_cons_succ, List.set_cons_zero, List.getD_cons_succ, List.getD_cons_zero, Nat.reduceAdd, Nat.zero_add] at p9_16 hK9 ⊢
                simp only [p9_16] at hK9 ⊢
                clear p9_16
                go_simp
                exact hK9 _ (Grow.refl _)
              case s2_19 =>
                intro u9 w9 hT9 hV9 K9 hK9
                have p9_16 := hV9 16 rfl
                have p9_18 := hV9 18 rfl
                clear hV9
                simp only [putAll, Act.put, List.setIfInBounds_toArray, List.set_cons_succ, List.set_cons_zero, List.getD_cons_succ, List.getD_cons_zero, Nat.reduceAdd, Nat.zero_add] at p9_16 p9_18 hK9 ⊢
                simp only [p9_16, p9_18] at hK9 ⊢
                clear p9_16 p9_18
                go_simp
                exact hK9 _ (Grow.refl _)
              case s2_20 =>
                intro u9 w9 hT9 hV9 K9 hK9
                have p9_16 := hV9 16 rfl
                have p9_17 := hV9 17 rfl
                have p9_19 := hV9 19 rfl
                clear hV9
                simp only [putAll, Act.put, List.setIfInBounds_toArray, List.set_cons_succ, List.set_cons_zero, List.getD_cons_succ, List.getD_cons_zero, Nat.reduceAdd, Nat.zero_add] at p9_16 p9_17 p9_19 hK9 ⊢
                simp only [p9_16, p9_17, p9_19] at hK9 ⊢
                clear p9_16 p9_17 p9_19
                go_simp
                exact hK9 _ (Grow.refl _)
              case s2_21 =>
                intro u9 w9 hT9 hV9 K9 hK9
                have p9_16 := hV9 16 rfl
                have p9_20 := hV9 20 rfl
                clear hV9
                simp only [putAll, Act.put, List.setIfInBounds_toArray, List.set_cons_succ, List.set_cons_zero, List.getD_cons_succ, List.getD_cons_zero, Nat.reduceAdd, Nat.zero_add] at p9_16 p9_20 hK9 ⊢
                simp only [p9_16, p9_20] at hK9 ⊢
                clear p9_16 p9_20
                go_simp
                exact hK9 _ (Grow.refl _)
              case s2_22 =>
                intro u9 w9 hT9 hV9 K9 hK9
                have p9_21 := hV9 21 rfl
                clear hV9
                simp only [putAll, Act.put, List.setIfInBounds_toArray, List.set_cons_succ, List.set_cons_zero, List.getD_cons_succ, List.getD_cons_zero, Nat.reduceAdd, Nat.zero_add] at p9_21 hK9 ⊢
                simp only [p9_21] at hK9 ⊢
                clear p9_21
                go_simp
                exact hK9 _ (Grow.refl _)
              case s2_23 =>
                intro u9 w9 hT9 hV9 K9 hK9
                have p9_22 := hV9 22 rfl
                clear hV9
                simp only [putAll, Act.put, List.setIfInBounds_toArray, List.set_cons_succ, List.set_cons_zero, List.getD_cons_succ, List.getD_cons_zero, Nat.reduceAdd, Nat.zero_add] at p9_22 hK9 ⊢
                simp only [p9_22] at hK9 ⊢
                clear p9_22
                go_simp
                exact hK9 _ (Grow.refl _)
              case s2_24 =>
                intro u9 w9 hT9 hV9 K9 hK9
                have p9_22 := hV9 22 rfl
                clear hV9
                simp only [putAll, Act.put, List.setIfInBounds_toArray, List.set_cons_succ, List.set_cons_zero, List.getD_cons_succ, List.getD_cons_zero, Nat.reduceAdd, Nat.zero_add] at p9_22 hK9 ⊢
                simp only [p9_22] at hK9 ⊢
                clear p9_22
                go_simp
                exact hK9 _ (Grow.refl _)
              case s2_25 =>
                intro u9 w9 hT9 hV9 K9 hK9
                have p9_22 := hV9 22 rfl
                have p9_23 := hV9 23 rfl
                have p9_24 := hV9 24 rfl
                clear hV9
                simp only [putAll, Act.put, List.setIfInBounds_toArray, List.set_cons_succ, List.set_cons_zero, List.getD_cons_succ, List.getD_cons_zero, Nat.reduceAdd, Nat.zero_add] at p9_22 p9_23 p9_24 hK9 ⊢
                simp only [p9_22, p9_23, p9_24] at hK9 ⊢
                clear p9_22 p9_23 p9_24
                go_simp
                exact hK9 _ (Grow.refl _)
              case s2_26 =>
                intro u9 w9 hT9 hV9 K9 hK9
                have p9_22 := hV9 22 rfl
                have p9_25 := hV9 25 rfl
                clear hV9
                simp only [putAll, Act.put, List.setIfInBounds_toArray, List.set_cons_succ, List.set_cons_zero, List.getD_cons_succ, List.getD_cons_zero, Nat.reduceAdd, Nat.zero_add] at p9_22 p9_25 hK9 ⊢
                simp only [p9_22, p9_25] at hK9 ⊢
                clear p9_22 p9_25
                go_simp
                exact hK9 _ (Grow.refl _)
              case s2_27 =>
                intro u9 w9 hT9 hV9 K9 hK9
                have p9_26 := hV9 26 rfl
                clear hV9
                simp only [putAll, Act.put, List.setIfInBounds_toArray, List.set_cons_succ, List.set_cons_zero, List.getD_cons_succ, List.getD_cons_zero, Nat.reduceAdd, Nat.zero_add] at p9_26 hK9 ⊢
                simp only [p9_26] at hK9 ⊢
                clear p9_26
                go_simp
                exact hK9 _ (Grow.refl _)
              case s2_28 =>
                intro u9 w9 hT9 hV9 K9 hK9
                have p9_27 := hV9 27 rfl
                clear hV9
                simp only [putAll, Act.put, List.setIfInBounds_toArray, List.set_cons_succ, List.set_cons_zero, List.getD_cons_succ, List.getD_cons_zero, Nat.reduceAdd, Nat.zero_add] at p9_27 hK9 ⊢
                simp only [p9_27] at hK9 ⊢
                clear p9_27
                go_simp
                exact hK9 _ (Grow.refl _)
              case s2_29 =>
                intro u9 w9 hT9 hV9 K9 hK9
                have p9_27 := hV9 27 rfl
                clear hV9
                simp only [putAll, Act.put, List.setIfInBounds_toArray, List.set_cons_succ, List.set_cons_zero, List.getD_cons_succ, List.getD_cons_zero, Nat.reduceAdd, Nat.zero_add] at p9_27 hK9 ⊢
                simp only [p9_27] at hK9 ⊢
                clear p9_27
                go_simp
                exact hK9 _ (Grow.refl _)
              case s2_30 =>
                intro u9 w9 hT9 hV9 K9 hK9
                have p9_27 := hV9 27 rfl
                have p9_28 := hV9 28 rfl
                have p9_29 := hV9 29 rfl
                clear hV9
                simp only [putAll, Act.put, List.setIfInBounds_toArray, List.set_cons_succ, List.set_cons_zero, List.getD_cons_succ, List.getD_cons_zero, Nat.reduceAdd, Nat.zero_add] at p9_27 p9_28 p9_29 hK9 ⊢
                simp only [p9_27, p9_28, p9_29] at hK9 ⊢
                clear p9_27 p9_28 p9_29
                go_simp
                exact hK9 _ (Grow.refl _)
              case s2_31 =>
                intro u9 w9 hT9 hV9 K9 hK9
                have p9_27 := hV9 27 rfl
                have p9_30 := hV9 30 rfl
                clear hV9
                simp only [putAll, Act.put, List.setIfInBounds_toArray, List.set_cons_succ, List.set_cons_zero, List.getD_cons_succ, List.getD_cons_zero, Nat.reduceAdd, Nat.zero_add] at p9_27 p9_30 hK9 ⊢
                simp only [p9_27, p9_30] at hK9 ⊢
                clear p9_27 p9_30
                have d9_0 := grow_cell hT9 c0
                have d9_1 := grow_cell hT9 c1
                go_simp
                exact hK9 _ (Grow.refl _)
              case s2_32 =>
                intro u9 w9 hT9 hV9 K9 hK9
                have p9_27 := hV9 27 rfl
                clear hV9
                simp only [putAll, Act.put, List.setIfInBounds_toArray, List.set_cons_succ, List.set_cons_zero, List.getD_cons_succ, List.getD_cons_zero, Nat.reduceAdd, Nat.zero_add] at p9_27 hK9 ⊢
                simp only [p9_27] at hK9 ⊢
                clear p9_27
                go_simp
                exact hK9 _ (Grow.refl _)
              case s2_33 =>
                intro u9 w9 hT9 hV9 K9 hK9
                have p9_27 := hV9 27 rfl
                clear hV9
                simp only [putAll, Act.put, List.setIfInBounds_toArray, List.set_cons_succ, List.set_cons_zero, List.getD_cons_succ, List.getD_cons_zero, Nat.reduceAdd, Nat.zero_add] at p9_27 hK9 ⊢
                simp only [p9_27] at hK9 ⊢
                clear p9_27
                go_simp
                exact hK9 _ (Grow.refl _)
              case s2_34 =>
                intro u9 w9 hT9 hV9 K9 hK9
                have p9_27 := hV9 27 rfl
                have p9_32 := hV9 32 rfl
                have p9_33 := hV9 33 rfl
                clear hV9
                simp only [putAll, Act.put, List.setIfInBounds_toArray, List.set_cons_succ, List.set_cons_zero, List.getD_cons_succ, List.getD_cons_zero, Nat.reduceAdd, Nat.zero_add] at p9_27 p9_32 p9_33 hK9 ⊢
                simp only [p9_27, p9_32, p9_33] at hK9 ⊢
                clear p9_27 p9_32 p9_33
                go_simp
                exact hK9 _ (Grow.refl _)
              case s2_35 =>
                intro u9 w9 hT9 hV9 K9 hK9
                have p9_27 := hV9 27 rfl
                have p9_34 := hV9 34 rfl
                clear hV9
                simp only [putAll, Act.put, List.setIfInBounds_toArray, List.set_cons_succ, List.set_cons_zero, List.getD_cons_succ, List.getD_cons_zero, Nat.reduceAdd, Nat.zero_add] at p9_27 p9_34 hK9 ⊢
                simp only [p9_27, p9_34] at hK9 ⊢
                clear p9_27 p9_34
                have d9_0 := grow_cell hT9 c0
                have d9_1 := grow_cell hT9 c1
                go_simp
                exact hK9 _ (Grow.refl _)
              case s2_36 =>
                intro u9 w9 hT9 hV9 K9 hK9
                have p9_27 := hV9 27 rfl
                have p9_31 := hV9 31 rfl
                have p9_35 := hV9 35 rfl
                clear hV9
                simp only [putAll, Act.put, List.setIfInBounds_toArray, List.set_cons_succ, List.set_cons_zero, List.getD_cons_succ, List.getD_cons_zero, Nat.reduceAdd, Nat.zero_add] at p9_27 p9_31 p9_35 hK9 ⊢
                simp only [p9_27, p9_31, p9_35] at hK9 ⊢
                clear p9_27 p9_31 p9_35
                go_simp
                exact hK9 _ (Grow.refl _)
              case s2_37 =>
                intro u9 w9 hT9 hV9 K9 hK9
                have p9_27 := hV9 27 rfl
                have p9_36 := hV9 36 rfl
                clear hV9
                simp only [putAll, Act.put, List.setIfInBounds_toArray, List.set_cons_succ, List.set_cons_zero, List.getD_cons_succ, List.getD_cons_zero, Nat.reduceAdd, Nat.zero_add] at p9_27 p9_36 hK9 ⊢
                simp only [p9_27, p9_36] at hK9 ⊢
                clear p9_27 p9_36
                go_simp
                exact hK9 _ (Grow.refl _)
              case s2_38 =>
                intro u9 w9 hT9 hV9 K9 hK9
                have p9_37 := hV9 37 rfl
                clear hV9
                simp only [putAll, Act.put, List.setIfInBounds_toArray, List.set_cons_succ, List.set_cons_zero, List.getD_cons_succ, List.getD_cons_zero, Nat.reduceAdd, Nat.zero_add] at p9_37 hK9 ⊢
                simp only [p9_37] at hK9 ⊢
                clear p9_37
                go_simp
                exact hK9 _ (Grow.refl _)
              intro w9 hb9
              simp only [putAll, Act.put, List.setIfInBounds_toArray, List.set_cons_succ, List.set_cons_zero, List.getD_cons_succ, List.getD_cons_zero, Nat.reduceAdd, Nat.zero_add]
              go_wp2
              go_ret
              exact ⟨hb.trans (hb9.mono hb.size), x == y, rfl, by rw [hiff.out]; simp [hij]⟩
          · have hd : decide (j < (ps.length : Int)) = false := decide_eq_false r4
            go_wp2
            refine wp_reg_vals [some 14, some 15, some 16, some 17, some 18, some 19, some 20, some 21, some 22, some 23, some 24, some 25, some 26, some 27, some 28, some 29, some 30, some 31, some 32, some 33, some 34, some 35, some 36, some 37, some 38, some 39, some 40, some 41, some 42, some 43, some 44, some 45, some 46, some 47, some 48, some 49, some 50, some 51, some 6] [?v3_0, ?v3_1, ?v3_2, ?v3_3, ?v3_4, ?v3_5, ?v3_6, ?v3_7, ?v3_8, ?v3_9, ?v3_10, ?v3_11, ?v3_12, ?v3_13, ?v3_14, ?v3_15, ?v3_16, ?v3_17, ?v3_18, ?v3_19, ?v3_20, ?v3_21, ?v3_22, ?v3_23, ?v3_24, ?v3_25, ?v3_26, ?v3_27, ?v3_28, ?v3_29, ?v3_30, ?v3_31, ?v3_32, ?v3_33, ?v3_34, ?v3_35, ?v3_36, ?v3_37, ?v3_38] rfl (by kernel_rfl) rfl rfl ⟨?s3_0, ?s3_1, ?s3_2, ?s3_3, ?s3_4, ?s3_5, ?s3_6, ?s3_7, ?s3_8, ?s3_9, ?s3_10, ?s3_11, ?s3_12, ?s3_13, ?s3_14, ?s3_15, ?s3_16, ?s3_17, ?s3_18, ?s3_19, ?s3_20, ?s3_21, ?s3_22, ?s3_23, ?s3_24, ?s3_25, ?s3_26, ?s3_27, ?s3_28, ?s3_29, ?s3_30, ?s3_31, ?s3_32, ?s3_33, ?s3_34, ?s3_35, ?s3_36, ?s3_37, ?s3_38, trivial⟩ ?p3
            case s3_0 =>
              intro u9 w9 hT9 hV9 K9 hK9
              clear hV9
              simp only [putAll, Act.put, List.setIfInBounds_toArray, List.set_cons_succ, List.set_cons_zero, List.getD_cons_succ, List.getD_cons_zero, Nat.reduceAdd, Nat.zero_add] at hK9 ⊢
              go_simp
              exact hK9 _ (Grow.refl _)
            case s3_1 =>
              intro u9 w9 hT9 hV9 K9 hK9
              have p9_0 := hV9 0 rfl
              clear hV9
              simp only [putAll, Act.put, List.setIfInBounds_toArray, List.set_cons_succ, List.set_cons_zero, List.getD_cons_succ, List.getD_cons_zero, Nat.reduceAdd, Nat.zero_add] at p9_0 hK9 ⊢
              simp only [p9_0] at hK9 ⊢
              clear p9_0
              go_simp
              exact hK9 _ (Grow.refl _)
            case s3_2 =>
              intro u9 w9 hT9 hV9 K9 hK9
              have p9_1 := hV9 1 rfl
              clear hV9
              simp only [putAll, Act.put, List.setIfInBounds_toArray, List.set_cons_succ, List.set_cons_zero, List.getD_cons_succ, List.getD_cons_zero, Nat.reduceAdd, Nat.zero_add] at p9_1 hK9 ⊢
              simp only [p9_1] at hK9 ⊢
              clear p9_1
              go_simp
              exact hK9 _ (Grow.refl _)
            case s3_3 =>
              intro u9 w9 hT9 hV9 K9 hK9
              have p9_2 := hV9 2 rfl
              clear hV9
              simp only [putAll, Act.put, List.setIfInBounds_toArray, List.set_cons_succ, List.set_cons_zero, List.getD_cons_succ, List.getD_cons_zero, Nat.reduceAdd, Nat.zero_add] at p9_2 hK9 ⊢
              simp only [p9_2] at hK9 ⊢
              clear p9_2
              go_simp
              exact hK9 _ (Grow.refl _)
            case s3_4 =>
              intro u9 w9 hT9 hV9 K9 hK9
              have p9_2 := hV9 2 rfl
              have p9_3 := hV9 3 rfl
              clear hV9
              simp only [putAll, Act.put, List.setIfInBounds_toArray, List.set_cons_succ, List.set_cons_zero, List.getD_cons_succ, List.getD_cons_zero, Nat.reduceAdd, Nat.zero_add] at p9_2 p9_3 hK9 ⊢
              simp only [p9_2, p9_3] at hK9 ⊢
              clear p9_2 p9_3
              go_simp
              exact hK9 _ (Grow.refl _)
            case s3_5 =>
              intro u9 w9 hT9 hV9 K9 hK9
              have p9_2 := hV9 2 rfl
              have p9_4 := hV9 4 rfl
              clear hV9
              simp only [putAll, Act.put, List.setIfInBounds_toArray, List.set_cons_succ, List.set_cons_zero, List.getD_cons_succ, List.getD_cons_zero, Nat.reduceAdd, Nat.zero_add] at p9_2 p9_4 hK9 ⊢
              simp only [p9_2, p9_4] at hK9 ⊢
              clear p9_2 p9_4
              go_simp
              exact hK9 _ (Grow.refl _)
            case s3_6 =>
              intro u9 w9 hT9 hV9 K9 hK9
              have p9_5 := hV9 5 rfl
              clear hV9
              simp only [putAll, Act.put, List.setIfInBounds_toArray, List.set_cons_succ, List.set_cons_zero, List.getD_cons_succ, List.getD_cons_zero, Nat.reduceAdd, Nat.zero_add] at p9_5 hK9 ⊢
              simp only [p9_5] at hK9 ⊢
              clear p9_5
              go_simp
              exact hK9 _ (Grow.refl _)
            case s3_7 =>
              intro u9 w9 hT9 hV9 K9 hK9
              have p9_6 := hV9 6 rfl
              clear hV9
              simp only [putAll, Act.put, List.setIfInBounds_toArray, List.set_cons_succ, List.set_cons_zero, List.getD_cons_succ, List.getD_cons_zero, Nat.reduceAdd, Nat.zero_add] at p9_6 hK9 ⊢
              simp only [p9_6] at hK9 ⊢
              clear p9_6
              go_simp
              exact hK9 _ (Grow.refl _)
            case s3_8 =>
              intro u9 w9 hT9 hV9 K9 hK9
              have p9_6 := hV9 6 rfl
              clear hV9
              simp only [putAll, Act.put, List.setIfInBounds_toArray, List.set_cons_succ, List.set_cons_zero, List.getD_cons_succ, List.getD_cons_zero, Nat.reduceAdd, Nat.zero_add] at p9_6 hK9 ⊢
              simp only [p9_6] at hK9 ⊢
              clear p9_6
              go_simp
              exact hK9 _ (Grow.refl _)
            case s3_9 =>
              intro u9 w9 hT9 hV9 K9 hK9
              have p9_6 := hV9 6 rfl
              have p9_8 := hV9 8 rfl
              clear hV9
              simp only [putAll, Act.put, List.setIfInBounds_toArray, List.set_cons_succ, List.set_cons_zero, List.getD_cons_succ, List.getD_cons_zero, Nat.reduceAdd, Nat.zero_add] at p9_6 p9_8 hK9 ⊢
              simp only [p9_6, p9_8] at hK9 ⊢
              clear p9_6 p9_8
              go_simp
              exact hK9 _ (Grow.refl _)
            case s3_10 =>
              intro u9 w9 hT9 hV9 K9 hK9
              have p9_6 := hV9 6 rfl
              have p9_7 := hV9 7 rfl
              have p9_9 := hV9 9 rfl
              clear hV9
              simp only [putAll, Act.put, List.setIfInBounds_toArray, List.set_cons_succ, List.set_cons_zero, List.getD_cons_succ, List.getD_cons_zero, Nat.reduceAdd, Nat.zero_add] at p9_6 p9_7 p9_9 hK9 ⊢
              simp only [p9_6, p9_7, p9_9] at hK9 ⊢
              clear p9_6 p9_7 p9_9
              go_simp
              exact hK9 _ (Grow.refl _)
            case s3_11 =>
              intro u9 w9 hT9 hV9 K9 hK9
              have p9_6 := hV9 6 rfl
              have p9_10 := hV9 10 rfl
              clear hV9
              simp only [putAll, Act.put, List.setIfInBounds_toArray, List.set_cons_succ, List.set_cons_zero, List.getD_cons_succ, List.getD_cons_zero, Nat.reduceAdd, Nat.zero_add] at p9_6 p9_10 hK9 ⊢
              simp only [p9_6, p9_10] at hK9 ⊢
              clear p9_6 p9_10
              go_simp
              exact hK9 _ (Grow.refl _)
            case s3_12 =>
              intro u9 w9 hT9 hV9 K9 hK9
              have p9_11 := hV9 11 rfl
              clear hV9
              simp only [putAll, Act.put, List.setIfInBounds_toArray, List.set_cons_succ, List.set_cons_zero, List.getD_cons_succ, List.getD_cons_zero, Nat.reduceAdd, Nat.zero_add] at p9_11 hK9 ⊢
              simp only [p9_11] at hK9 ⊢
              clear p9_11
              go_simp
              exact hK9 _ (Grow.refl _)
            case s3_13 =>
              intro u9 w9 hT9 hV9 K9 hK9
              have p9_12 := hV9 12 rfl
              clear hV9
              simp only [putAll, Act.put, List.setIfInBounds_toArray, List.set_cons_succ, List.set_cons_zero, List.getD_cons_succ, List.getD_cons_zero, Nat.reduceAdd, Nat.zero_add] at p9_12 hK9 ⊢
              simp only [p9_12] at hK9 ⊢
              clear p9_12
              go_simp
              exact hK9 _ (Grow.refl _)
            case s3_14 =>
              intro u9 w9 hT9 hV9 K9 hK9
              have p9_12 := hV9 12 rfl
              have p9_13 := hV9 13 rfl
              clear hV9
              simp only [putAll, Act.put, List.setIfInBounds_toArray, List.set_cons_succ, List.set_cons_zero, List.getD_cons_succ, List.getD_cons_zero, Nat.reduceAdd, Nat.zero_add] at p9_12 p9_13 hK9 ⊢
              simp only [p9_12, p9_13] at hK9 ⊢
              clear p9_12 p9_13
              go_simp
              exact hK9 _ (Grow.refl _)
            case s3_15 =>
              intro u9 w9 hT9 hV9 K9 hK9
              have p9_12 := hV9 12 rfl
              have p9_14 := hV9 14 rfl
              clear hV9
              simp only [putAll, Act.put, List.setIfInBounds_toArray, List.set_cons_succ, List.set_cons_zero, List.getD_cons_succ, List.getD_cons_zero, Nat.reduceAdd, Nat.zero_add] at p9_12 p9_14 hK9 ⊢
              simp only [p9_12, p9_14] at hK9 ⊢
              clear p9_12 p9_14
              go_simp
              exact hK9 _ (Grow.refl _)
            case s3_16 =>
              intro u9 w9 hT9 hV9 K9 hK9
              have p9_15 := hV9 15 rfl
              clear hV9
              simp only [putAll, Act.put, List.setIfInBounds_toArray, List.set_cons_succ, List.set_cons_zero, List.getD_cons_succ, List.getD_cons_zero, Nat.reduceAdd, Nat.zero_add] at p9_15 hK9 ⊢
              simp only [p9_15] at hK9 ⊢
              clear p9_15
              go_simp
              exact hK9 _ (Grow.refl _)
            case s3_17 =>
              intro u9 w9 hT9 hV9 K9 hK9
              have p9_16 := hV9 16 rfl
              clear hV9
              simp only [putAll, Act.put, List.setIfInBounds_toArray, List.set_cons_succ, List.set_cons_zero, List.getD_cons_succ, List.getD_cons_zero, Nat.reduceAdd, Nat.zero_add] at p9_16 hK9 ⊢
              simp only [p9_16] at hK9 ⊢
              clear p9_16
              go_simp
              exact hK9 _ (Grow.refl _)
            case s3_18 =>
              intro u9 w9 hT9 hV9 K9 hK9
              have p9_16 := hV9 16 rfl
              clear hV9
              simp only [putAll, Act.put, List.setIfInBounds_toArray, List.set_cons_succ, List.set_cons_zero, List.getD_cons_succ, List.getD_cons_zero, Nat.reduceAdd, Nat.zero_add] at p9_16 hK9 ⊢
              simp only [p9_16] at hK9 ⊢
              clear p9_16
              go_simp
              exact hK9 _ (Grow.refl _)
            case s3_19 =>
              intro u9 w9 hT9 hV9 K9 hK9
              have p9_16 := hV9 16 rfl
              have p9_18 := hV9 18 rfl
              clear hV9
              simp only [putAll, Act.put, List.setIfInBounds_toArray, List.set_cons_succ, List.set_cons_zero, List.getD_cons_succ, List.getD_cons_zero, Nat.reduceAdd, Nat.zero_add] at p9_16 p9_18 hK9 ⊢
              simp only [p9_16, p9_18] at hK9 ⊢
              clear p9_16 p9_18
              go_simp
              exact hK9 _ (Grow.refl _)
            case s3_20 =>
              intro u9 w9 hT9 hV9 K9 hK9
              have p9_16 := hV9 16 rfl
              have p9_17 := hV9 17 rfl
              have p9_19 := hV9 19 rfl
              clear hV9
              simp only [putAll, Act.put, List.setIfInBounds_toArray, List.set_cons_succ, List.set_cons_zero, List.getD_cons_succ, List.getD_cons_zero, Nat.reduceAdd, Nat.zero_add] at p9_16 p9_17 p9_19 hK9 ⊢
              simp only [p9_16, p9_17, p9_19] at hK9 ⊢
              clear p9_16 p9_17 p9_19
              go_simp
              exact hK9 _ (Grow.refl _)
            case s3_21 =>
              intro u9 w9 hT9 hV9 K9 hK9
              have p9_16 := hV9 16 rfl
              have p9_20 := hV9 20 rfl
              clear hV9
              simp only [putAll, Act.put, List.setIfInBounds_toArray, List.set_cons_succ, List.set_cons_zero, List.getD_cons_succ, List.getD_cons_zero, Nat.reduceAdd, Nat.zero_add] at p9_16 p9_20 hK9 ⊢
              simp only [p9_16, p9_20] at hK9 ⊢
              clear p9_16 p9_20
              go_simp
              exact hK9 _ (Grow.refl _)
            case s3_22 =>
              intro u9 w9 hT9 hV9 K9 hK9
              have p9_21 := hV9 21 rfl
              clear hV9
              simp only [putAll, Act.put, List.setIfInBounds_toArray, List.set_cons_succ, List.set_cons_zero, List.getD_cons_succ, List.getD_cons_zero, Nat.reduceAdd, Nat.zero_add] at p9_21 hK9 ⊢
              simp only [p9_21] at hK9 ⊢
              clear p9_21
              go_simp
              exact hK9 _ (Grow.refl _)
            case s3_23 =>
              intro u9 w9 hT9 hV9 K9 hK9
              have p9_22 := hV9 22 rfl
              clear hV9
              simp only [putAll, Act.put, List.setIfInBounds_toArray, List.set_cons_succ, List.set_cons_zero, List.getD_cons_succ, List.getD_cons_zero, Nat.reduceAdd, Nat.zero_add] at p9_22 hK9 ⊢
              simp only [p9_22] at hK9 ⊢
              clear p9_22
              go_simp
              exact hK9 _ (Grow.refl _)
            case s3_24 =>
              intro u9 w9 hT9 hV9 K9 hK9
              have p9_22 := hV9 22 rfl
              clear hV9
              simp only [putAll, Act.put, List.setIfInBounds_toArray, List.set_cons_succ, List.set_cons_zero, List.getD_cons_succ, List.getD_cons_zero, Nat.reduceAdd, Nat.zero_add] at p9_22 hK9 ⊢
              simp only [p9_22] at hK9 ⊢
              clear p9_22
              go_simp
              exact hK9 _ (Grow.refl _)
            case s3_25 =>
              intro u9 w9 hT9 hV9 K9 hK9
              have p9_22 := hV9 22 rfl
              have p9_23 := hV9 23 rfl
              have p9_24 := hV9 24 rfl
              clear hV9
              simp only [putAll, Act.put, List.setIfInBounds_toArray, List.set_cons_succ, List.set_cons_zero, List.getD_cons_succ, List.getD_cons_zero, Nat.reduceAdd, Nat.zero_add] at p9_22 p9_23 p9_24 hK9 ⊢
              simp only [p9_22, p9_23, p9_24] at hK9 ⊢
              clear p9_22 p9_23 p9_24
              go_simp
              exact hK9 _ (Grow.refl _)
            case s3_26 =>
              intro u9 w9 hT9 hV9 K9 hK9
              have p9_22 := hV9 22 rfl
              have p9_25 := hV9 25 rfl
              clear hV9
              simp only [putAll, Act.put, List.setIfInBounds_toArray, List.set_cons_succ, List.set_cons_zero, List.getD_cons_succ, List.getD_cons_zero, Nat.reduceAdd, Nat.zero_add] at p9_22 p9_25 hK9 ⊢
              simp only [p9_22, p9_25] at hK9 ⊢
              clear p9_22 p9_25
              go_simp
              exact hK9 _ (Grow.refl _)
            case s3_27 =>
              intro u9 w9 hT9 hV9 K9 hK9
              have p9_26 := hV9 26 rfl
              clear hV9
              simp only [putAll, Act.put, List.setIfInBounds_toArray, List.set_cons_succ, List.set_cons_zero, List.getD_cons_succ, List.getD_cons_zero, Nat.reduceAdd, Nat.zero_add] at p9_26 hK9 ⊢
              simp only [p9_26] at hK9 ⊢
              clear p9_26
              go_simp
              exact hK9 _ (Grow.refl _)
            case s3_28 =>
              intro u9 w9 hT9 hV9 K9 hK9
              have p9_27 := hV9 27 rfl
              clear hV9
              simp only [putAll, Act.put, List.setIfInBounds_toArray, List.set_cons_succ, List.set_cons_zero, List.getD_cons_succ, List.getD_cons_zero, Nat.reduceAdd, Nat.zero_add] at p9_27 hK9 ⊢
              simp only [p9_27] at hK9 ⊢
              clear p9_27
              go_simp
              exact hK9 _ (Grow.refl _)
            case s3_29 =>
              intro u9 w9 hT9 hV9 K9 hK9
              have p9_27 := hV9 27 rfl
              clear hV9
              simp only [putAll, Act.put, List.setIfInBounds_toArray, List.set_cons_succ, List.set_cons_zero, List.getD_cons_succ, List.getD_cons_zero, Nat.reduceAdd, Nat.zero_add] at p9_27 hK9 ⊢
              simp only [p9_27] at hK9 ⊢
              clear p9_27
              go_simp
              exact hK9 _ (Grow.refl _)
            case s3_30 =>
              intro u9 w9 hT9 hV9 K9 hK9
              have p9_27 := hV9 27 rfl
              have p9_28 := hV9 28 rfl
              have p9_29 := hV9 29 rfl
              clear hV9
              simp only [putAll, Act.put, List.setIfInBounds_toArray, List.set_cons_succ, List.set_cons_zero, List.getD_cons_succ, List.getD_cons_zero, Nat.reduceAdd, Nat.zero_add] at p9_27 p9_28 p9_29 hK9 ⊢
              simp only [p9_27, p9_28, p9_29] at hK9 ⊢
              clear p9_27 p9_28 p9_29
              go_simp
              exact hK9 _ (Grow.refl _)
            case s3_31 =>
              intro u9 w9 hT9 hV9 K9 hK9
              have p9_27 := hV9 27 rfl
              have p9_30 := hV9 30 rfl
              clear hV9
              simp only [putAll, Act.put, List.setIfInBounds_toArray, List.set_cons_succ, List.set_cons_zero, List.getD_cons_succ, List.getD_cons_zero, Nat.reduceAdd, Nat.zero_add] at p9_27 p9_30 hK9 ⊢
              simp only [p9_27, p9_30] at hK9 ⊢
              clear p9_27 p9_30
              go_simp
              exact hK9 _ (Grow.refl _)
            case s3_32 =>
              intro u9 w9 hT9 hV9 K9 hK9
              have p9_27 := hV9 27 rfl
              clear hV9
              simp only [putAll, Act.put, List.setIfInBounds_toArray, List.set_cons_succ, List.set_cons_zero, List.getD_cons_succ, List.getD_cons_zero, Nat.reduceAdd, Nat.zero_add] at p9_27 hK9 ⊢
              simp only [p9_27] at hK9 ⊢
              clear p9_27
              go_simp
              exact hK9 _ (Grow.refl _)
            case s3_33 =>
              intro u9 w9 hT9 hV9 K9 hK9
              have p9_27 := hV9 27 rfl
              clear hV9
              simp only [putAll, Act.put, List.setIfInBounds_toArray, List.set_cons_succ, List.set_cons_zero, List.getD_cons_succ, List.getD_cons_zero, Nat.reduceAdd, Nat.zero_add] at p9_27 hK9 ⊢
              simp only [p9_27] at hK9 ⊢
              clear p9_27
              go_simp
              exact hK9 _ (Grow.refl _)
            case s3_34 =>
              intro u9 w9 hT9 hV9 K9 hK9
              have p9_27 := hV9 27 rfl
              have p9_32 := hV9 32 rfl
              have p9_33 := hV9 33 rfl
              clear hV9
              simp only [putAll, Act.put, List.setIfInBounds_toArray, List.set_cons_succ, List.set_cons_zero, List.getD_cons_succ, List.getD_cons_zero, Nat.reduceAdd, Nat.zero_add] at p9_27 p9_32 p9_33 hK9 ⊢
              simp only [p9_27, p9_32, p9_33] at hK9 ⊢
              clear p9_27 p9_32 p9_33
              go_simp
              exact hK9 _ (Grow.refl _)
            case s3_35 =>
              intro u9 w9 hT9 hV9 K9 hK9
              have p9_27 := hV9 27 rfl
              have p9_34 := hV9 34 rfl
              clear hV9
              simp only [putAll, Act.put, List.setIfInBounds_toArray, List.set_cons_succ, List.set_cons_zero, List.getD_cons_succ, List.getD_cons_zero, Nat.reduceAdd, Nat.zero_add] at p9_27 p9_34 hK9 ⊢
              simp only [p9_27, p9_34] at hK9 ⊢
              clear p9_27 p9_34
              go_simp
              exact hK9 _ (Grow.refl _)
            case s3_36 =>
              intro u9 w9 hT9 hV9 K9 hK9
              have p9_27 := hV9 27 rfl
              have p9_31 := hV9 31 rfl
              have p9_35 := hV9 35 rfl
              clear hV9
              simp only [putAll, Act.put, List.setIfInBounds_toArray, List.set_cons_succ, List.set_cons_zero, List.getD_cons_succ, List.getD_cons_zero, Nat.reduceAdd, Nat.zero_add] at p9_27 p9_31 p9_35 hK9 ⊢
              simp only [p9_27, p9_31, p9_35] at hK9 ⊢
              clear p9_27 p9_31 p9_35
              go_simp
              exact hK9 _ (Grow.refl _)
            case s3_37 =>
              intro u9 w9 hT9 hV9 K9 hK9
              have p9_27 := hV9 27 rfl
              have p9_36 := hV9 36 rfl
              clear hV9
              simp only [putAll, Act.put, List.setIfInBounds_toArray, List.set_cons_succ, List.set_cons_zero, List.getD_cons_succ, List.getD_cons_zero, Nat.reduceAdd, Nat.zero_add] at p9_27 p9_36 hK9 ⊢
              simp only [p9_27, p9_36] at hK9 ⊢
              clear p9_27 p9_36
              go_simp
              exact hK9 _ (Grow.refl _)
            case s3_38 =>
              intro u9 w9 hT9 hV9 K9 hK9
              have p9_37 := hV9 37 rfl
              clear hV9
              simp only [putAll, Act.put, List.setIfInBounds_toArray, List.set_cons_succ, List.set_cons_zero, List.getD_cons_succ, List.getD_cons_zero, Nat.reduceAdd, Nat.zero_add] at p9_37 hK9 ⊢
              simp only [p9_37] at hK9 ⊢
              clear p9_37
              go_simp
              exact hK9 _ (Grow.refl _)
            intro w9 hb9
            simp only [putAll, Act.put, List.setIfInBounds_toArray, List.set_cons_succ, List.set_cons_zero, List.getD_cons_succ, List.getD_cons_zero, Nat.reduceAdd, Nat.zero_add]
            go_wp2
            go_ret
            exact ⟨hb.trans (hb9.mono hb.size), false, rfl, by simp only [Bool.false_eq_true, false_iff]; exact HNO.out (fun h => by have := h.2.2; omega)⟩
        · have hd : decide (0 ≤ j) = false := decide_eq_false r3
          go_wp2
          refine wp_reg_vals [some 14, some 15, some 16, some 17, some 18, some 19, some 20, some 21, some 22, some 23, some 24, some 25, some 26, some 27, some 28, some 29, some 30, some 31, some 32, some 33, some 34, some 35, some 36, some 37, some 38, some 39, some 40, some 41, some 42, some 43, some 44, some 45, some 46, some 47, some 48, some 49, some 50, some 51, some 6] [?v4_0, ?v4_1, ?v4_2, ?v4_3, ?v4_4, ?v4_5, ?v4_6, ?v4_7, ?v4_8, ?v4_9, ?v4_10, ?v4_11, ?v4_12, ?v4_13, ?v4_14, ?v4_15, ?v4_16, ?v4_17, ?v4_18, ?v4_19, ?v4_20, ?v4_21, ?v4_22, ?v4_23, ?v4_24, ?v4_25, ?v4_26, ?v4_27, ?v4_28, ?v4_29, ?v4_30, ?v4_31, ?v4_32, ?v4_33, ?v4_34, ?v4_35, ?v4_36, ?v4_37, ?v4_38] rfl (by kernel_rfl) rfl rfl ⟨?s4_0, ?s4_1, ?s4_2, ?s4_3, ?s4_4, ?s4_5, ?s4_6, ?s4_7, ?s4_8, ?s4_9, ?s4_10, ?s4_11, ?s4_12, ?s4_13, ?s4_14, ?s4_15, ?s4_16, ?s4_17, ?s4_18, ?s4_19, ?s4_20, ?s4_21, ?s4_22, ?s4_23, ?s4_24, ?s4_25, ?s4_26, ?s4_27, ?s4_28, ?s4_29, ?s4_30, ?s4_31, ?s4_32, ?s4_33, ?s4_34, ?s4_35, ?s4_36, ?s4_37, ?s4_38, trivial⟩ ?p4
          case s4_0 =>
            intro u9 w9 hT9 hV9 K9 hK9
            clear hV9
            simp only [putAll, Act.put, List.setIfInBounds_toArray, List.set_cons_succ, List.set_cons_zero, List.getD_cons_succ, List.getD_cons_zero, Nat.reduceAdd, Nat.zero_add] at hK9 ⊢
            go_simp
            exact hK9 _ (Grow.refl _)
          case s4_1 =>
            intro u9 w9 hT9 hV9 K9 hK9
            have p9_0 := hV9 0 rfl
            clear hV9
            simp only [putAll, Act.put, List.setIfInBounds_toArray, List.set_cons_succ, List.set_cons_zero, List.getD_cons_succ, List.getD_cons_zero, Nat.reduceAdd, Nat.zero_add] at p9_0 hK9 ⊢
            simp only [p9_0] at hK9 ⊢
            clear p9_0
            go_simp
            exact hK9 _ (Grow.refl _)
          case s4_2 =>
            intro u9 w9 hT9 hV9 K9 hK9
            have p9_1 := hV9 1 rfl
            clear hV9
            simp only [putAll, Act.put, List.setIfInBounds_toArray, List.set_cons_succ, List.set_cons_zero, List.getD_cons_succ, List.getD_cons_zero, Nat.reduceAdd, Nat.zero_add] at p9_1 hK9 ⊢
            simp only [p9_1] at hK9 ⊢
            clear p9_1
            go_simp
            exact hK9 _ (Grow.refl _)
          case s4_3 =>
            intro u9 w9 hT9 hV9 K9 hK9
            have p9_2 := hV9 2 rfl
            clear hV9
            simp only [putAll, Act.put, List.setIfInBounds_toArray, List.set_cons_succ, List.set_cons_zero, List.getD_cons_succ, List.getD_cons_zero, Nat.reduceAdd, Nat.zero_add] at p9_2 hK9 ⊢
            simp only [p9_2] at hK9 ⊢
            clear p9_2
            go_simp
            exact hK9 _ (Grow.refl _)
          case s4_4 =>
            intro u9 w9 hT9 hV9 K9 hK9
            have p9_2 := hV9 2 rfl
            have p9_3 := hV9 3 rfl
            clear hV9
            simp only [putAll, Act.put, List.setIfInBounds_toArray, List.set_cons_succ, List.set_cons_zero, List.getD_cons_succ, List.getD_cons_zero, Nat.reduceAdd, Nat.zero_add] at p9_2 p9_3 hK9 ⊢
            simp only [p9_2, p9_3] at hK9 ⊢
            clear p9_2 p9_3
            go_simp
            exact hK9 _ (Grow.refl _)
          case s4_5 =>
            intro u9 w9 hT9 hV9 K9 hK9
            have p9_2 := hV9 2 rfl
            have p9_4 := hV9 4 rfl
            clear hV9
            simp only [putAll, Act.put, List.setIfInBounds_toArray, List.set_cons_succ, List.set_cons_zero, List.getD_cons_succ, List.getD_cons_zero, Nat.reduceAdd, Nat.zero_add] at p9_2 p9_4 hK9 ⊢
            simp only [p9_2, p9_4] at hK9 ⊢
            clear p9_2 p9_4
            go_simp
            exact hK9 _ (Grow.refl _)
          case s4_6 =>
            intro u9 w9 hT9 hV9 K9 hK9
            have p9_5 := hV9 5 rfl
            clear hV9
            simp only [putAll, Act.put, List.setIfInBounds_toArray, List.set_cons_succ, List.set_cons_zero, List.getD_cons_succ, List.getD_cons_zero, Nat.reduceAdd, Nat.zero_add] at p9_5 hK9 ⊢
            simp only [p9_5] at hK9 ⊢
            clear p9_5
            go_simp
            exact hK9 _ (Grow.refl _)
          case s4_7 =>
            intro u9 w9 hT9 hV9 K9 hK9
            have p9_6 := hV9 6 rfl
            clear hV9
            simp only [putAll, Act.put, List.setIfInBounds_toArray, List.set_cons_succ, List.set_cons_zero, List.getD_cons_succ, List.getD_cons_zero, Nat.reduceAdd, Nat.zero_add] at p9_6 hK9 ⊢
            simp only [p9_6] at hK9 ⊢
            clear p9_6
            go_simp
            exact hK9 _ (Grow.refl _)
          case s4_8 =>
            intro u9 w9 hT9 hV9 K9 hK9
            have p9_6 := hV9 6 rfl
            clear hV9
            simp only [putAll, Act.put, List.setIfInBounds_toArray, List.set_cons_succ, List.set_cons_zero, List.getD_cons_succ, List.getD_cons_zero, Nat.reduceAdd, Nat.zero_add] at p9_6 hK9 ⊢
            simp only [p9_6] at hK9 ⊢
            clear p9_6
            go_simp
            exact hK9 _ (Grow.refl _)
          case s4_9 =>
            intro u9 w9 hT9 hV9 K9 hK9
            have p9_6 := hV9 6 rfl
            have p9_8 := hV9 8 rfl
            clear hV9
            simp only [putAll, Act.put, List.setIfInBounds_toArray, List.set_cons_succ, List.set_cons_zero, List.getD_cons_succ, List.getD_cons_zero, Nat.reduceAdd, Nat.zero_add] at p9_6 p9_8 hK9 ⊢
            simp only [p9_6, p9_8] at hK9 ⊢
            clear p9_6 p9_8
            go_simp
            exact hK9 _ (Grow.refl _)
          case s4_10 =>
            intro u9 w9 hT9 hV9 K9 hK9
            have p9_6 := hV9 6 rfl
            have p9_7 := hV9 7 rfl
            have p9_9 := hV9 9 rfl
            clear hV9
            simp only [putAll, Act.put, List.setIfInBounds_toArray, List.set_cons_succ, List.set_cons_zero, List.getD_cons_succ, List.getD_cons_zero, Nat.reduceAdd, Nat.zero_add] at p9_6 p9_7 p9_9 hK9 ⊢
            simp only [p9_6, p9_7, p9_9] at hK9 ⊢
            clear p9_6 p9_7 p9_9
            go_simp
            exact hK9 _ (Grow.refl _)
          case s4_11 =>
            intro u9 w9 hT9 hV9 K9 hK9
            have p9_6 := hV9 6 rfl
            have p9_10 := hV9 10 rfl
            clear hV9
            simp only [putAll, Act.put, List.setIfInBounds_toArray, List.set_cons_succ, List.set_cons_zero, List.getD_cons_succ, List.getD_cons_zero, Nat.reduceAdd, Nat.zero_add] at p9_6 p9_10 hK9 ⊢
            simp only [p9_6, p9_10] at hK9 ⊢
            clear p9_6 p9_10
            go_simp
            exact hK9 _ (Grow.refl _)
          case s4_12 =>
            intro u9 w9 hT9 hV9 K9 hK9
            have p9_11 := hV9 11 rfl
            clear hV9
            simp only [putAll, Act.put, List.setIfInBounds_toArray, List.set_cons_succ, List.set_cons_zero, List.getD_cons_succ, List.getD_cons_zero, Nat.reduceAdd, Nat.zero_add] at p9_11 hK9 ⊢
            simp only [p9_11] at hK9 ⊢
            clear p9_11
            go_simp
            exact hK9 _ (Grow.refl _)
          case s4_13 =>
            intro u9 w9 hT9 hV9 K9 hK9
            have p9_12 := hV9 12 rfl
            clear hV9
            simp only [putAll, Act.put, List.setIfInBounds_toArray, List.set_cons_succ, List.set_cons_zero, List.getD_cons_succ, List.getD_cons_zero, Nat.reduceAdd, Nat.zero_add] at p9_12 hK9 ⊢
            simp only [p9_12] at hK9 ⊢
            clear p9_12
            go_simp
            exact hK9 _ (Grow.refl _)
          case s4_14 =>
            intro u9 w9 hT9 hV9 K9 hK9
            have p9_12 := hV9 12 rfl
            have p9_13 := hV9 13 rfl
            clear hV9
            simp only [putAll, Act.put, List.setIfInBounds_toArray, List.set_cons_succ, List.set_cons_zero, List.getD_cons_succ, List.getD_cons_zero, Nat.reduceAdd, Nat.zero_add] at p9_12 p9_13 hK9 ⊢
            simp only [p9_12, p9_13] at hK9 ⊢
            clear p9_12 p9_13
            go_simp
            exact hK9 _ (Grow.refl _)
          case s4_15 =>
            intro u9 w9 hT9 hV9 K9 hK9
            have p9_12 := hV9 12 rfl
            have p9_14 := hV9 14 rfl
            clear hV9
            simp only [putAll, Act.put, List.setIfInBounds_toArray, List.set_cons_succ, List.set_cons_zero, List.getD_cons_succ, List.getD_cons_zero, Nat.reduceAdd, Nat.zero_add] at p9_12 p9_14 hK9 ⊢
            simp only [p9_12, p9_14] at hK9 ⊢
            clear p9_12 p9_14
            go_simp
            exact hK9 _ (Grow.refl _)
          case s4_16 =>
            intro u9 w9 hT9 hV9 K9 hK9
            have p9_15 := hV9 15 rfl
            clear hV9
            simp only [putAll, Act.put, List.setIfInBounds_toArray, List.set_cons_succ, List.set_cons_zero, List.getD_cons_succ, List.getD_cons_zero, Nat.reduceAdd, Nat.zero_add] at p9_15 hK9 ⊢
            simp only [p9_15] at hK9 ⊢
            clear p9_15
            go_simp
            exact hK9 _ (Grow.refl _)
          case s4_17 =>
            intro u9 w9 hT9 hV9 K9 hK9
            have p9_16 := hV9 16 rfl
            clear hV9
            simp only [putAll, Act.put, List.setIfInBounds_toArray, List.set_cons_succ, List.set_cons_zero, List.getD_cons_succ, List.getD_cons_zero, Nat.reduceAdd, Nat.zero_add] at p9_16 hK9 ⊢
            simp only [p9_16] at hK9 ⊢
            clear p9_16
            go_simp
            exact hK9 _ (Grow.refl _)
          case s4_18 =>
            intro u9 w9 hT9 hV9 K9 hK9
            have p9_16 := hV9 16 rfl
            clear hV9
            simp only [putAll, Act.put, List.setIfInBounds_toArray, List.set_cons_succ, List.set_cons_zero, List.getD_cons_succ, List.getD_cons_zero, Nat.reduceAdd, Nat.zero_add] at p9_16 hK9 ⊢
            simp only [p9_16] at hK9 ⊢
            clear p9_16
            go_simp
            exact hK9 _ (Grow.refl _)
          case s4_19 =>
            intro u9 w9 hT9 hV9 K9 hK9
            have p9_16 := hV9 16 rfl
            have p9_18 := hV9 18 rfl
            clear hV9
            simp only [putAll, Act.put, List.setIfInBounds_toArray, List.set_cons_succ, List.set_cons_zero, List.getD_cons_succ, List.getD_cons_zero, Nat.reduceAdd, Nat.zero_add] at p9_16 p9_18 hK9 ⊢
            simp only [p9_16, p9_18] at hK9 ⊢
            clear p9_16 p9_18
            go_simp
            exact hK9 _ (Grow.refl _)
          case s4_20 =>
            intro u9 w9 hT9 hV9 K9 hK9
            have p9_16 := hV9 16 rfl
            have p9_17 := hV9 17 rfl
            have p9_19 := hV9 19 rfl
            clear hV9
            simp only [putAll, Act.put, List.setIfInBounds_toArray, List.set_cons_succ, List.set_cons_zero, List.getD_cons_succ, List.getD_cons_zero, Nat.reduceAdd, Nat.zero_add] at p9_16 p9_17 p9_19 hK9 ⊢
            simp only [p9_16, p9_17, p9_19] at hK9 ⊢
            clear p9_16 p9_17 p9_19
            go_simp
            exact hK9 _ (Grow.refl _)
          case s4_21 =>
            intro u9 w9 hT9 hV9 K9 hK9
            have p9_16 := hV9 16 rfl
            have p9_20 := hV9 20 rfl
            clear hV9
            simp only [putAll, Act.put, List.setIfInBounds_toArray, List.set_cons_succ, List.set_cons_zero, List.getD_cons_succ, List.getD_cons_zero, Nat.reduceAdd, Nat.zero_add] at p9_16 p9_20 hK9 ⊢
            simp only [p9_16, p9_20] at hK9 ⊢
            clear p9_16 p9_20
            go_simp
            exact hK9 _ (Grow.refl _)
          case s4_22 =>
            intro u9 w9 hT9 hV9 K9 hK9
            have p9_21 := hV9 21 rfl
            clear hV9
            simp only [putAll, Act.put, List.setIfInBounds_toArray, List.set_cons_succ, List.set_cons_zero, List.getD_cons_succ, List.getD_cons_zero, Nat.reduceAdd, Nat.zero_add] at p9_21 hK9 ⊢
            simp only [p9_21] at hK9 ⊢
            clear p9_21
            go_simp
            exact hK9 _ (Grow.refl _)
          case s4_23 =>
            intro u9 w9 hT9 hV9 K9 hK9
            have p9_22 := hV9 22 rfl
            clear hV9
            simp only [putAll, Act.put, List.setIfInBounds_toArray, List.set_cons_succ, List.set_cons_zero, List.getD_cons_succ, List.getD_cons_zero, Nat.reduceAdd, Nat.zero_add] at p9_22 hK9 ⊢
            simp only [p9_22] at hK9 ⊢
            clear p9_22
            go_simp
            exact hK9 _ (Grow.refl _)
          case s4_24 =>
            intro u9 w9 hT9 hV9 K9 hK9
            have p9_22 := hV9 22 rfl
            clear hV9
            simp only [putAll, Act.put, List.setIfInBounds_toArray, List.set_cons_succ, List.set_cons_zero, List.getD_cons_succ, List.getD_cons_zero, Nat.reduceAdd, Nat.zero_add] at p9_22 hK9 ⊢
            simp only [p9_22] at hK9 ⊢
            clear p9_22
            go_simp
            exact hK9 _ (Grow.refl _)
          case s4_25 =>
            intro u9 w9 hT9 hV9 K9 hK9
            have p9_22 := hV9 22 rfl
            have p9_23 := hV9 23 rfl
            have p9_24 := hV9 24 rfl
            clear hV9
            simp only [putAll, Act.put, List.setIfInBounds_toArray, List.set_cons_succ, List.set_cons_zero, List.getD_cons_succ, List.getD_cons_zero, Nat.reduceAdd, Nat.zero_add] at p9_22 p9_23 p9_24 hK9 ⊢
            simp only [p9_22, p9_23, p9_24] at hK9 ⊢
            clear p9_22 p9_23 p9_24
            go_simp
            exact hK9 _ (Grow.refl _)
          case s4_26 =>
            intro u9 w9 hT9 hV9 K9 hK9
            have p9_22 := hV9 22 rfl
            have p9_25 := hV9 25 rfl
            clear hV9
            simp only [putAll, Act.put, List.setIfInBounds_toArray, List.set_cons_succ, List.set_cons_zero, List.getD_cons_succ, List.getD_cons_zero, Nat.reduceAdd, Nat.zero_add] at p9_22 p9_25 hK9 ⊢
            simp only [p9_22, p9_25] at hK9 ⊢
            clear p9_22 p9_25
            go_simp
            exact hK9 _ (Grow.refl _)
          case s4_27 =>
            intro u9 w9 hT9 hV9 K9 hK9
            have p9_26 := hV9 26 rfl
            clear hV9
            simp only [putAll, Act.put, List.setIfInBounds_toArray, List.set_cons_succ, List.set_cons_zero, List.getD_cons_succ, List.getD_cons_zero, Nat.reduceAdd, Nat.zero_add] at p9_26 hK9 ⊢
            simp only [p9_26] at hK9 ⊢
            clear p9_26
            go_simp
            exact hK9 _ (Grow.refl _)
          case s4_28 =>
            intro u9 w9 hT9 hV9 K9 hK9
            have p9_27 := hV9 27 rfl
            clear hV9
            simp only [putAll, Act.put, List.setIfInBounds_toArray, List.set_cons_succ, List.set_cons_zero, List.getD_cons_succ, List.getD_cons_zero, Nat.reduceAdd, Nat.zero_add] at p9_27 hK9 ⊢
            simp only [p9_27] at hK9 ⊢
            clear p9_27
            go_simp
            exact hK9 _ (Grow.refl _)
          case s4_29 =>
            intro u9 w9 hT9 hV9 K9 hK9
            have p9_27 := hV9 27 rfl
            clear hV9
            simp only [putAll, Act.put, List.setIfInBounds_toArray, List.set_cons_succ, List.set_cons_zero, List.getD_cons_succ, List.getD_cons_zero, Nat.reduceAdd, Nat.zero_add] at p9_27 hK9 ⊢
            simp only [p9_27] at hK9 ⊢
            clear p9_27
            go_simp
            exact hK9 _ (Grow.refl _)
          case s4_30 =>
            intro u9 w9 hT9 hV9 K9 hK9
            have p9_27 := hV9 27 rfl
            have p9_28 := hV9 28 rfl
            have p9_29 := hV9 29 rfl
            clear hV9
            simp only [putAll, Act.put, List.setIfInBounds_toArray, List.set_cons_succ, List.set_cons_zero, List.getD_cons_succ, List.getD_cons_zero, Nat.reduceAdd, Nat.zero_add] at p9_27 p9_28 p9_29 hK9 ⊢
            simp only [p9_27, p9_28, p9_29] at hK9 ⊢
            clear p9_27 p9_28 p9_29
            go_simp
            exact hK9 _ (Grow.refl _)
          case s4_31 =>
            intro u9 w9 hT9 hV9 K9 hK9
            have p9_27 := hV9 27 rfl
            have p9_30 := hV9 30 rfl
            clear hV9
            simp only [putAll, Act.put, List.setIfInBounds_toArray, List.set_cons_succ, List.set_cons_zero, List.getD_cons_succ, List.getD_cons_zero, Nat.reduceAdd, Nat.zero_add] at p9_27 p9_30 hK9 ⊢
            simp only [p9_27, p9_30] at hK9 ⊢
            clear p9_27 p9_30
            go_simp
            exact hK9 _ (Grow.refl _)
          case s4_32 =>
            intro u9 w9 hT9 hV9 K9 hK9
            have p9_27 := hV9 27 rfl
            clear hV9
            simp only [putAll, Act.put, List.setIfInBounds_toArray, List.set_cons_succ, List.set_cons_zero, List.getD_cons_succ, List.getD_cons_zero, Nat.reduceAdd, Nat.zero_add] at p9_27 hK9 ⊢
            simp only [p9_27] at hK9 ⊢
            clear p9_27
            go_simp
            exact hK9 _ (Grow.refl _)
          case s4_33 =>
            intro u9 w9 hT9 hV9 K9 hK9
            have p9_27 := hV9 27 rfl
            clear hV9
            simp only [putAll, Act.put, List.setIfInBounds_toArray, List.set_cons_succ, List.set_cons_zero, List.getD_cons_succ, List.getD_cons_zero, Nat.reduceAdd, Nat.zero_add] at p9_27 hK9 ⊢
            simp only [p9_27] at hK9 ⊢
            clear p9_27
            go_simp
            exact hK9 _ (Grow.refl _)
          case s4_34 =>
            intro u9 w9 hT9 hV9 K9 hK9
            have p9_27 := hV9 27 rfl
            have p9_32 := hV9 32 rfl
            have p9_33 := hV9 33 rfl
            clear hV9
            simp only [putAll, Act.put, List.setIfInBounds_toArray, List.set_cons_succ, List.set_cons_zero, List.getD_cons_succ, List.getD_cons_zero, Nat.reduceAdd, Nat.zero_add] at p9_27 p9_32 p9_33 hK9 ⊢
            simp only [p9_27, p9_32, p9_33] at hK9 ⊢
            clear p9_27 p9_32 p9_33
            go_simp
            exact hK9 _ (Grow.refl _)
          case s4_35 =>
            intro u9 w9 hT9 hV9 K9 hK9
            have p9_27 := hV9 27 rfl
            have p9_34 := hV9 34 rfl
            clear hV9
            simp only [putAll, Act.put, List.setIfInBounds_toArray, List.set_cons_succ, List.set_cons_zero, List.getD_cons_succ, List.getD_cons_zero, Nat.reduceAdd, Nat.zero_add] at p9_27 p9_34 hK9 ⊢
            simp only [p9_27, p9_34] at hK9 ⊢
            clear p9_27 p9_34
            go_simp
            exact hK9 _ (Grow.refl _)
          case s4_36 =>
            intro u9 w9 hT9 hV9 K9 hK9
            have p9_27 := hV9 27 rfl
            have p9_31 := hV9 31 rfl
            have p9_35 := hV9 35 rfl
            clear hV9
            simp only [putAll, Act.put, List.setIfInBounds_toArray, List.set_cons_succ, List.set_cons_zero, List.getD_cons_succ, List.getD_cons_zero, Nat.reduceAdd, Nat.zero_add] at p9_27 p9_31 p9_35 hK9 ⊢
            simp only [p9_27, p9_31, p9_35] at hK9 ⊢
            clear p9_27 p9_31 p9_35
            go_simp
            exact hK9 _ (Grow.refl _)
          case s4_37 =>
            intro u9 w9 hT9 hV9 K9 hK9
            have p9_27 := hV9 27 rfl
            have p9_36 := hV9 36 rfl
            clear hV9
            simp only [putAll, Act.put, List.setIfInBounds_toArray, List.set_cons_succ, List.set_cons_zero, List.getD_cons_succ, List.getD_cons_zero, Nat.reduceAdd, Nat.zero_add] at p9_27 p9_36 hK9 ⊢
            simp only [p9_27, p9_36] at hK9 ⊢
            clear p9_27 p9_36
            go_simp
            exact hK9 _ (Grow.refl _)
          case s4_38 =>
            intro u9 w9 hT9 hV9 K9 hK9
            have p9_37 := hV9 37 rfl
            clear hV9
            simp only [putAll, Act.put, List.setIfInBounds_toArray, List.set_cons_succ, List.set_cons_zero, List.getD_cons_succ, List.getD_cons_zero, Nat.reduceAdd, Nat.zero_add] at p9_37 hK9 ⊢
            simp only [p9_37] at hK9 ⊢
            clear p9_37
            go_simp
            exact hK9 _ (Grow.refl _)
          intro w9 hb9
          simp only [putAll, Act.put, List.setIfInBounds_toArray, List.set_cons_succ, List.set_cons_zero, List.getD_cons_succ, List.getD_cons_zero, Nat.reduceAdd, Nat.zero_add]
          go_wp2
          go_ret
          exact ⟨hb.trans (hb9.mono hb.size), false, rfl, by simp only [Bool.false_eq_true, false_iff]; exact HNO.out (fun h => by have := h.2.1; omega)⟩
      · have hd : decide (i < (ps.length : Int)) = false := decide_eq_false r2
        go_wp2
        refine wp_reg_vals [some 14, some 15, some 16, some 17, some 18, some 19, some 20, some 21, some 22, some 23, some 24, some 25, some 26, some 27, some 28, some 29, some 30, some 31, some 32, some 33, some 34, some 35, some 36, some 37, some 38, some 39, some 40, some 41, some 42, some 43, some 44, some 45, some 46, some 47, some 48, some 49, some 50, some 51, some 6] [?v5_0, ?v5_1, ?v5_2, ?v5_3, ?v5_4, ?v5_5, ?v5_6, ?v5_7, ?v5_8, ?v5_9, ?v5_10, ?v5_11, ?v5_12, ?v5_13, ?v5_14, ?v5_15, ?v5_16, ?v5_17, ?v5_18, ?v5_19, ?v5_20, ?v5_21, ?v5_22, ?v5_23, ?v5_24, ?v5_25, ?v5_26, ?v5_27, ?v5_28, ?v5_29, ?v5_30, ?v5_31, ?v5_32, ?v5_33, ?v5_34, ?v5_35, ?v5_36, ?v5_37, ?v5_38] rfl (by kernel_rfl) rfl rfl ⟨?s5_0, ?s5_1, ?s5_2, ?s5_3, ?s5_4, ?s5_5, ?s5_6, ?s5_7, ?s5_8, ?s5_9, ?s5_10, ?s5_11, ?s5_12, ?s5_13, ?s5_14, ?s5_15, ?s5_16, ?s5_17, ?s5_18, ?s5_19, ?s5_20, ?s5_21, ?s5_22, ?s5_23, ?s5_24, ?s5_25, ?s5_26, ?s5_27, ?s5_28, ?s5_29, ?s5_30, ?s5_31, ?s5_32, ?s5_33, ?s5_34, ?s5_35, ?s5_36, ?s5_37, ?s5_38, trivial⟩ ?p5
        case s5_0 =>
          intro u9 w9 hT9 hV9 K9 hK9
          clear hV9
          simp only [putAll, Act.put, List.setIfInBounds_toArray, List.set_cons_succ, List.set_cons_zero, List.getD_cons_succ, List.getD_cons_zero, Nat.reduceAdd, Nat.zero_add] at hK9 ⊢
          go_simp
          exact hK9 _ (Grow.refl _)
        case s5_1 =>
          intro u9 w9 hT9 hV9 K9 hK9
          have p9_0 := hV9 0 rfl
          clear hV9
          simp only [putAll, Act.put, List.setIfInBounds_toArray, List.set_cons_succ, List.set_cons_zero, List.getD_cons_succ, List.getD_cons_zero, Nat.reduceAdd, Nat.zero_add] at p9_0 hK9 ⊢
          simp only [p9_0] at hK9 ⊢
          clear p9_0
          go_simp
          exact hK9 _ (Grow.refl _)
        case s5_2 =>
          intro u9 w9 hT9 hV9 K9 hK9
          have p9_1 := hV9 1 rfl
          clear hV9
          simp only [putAll, Act.put, List.setIfInBounds_toArray, List.set_cons_succ, List.set_cons_zero, List.getD_cons_succ, List.getD_cons_zero, Nat.reduceAdd, Nat.zero_add] at p9_1 hK9 ⊢
          simp only [p9_1] at hK9 ⊢
          clear p9_1
          go_simp
          exact hK9 _ (Grow.refl _)
        case s5_3 =>
          intro u9 w9 hT9 hV9 K9 hK9
          have p9_2 := hV9 2 rfl
          clear hV9
          simp only [putAll, Act.put, List.setIfInBounds_toArray, List.set_cons_succ, List.set_cons_zero, List.getD_cons_succ, List.getD_cons_zero, Nat.reduceAdd, Nat.zero_add] at p9_2 hK9 ⊢
          simp only [p9_2] at hK9 ⊢
          clear p9_2
          go_simp
          exact hK9 _ (Grow.refl _)
        case s5_4 =>
          intro u9 w9 hT9 hV9 K9 hK9
          have p9_2 := hV9 2 rfl
          have p9_3 := hV9 3 rfl
          clear hV9
          simp only [putAll, Act.put, List.setIfInBounds_toArray, List.set_cons_succ, List.set_cons_zero, List.getD_cons_succ, List.getD_cons_zero, Nat.reduceAdd, Nat.zero_add] at p9_2 p9_3 hK9 ⊢
          simp only [p9_2, p9_3] at hK9 ⊢
          clear p9_2 p9_3
          go_simp
          exact hK9 _ (Grow.refl _)
        case s5_5 =>
          intro u9 w9 hT9 hV9 K9 hK9
          have p9_2 := hV9 2 rfl
          have p9_4 := hV9 4 rfl
          clear hV9
          simp only [putAll, Act.put, List.setIfInBounds_toArray, List.set_cons_succ, List.set_cons_zero, List.getD_cons_succ, List.getD_cons_zero, Nat.reduceAdd, Nat.zero_add] at p9_2 p9_4 hK9 ⊢
          simp only [p9_2, p9_4] at hK9 ⊢
          clear p9_2 p9_4
          go_simp
          exact hK9 _ (Grow.refl _)
        case s5_6 =>
          intro u9 w9 hT9 hV9 K9 hK9
          have p9_5 := hV9 5 rfl
          clear hV9
          simp only [putAll, Act.put, List.setIfInBounds_toArray, List.set_cons_succ, List.set_cons_zero, List.getD_cons_succ, List.getD_cons_zero, Nat.reduceAdd, Nat.zero_add] at p9_5 hK9 ⊢
          simp only [p9_5] at hK9 ⊢
          clear p9_5
          go_simp
          exact hK9 _ (Grow.refl _)
        case s5_7 =>
          intro u9 w9 hT9 hV9 K9 hK9
          have p9_6 := hV9 6 rfl
          clear hV9
          simp only [putAll, Act.put, List.setIfInBounds_toArray, List.set_cons_succ, List.set_cons_zero, List.getD_cons_succ, List.getD_cons_zero, Nat.reduceAdd, Nat.zero_add] at p9_6 hK9 ⊢
          simp only [p9_6] at hK9 ⊢
          clear p9_6
          go_simp
          exact hK9 _ (Grow.refl _)
        case s5_8 =>
          intro u9 w9 hT9 hV9 K9 hK9
          have p9_6 := hV9 6 rfl
          clear hV9
          simp only [putAll, Act.put, List.setIfInBounds_toArray, List.set_cons_succ, List.set_cons_zero, List.getD_cons_succ, List.getD_cons_zero, Nat.reduceAdd, Nat.zero_add] at p9_6 hK9 ⊢
          simp only [p9_6] at hK9 ⊢
          clear p9_6
          go_simp
          exact hK9 _ (Grow.refl _)
        case s5_9 =>
          intro u9 w9 hT9 hV9 K9 hK9
          have p9_6 := hV9 6 rfl
          have p9_8 := hV9 8 rfl
          clear hV9
          simp only [putAll, Act.put, List.setIfInBounds_toArray, List.set_cons_succ, List.set_cons_zero, List.getD_cons_succ, List.getD_cons_zero, Nat.reduceAdd, Nat.zero_add] at p9_6 p9_8 hK9 ⊢
          simp only [p9_6, p9_8] at hK9 ⊢
          clear p9_6 p9_8
          go_simp
          exact hK9 _ (Grow.refl _)
        case s5_10 =>
          intro u9 w9 hT9 hV9 K9 hK9
          have p9_6 := hV9 6 rfl
          have p9_7 := hV9 7 rfl
          have p9_9 := hV9 9 rfl
          clear hV9
          simp only [putAll, Act.put, List.setIfInBounds_toArray, List.set_cons_succ, List.set_cons_zero, List.getD_cons_succ, List.getD_cons_zero, Nat.reduceAdd, Nat.zero_add] at p9_6 p9_7 p9_9 hK9 ⊢
          simp only [p9_6, p9_7, p9_9] at hK9 ⊢
          clear p9_6 p9_7 p9_9
          go_simp
          exact hK9 _ (Grow.refl _)
        case s5_11 =>
          intro u9 w9 hT9 hV9 K9 hK9
          have p9_6 := hV9 6 rfl
          have p9_10 := hV9 10 rfl
          clear hV9
          simp only [putAll, Act.put, List.setIfInBounds_toArray, List.set_cons_succ, List.set_cons_zero, List.getD_cons_succ, List.getD_cons_zero, Nat.reduceAdd, Nat.zero_add] at p9_6 p9_10 hK9 ⊢
          simp only [p9_6, p9_10] at hK9 ⊢
          clear p9_6 p9_10
          go_simp
          exact hK9 _ (Grow.refl _)
        case s5_12 =>
          intro u9 w9 hT9 hV9 K9 hK9
          have p9_11 := hV9 11 rfl
          clear hV9
          simp only [putAll, Act.put, List.setIfInBounds_toArray, List.set_cons_succ, List.set_cons_zero, List.getD_cons_succ, List.getD_cons_zero, Nat.reduceAdd, Nat.zero_add] at p9_11 hK9 ⊢
          simp only [p9_11] at hK9 ⊢
          clear p9_11
          go_simp
          exact hK9 _ (Grow.refl _)
        case s5_13 =>
          intro u9 w9 hT9 hV9 K9 hK9
          have p9_12 := hV9 12 rfl
          clear hV9
          simp only [putAll, Act.put, List.setIfInBounds_toArray, List.set_cons_succ, List.set_cons_zero, List.getD_cons_succ, List.getD_cons_zero, Nat.reduceAdd, Nat.zero_add] at p9_12 hK9 ⊢
          simp only [p9_12] at hK9 ⊢
          clear p9_12
          go_simp
          exact hK9 _ (Grow.refl _)
        case s5_14 =>
          intro u9 w9 hT9 hV9 K9 hK9
          have p9_12 := hV9 12 rfl
          have p9_13 := hV9 13 rfl
          clear hV9
          simp only [putAll, Act.put, List.setIfInBounds_toArray, List.set_cons_succ, List.set_cons_zero, List.getD_cons_succ, List.getD_cons_zero, Nat.reduceAdd, Nat.zero_add] at p9_12 p9_13 hK9 ⊢
          simp only [p9_12, p9_13] at hK9 ⊢
          clear p9_12 p9_13
          go_simp
          exact hK9 _ (Grow.refl _)
        case s5_15 =>
          intro u9 w9 hT9 hV9 K9 hK9
          have p9_12 := hV9 12 rfl
          have p9_14 := hV9 14 rfl
          clear hV9
          simp only [putAll, Act.put, List.setIfInBounds_toArray, List.set_cons_succ, List.set_cons_zero, List.getD_cons_succ, List.getD_cons_zero, Nat.reduceAdd, Nat.zero_add] at p9_12 p9_14 hK9 ⊢
          simp only [p9_12, p9_14] at hK9 ⊢
          clear p9_12 p9_14
          go_simp
          exact hK9 _ (Grow.refl _)
        case s5_16 =>
          intro u9 w9 hT9 hV9 K9 hK9
          have p9_15 := hV9 15 rfl
          clear hV9
          simp only [putAll, Act.put, List.setIfInBounds_toArray, List.set_cons_succ, List.set_cons_zero, List.getD_cons_succ, List.getD_cons_zero, Nat.reduceAdd, Nat.zero_add] at p9_15 hK9 ⊢
          simp only [p9_15] at hK9 ⊢
          clear p9_15
          go_simp
          exact hK9 _ (Grow.refl _)
        case s5_17 =>
          intro u9 w9 hT9 hV9 K9 hK9
          have p9_16 := hV9 16 rfl
          clear hV9
          simp only [putAll, Act.put, List.setIfInBounds_toArray, List.set_cons_succ, List.set_cons_zero, List.getD_cons_succ, List.getD_cons_zero, Nat.reduceAdd, Nat.zero_add] at p9_16 hK9 ⊢
          simp only [p9_16] at hK9 ⊢
          clear p9_16
          go_simp
          exact hK9 _ (Grow.refl _)
        case s5_18 =>
          intro u9 w9 hT9 hV9 K9 hK9
          have p9_16 := hV9 16 rfl
          clear hV9
          simp only [putAll, Act.put, List.setIfInBounds_toArray, List.set_cons_succ, List.set_cons_zero, List.getD_cons_succ, List.getD_cons_zero, Nat.reduceAdd, Nat.zero_add] at p9_16 hK9 ⊢
          simp only [p9_16] at hK9 ⊢
          clear p9_16
          go_simp
          exact hK9 _ (Grow.refl _)
        case s5_19 =>
          intro u9 w9 hT9 hV9 K9 hK9
          have p9_16 := hV9 16 rfl
          have p9_18 := hV9 18 rfl
          clear hV9
          simp only [putAll, Act.put, List.setIfInBounds_toArray, List.set_cons_succ, List.set_cons_zero, List.getD_cons_succ, List.getD_cons_zero, Nat.reduceAdd, Nat.zero_add] at p9_16 p9_18 hK9 ⊢
          simp only [p9_16, p9_18] at hK9 ⊢
          clear p9_16 p9_18
          go_simp
          exact hK9 _ (Grow.refl _)
        case s5_20 =>
          intro u9 w9 hT9 hV9 K9 hK9
          have p9_16 := hV9 16 rfl
          have p9_17 := hV9 17 rfl
          have p9_19 := hV9 19 rfl
          clear hV9
          simp only [putAll, Act.put, List.setIfInBounds_toArray, List.set_cons_succ, List.set_cons_zero, List.getD_cons_succ, List.getD_cons_zero, Nat.reduceAdd, Nat.zero_add] at p9_16 p9_17 p9_19 hK9 ⊢
          simp only [p9_16, p9_17, p9_19] at hK9 ⊢
          clear p9_16 p9_17 p9_19
          go_simp
          exact hK9 _ (Grow.refl _)
        case s5_21 =>
          intro u9 w9 hT9 hV9 K9 hK9
          have p9_16 := hV9 16 rfl
          have p9_20 := hV9 20 rfl
          clear hV9
          simp only [putAll, Act.put, List.setIfInBounds_toArray, List.set_cons_succ, List.set_cons_zero, List.getD_cons_succ, List.getD_cons_zero, Nat.reduceAdd, Nat.zero_add] at p9_16 p9_20 hK9 ⊢
          simp only [p9_16, p9_20] at hK9 ⊢
          clear p9_16 p9_20
          go_simp
          exact hK9 _ (Grow.refl _)
        case s5_22 =>
          intro u9 w9 hT9 hV9 K9 hK9
          have p9_21 := hV9 21 rfl
          clear hV9
          simp only [putAll, Act.put, List.setIfInBounds_toArray, List.set_cons_succ, List.set_cons_zero, List.getD_cons_succ, List.getD_cons_zero, Nat.reduceAdd, Nat.zero_add] at p9_21 hK9 ⊢
          simp only [p9_21] at hK9 ⊢
          clear p9_21
          go_simp
          exact hK9 _ (Grow.refl _)
        case s5_23 =>
          intro u9 w9 hT9 hV9 K9 hK9
          have p9_22 := hV9 22 rfl
          clear hV9
          simp only [putAll, Act.put, List.setIfInBounds_toArray, List.set_cons_succ, List.set_cons_zero, List.getD_cons_succ, List.getD_cons_zero, Nat.reduceAdd, Nat.zero_add] at p9_22 hK9 ⊢
          simp only [p9_22] at hK9 ⊢
          clear p9_22
          go_simp
          exact hK9 _ (Grow.refl _)
        case s5_24 =>
          intro u9 w9 hT9 hV9 K9 hK9
          have p9_22 := hV9 22 rfl
          clear hV9
          simp only [putAll, Act.put, List.setIfInBounds_toArray, List.set_cons_succ, List.set_cons_zero, List.getD_cons_succ, List.getD_cons_zero, Nat.reduceAdd, Nat.zero_add] at p9_22 hK9 ⊢
          simp only [p9_22] at hK9 ⊢
          clear p9_22
          go_simp
          exact hK9 _ (Grow.refl _)
        case s5_25 =>
          intro u9 w9 hT9 hV9 K9 hK9
          have p9_22 := hV9 22 rfl
          have p9_23 := hV9 23 rfl
          have p9_24 := hV9 24 rfl
          clear hV9
          simp only [putAll, Act.put, List.setIfInBounds_toArray, List.set_cons_succ, List.set_cons_zero, List.getD_cons_succ, List.getD_cons_zero, Nat.reduceAdd, Nat.zero_add] at p9_22 p9_23 p9_24 hK9 ⊢
          simp only [p9_22, p9_23, p9_24] at hK9 ⊢
          clear p9_22 p9_23 p9_24
          go_simp
          exact hK9 _ (Grow.refl _)
        case s5_26 =>
          intro u9 w9 hT9 hV9 K9 hK9
          have p9_22 := hV9 22 rfl
          have p9_25 := hV9 25 rfl
          clear hV9
          simp only [putAll, Act.put, List.setIfInBounds_toArray, List.set_cons_succ, List.set_cons_zero, List.getD_cons_succ, List.getD_cons_zero, Nat.reduceAdd, Nat.zero_add] at p9_22 p9_25 hK9 ⊢
          simp only [p9_22, p9_25] at hK9 ⊢
          clear p9_22 p9_25
          go_simp
          exact hK9 _ (Grow.refl _)
        case s5_27 =>
          intro u9 w9 hT9 hV9 K9 hK9
          have p9_26 := hV9 26 rfl
          clear hV9
          simp only [putAll, Act.put, List.setIfInBounds_toArray, List.set_cons_succ, List.set_cons_zero, List.getD_cons_succ, List.getD_cons_zero, Nat.reduceAdd, Nat.zero_add] at p9_26 hK9 ⊢
          simp only [p9_26] at hK9 ⊢
          clear p9_26
          go_simp
          exact hK9 _ (Grow.refl _)
        case s5_28 =>
          intro u9 w9 hT9 hV9 K9 hK9
          have p9_27 := hV9 27 rfl
          clear hV9
          simp only [putAll, Act.put, List.setIfInBounds_toArray, List.set_cons_succ, List.set_cons_zero, List.getD_cons_succ, List.getD_cons_zero, Nat.reduceAdd, Nat.zero_add] at p9_27 hK9 ⊢
          simp only [p9_27] at hK9 ⊢
          clear p9_27
          go_simp
          exact hK9 _ (Grow.refl _)
        case s5_29 =>
          intro u9 w9 hT9 hV9 K9 hK9
          have p9_27 := hV9 27 rfl
          clear hV9
          simp only [putAll, Act.put, List.setIfInBounds_toArray, List.set_cons_succ, List.set_cons_zero, List.getD_cons_succ, List.getD_cons_zero, Nat.reduceAdd, Nat.zero_add] at p9_27 hK9 ⊢
          simp only [p9_27] at hK9 ⊢
          clear p9_27
          go_simp
          exact hK9 _ (Grow.refl _)
        case s5_30 =>
          intro u9 w9 hT9 hV9 K9 hK9
          have p9_27 := hV9 27 rfl
          have p9_28 := hV9 28 rfl
          have p9_29 := hV9 29 rfl
          clear hV9
          simp only [putAll, Act.put, List.setIfInBounds_toArray, List.set_cons_succ, List.set_cons_zero, List.getD_cons_succ, List.getD_cons_zero, Nat.reduceAdd, Nat.zero_add] at p9_27 p9_28 p9_29 hK9 ⊢
          simp only [p9_27, p9_28, p9_29] at hK9 ⊢
          clear p9_27 p9_28 p9_29
          go_simp
          exact hK9 _ (Grow.refl _)
        case s5_31 =>
          intro u9 w9 hT9 hV9 K9 hK9
          have p9_27 := hV9 27 rfl
          have p9_30 := hV9 30 rfl
          clear hV9
          simp only [putAll, Act.put, List.setIfInBounds_toArray, List.set_cons_succ, List.set_cons_zero, List.getD_cons_succ, List.getD_cons_zero, Nat.reduceAdd, Nat.zero_add] at p9_27 p9_30 hK9 ⊢
          simp only [p9_27, p9_30] at hK9 ⊢
          clear p9_27 p9_30
          go_simp
          exact hK9 _ (Grow.refl _)
        case s5_32 =>
          intro u9 w9 hT9 hV9 K9 hK9
          have p9_27 := hV9 27 rfl
          clear hV9
          simp only [putAll, Act.put, List.setIfInBounds_toArray, List.set_cons_succ, List.set_cons_zero, List.getD_cons_succ, List.getD_cons_zero, Nat.reduceAdd, Nat.zero_add] at p9_27 hK9 ⊢
          simp only [p9_27] at hK9 ⊢
          clear p9_27
          go_simp
          exact hK9 _ (Grow.refl _)
        case s5_33 =>
          intro u9 w9 hT9 hV9 K9 hK9
          have p9_27 := hV9 27 rfl
          clear hV9
          simp only [putAll, Act.put, List.setIfInBounds_toArray, List.set_cons_succ, List.set_cons_zero, List.getD_cons_succ, List.getD_cons_zero, Nat.reduceAdd, Nat.zero_add] at p9_27 hK9 ⊢
          simp only [p9_27] at hK9 ⊢
          clear p9_27
          go_simp
          exact hK9 _ (Grow.refl _)
        case s5_34 =>
          intro u9 w9 hT9 hV9 K9 hK9
          have p9_27 := hV9 27 rfl
          have p9_32 := hV9 32 rfl
          have p9_33 := hV9 33 rfl
          clear hV9
          simp only [putAll, Act.put, List.setIfInBounds_toArray, List.set_cons_succ, List.set_cons_zero, List.getD_cons_succ, List.getD_cons_zero, Nat.reduceAdd, Nat.zero_add] at p9_27 p9_32 p9_33 hK9 ⊢
          simp only [p9_27, p9_32, p9_33] at hK9 ⊢
          clear p9_27 p9_32 p9_33
          go_simp
          exact hK9 _ (Grow.refl _)
        case s5_35 =>
          intro u9 w9 hT9 hV9 K9 hK9
          have p9_27 := hV9 27 rfl
          have p9_34 := hV9 34 rfl
          clear hV9
          simp only [putAll, Act.put, List.setIfInBounds_toArray, List.set_cons_succ, List.set_cons_zero, List.getD_cons_succ, List.getD_cons_zero, Nat.reduceAdd, Nat.zero_add] at p9_27 p9_34 hK9 ⊢
          simp only [p9_27, p9_34] at hK9 ⊢
          clear p9_27 p9_34
          go_simp
          exact hK9 _ (Grow.refl _)
        case s5_36 =>
          intro u9 w9 hT9 hV9 K9 hK9
          have p9_27 := hV9 27 rfl
          have p9_31 := hV9 31 rfl
          have p9_35 := hV9 35 rfl
          clear hV9
          simp only [putAll, Act.put, List.setIfInBounds_toArray, List.set_cons_succ, List.set_cons_zero, List.getD_cons_succ, List.getD_cons_zero, Nat.reduceAdd, Nat.zero_add] at p9_27 p9_31 p9_35 hK9 ⊢
          simp only [p9_27, p9_31, p9_35] at hK9 ⊢
          clear p9_27 p9_31 p9_35
          go_simp
          exact hK9 _ (Grow.refl _)
        case s5_37 =>
          intro u9 w9 hT9 hV9 K9 hK9
          have p9_27 := hV9 27 rfl
          have p9_36 := hV9 36 rfl
          clear hV9
          simp only [putAll, Act.put, List.setIfInBounds_toArray, List.set_cons_succ, List.set_cons_zero, List.getD_cons_succ, List.getD_cons_zero, Nat.reduceAdd, Nat.zero_add] at p9_27 p9_36 hK9 ⊢
          simp only [p9_27, p9_36] at hK9 ⊢
          clear p9_27 p9_36
          go_simp
          exact hK9 _ (Grow.refl _)
        case s5_38 =>
          intro u9 w9 hT9 hV9 K9 hK9
          have p9_37 := hV9 37 rfl
          clear hV9
          simp only [putAll, Act.put, List.setIfInBounds_toArray, List.set_cons_succ, List.set_cons_zero, List.getD_cons_succ, List.getD_cons_zero, Nat.reduceAdd, Nat.zero_add] at p9_37 hK9 ⊢
          simp only [p9_37] at hK9 ⊢
          clear p9_37
          go_simp
          exact hK9 _ (Grow.refl _)
        intro w9 hb9
        simp only [putAll, Act.put, List.setIfInBounds_toArray, List.set_cons_succ, List.set_cons_zero, List.getD_cons_succ, List.getD_cons_zero, Nat.reduceAdd, Nat.zero_add]
        go_wp2
        go_ret
        exact ⟨hb.trans (hb9.mono hb.size), false, rfl, by simp only [Bool.false_eq_true, false_iff]; exact HNO.out (fun h => by have := h.1.2; omega)⟩
    · have hd : decide (0 ≤ i) = false := decide_eq_false r1
      go_wp2
      refine wp_reg_vals [some 14, some 15, some 16, some 17, some 18, some 19, some 20, some 21, some 22, some 23, some 24, some 25, some 26, some 27, some 28, some 29, some 30, some 31, some 32, some 33, some 34, some 35, some 36, some 37, some 38, some 39, some 40, some 41, some 42, some 43, some 44, some 45, some 46, some 47, some 48, some 49, some 50, some 51, some 6] [?v6_0, ?v6_1, ?v6_2, ?v6_3, ?v6_4, ?v6_5, ?v6_6, ?v6_7, ?v6_8, ?v6_9, ?v6_10, ?v6_11, ?v6_12, ?v6_13, ?v6_14, ?v6_15, ?v6_16, ?v6_17, ?v6_18, ?v6_19, ?v6_20, ?v6_21, ?v6_22, ?v6_23, ?v6_24, ?v6_25, ?v6_26, ?v6_27, ?v6_28, ?v6_29, ?v6_30, ?v6_31, ?v6_32, ?v6_33, ?v6_34, ?v6_35, ?v6_36, ?v6_37, ?v6_38] rfl (by kernel_rfl) rfl rfl ⟨?s6_0, ?s6_1, ?s6_2, ?s6_3, ?s6_4, ?s6_5, ?s6_6, ?s6_7, ?s6_8, ?s6_9, ?s6_10, ?s6_11, ?s6_12, ?s6_13, ?s6_14, ?s6_15, ?s6_16, ?s6_17, ?s6_18, ?s6_19, ?s6_20, ?s6_21, ?s6_22, ?s6_23, ?s6_24, ?s6_25, ?s6_26, ?s6_27, ?s6_28, ?s6_29, ?s6_30, ?s6_31, ?s6_32, ?s6_33, ?s6_34, ?s6_35, ?s6_36, ?s6_37, ?s6_38, trivial⟩ ?p6
      case s6_0 =>
        intro u9 w9 hT9 hV9 K9 hK9
        clear hV9
        simp only [putAll, Act.put, List.setIfInBounds_toArray, List.set_cons_succ, List.set_cons_zero, List.getD_cons_succ, List.getD_cons_zero, Nat.reduceAdd, Nat.zero_add] at hK9 ⊢
        go_simp
        exact hK9 _ (Grow.refl _)
      case s6_1 =>
        intro u9 w9 hT9 hV9 K9 hK9
        have p9_0 := hV9 0 rfl
        clear hV9
        simp only [putAll, Act.put, List.setIfInBounds_toArray, List.set_cons_succ, List.set_cons_zero, List.getD_cons_succ, List.getD_cons_zero, Nat.reduceAdd, Nat.zero_add] at p9_0 hK9 ⊢
        simp only [p9_0] at hK9 ⊢
        clear p9_0
        go_simp
        exact hK9 _ (Grow.refl _)
      case s6_2 =>
        intro u9 w9 hT9 hV9 K9 hK9
        have p9_1 := hV9 1 rfl
        clear hV9
        simp only [putAll, Act.put, List.setIfInBounds_toArray, List.set_cons_succ, List.set_cons_zero, List.getD_cons_succ, List.getD_cons_zero, Nat.reduceAdd, Nat.zero_add] at p9_1 hK9 ⊢
        simp only [p9_1] at hK9 ⊢
        clear p9_1
        go_simp
        exact hK9 _ (Grow.refl _)
      case s6_3 =>
        intro u9 w9 hT9 hV9 K9 hK9
        have p9_2 := hV9 2 rfl
        clear hV9
        simp only [putAll, Act.put, List.setIfInBounds_toArray, List.set_cons_succ, List.set_cons_zero, List.getD_cons_succ, List.getD_cons_zero, Nat.reduceAdd, Nat.zero_add] at p9_2 hK9 ⊢
        simp only [p9_2] at hK9 ⊢
        clear p9_2
        go_simp
        exact hK9 _ (Grow.refl _)
      case s6_4 =>
        intro u9 w9 hT9 hV9 K9 hK9
        have p9_2 := hV9 2 rfl
        have p9_3 := hV9 3 rfl
        clear hV9
        simp only [putAll, Act.put, List.setIfInBounds_toArray, List.set_cons_succ, List.set_cons_zero, List.getD_cons_succ, List.getD_cons_zero, Nat.reduceAdd, Nat.zero_add] at p9_2 p9_3 hK9 ⊢
        simp only [p9_2, p9_3] at hK9 ⊢
        clear p9_2 p9_3
        go_simp
        exact hK9 _ (Grow.refl _)
      case s6_5 =>
        intro u9 w9 hT9 hV9 K9 hK9
        have p9_2 := hV9 2 rfl
        have p9_4 := hV9 4 rfl
        clear hV9
        simp only [putAll, Act.put, List.setIfInBounds_toArray, List.set_cons_succ, List.set_cons_zero, List.getD_cons_succ, List.getD_cons_zero, Nat.reduceAdd, Nat.zero_add] at p9_2 p9_4 hK9 ⊢
        simp only [p9_2, p9_4] at hK9 ⊢
        clear p9_2 p9_4
        go_simp
        exact hK9 _ (Grow.refl _)
      case s6_6 =>
        intro u9 w9 hT9 hV9 K9 hK9
        have p9_5 := hV9 5 rfl
        clear hV9
        simp only [putAll, Act.put, List.setIfInBounds_toArray, List.set_cons_succ, List.set_cons_zero, List.getD_cons_succ, List.getD_cons_zero, Nat.reduceAdd, Nat.zero_add] at p9_5 hK9 ⊢
        simp only [p9_5] at hK9 ⊢
        clear p9_5
        go_simp
        exact hK9 _ (Grow.refl _)
      case s6_7 =>
        intro u9 w9 hT9 hV9 K9 hK9
        have p9_6 := hV9 6 rfl
        clear hV9
        simp only [putAll, Act.put, List.setIfInBounds_toArray, List.set_cons_succ, List.set_cons_zero, List.getD_cons_succ, List.getD_cons_zero, Nat.reduceAdd, Nat.zero_add] at p9_6 hK9 ⊢
        simp only [p9_6] at hK9 ⊢
        clear p9_6
        go_simp
        exact hK9 _ (Grow.refl _)
      case s6_8 =>
        intro u9 w9 hT9 hV9 K9 hK9
        have p9_6 := hV9 6 rfl
        clear hV9
        simp only [putAll, Act.put, List.setIfInBounds_toArray, List.set_cons_succ, List.set_cons_zero, List.getD_cons_succ, List.getD_cons_zero, Nat.reduceAdd, Nat.zero_add] at p9_6 hK9 ⊢
        simp only [p9_6] at hK9 ⊢
        clear p9_6
        go_simp
        exact hK9 _ (Grow.refl _)
      case s6_9 =>
        intro u9 w9 hT9 hV9 K9 hK9
        have p9_6 := hV9 6 rfl
        have p9_8 := hV9 8 rfl
        clear hV9
        simp only [putAll, Act.put, List.setIfInBounds_toArray, List.set_cons_succ, List.set_cons_zero, List.getD_cons_succ, List.getD_cons_zero, Nat.reduceAdd, Nat.zero_add] at p9_6 p9_8 hK9 ⊢
        simp only [p9_6, p9_8] at hK9 ⊢
        clear p9_6 p9_8
        go_simp
        exact hK9 _ (Grow.refl _)
      case s6_10 =>
        intro u9 w9 hT9 hV9 K9 hK9
        have p9_6 := hV9 6 rfl
        have p9_7 := hV9 7 rfl
        have p9_9 := hV9 9 rfl
        clear hV9
        simp only [putAll, Act.put, List.setIfInBounds_toArray, List.set_cons_succ, List.set_cons_zero, List.getD_cons_succ, List.getD_cons_zero, Nat.reduceAdd, Nat.zero_add] at p9_6 p9_7 p9_9 hK9 ⊢
        simp only [p9_6, p9_7, p9_9] at hK9 ⊢
        clear p9_6 p9_7 p9_9
        go_simp
        exact hK9 _ (Grow.refl _)
      case s6_11 =>
        intro u9 w9 hT9 hV9 K9 hK9
        have p9_6 := hV9 6 rfl
        have p9_10 := hV9 10 rfl
        clear hV9
        simp only [putAll, Act.put, List.setIfInBounds_toArray, List.set_cons_succ, List.set_cons_zero, List.getD_cons_succ, List.getD_cons_zero, Nat.reduceAdd, Nat.zero_add] at p9_6 p9_10 hK9 ⊢
        simp only [p9_6, p9_10] at hK9 ⊢
        clear p9_6 p9_10
        go_simp
        exact hK9 _ (Grow.refl _)
      case s6_12 =>
        intro u9 w9 hT9 hV9 K9 hK9
        have p9_11 := hV9 11 rfl
        clear hV9
        simp only [putAll, Act.put, List.setIfInBounds_toArray, List.set_cons_succ, List.set_cons_zero, List.getD_cons_succ, List.getD_cons_zero, Nat.reduceAdd, Nat.zero_add] at p9_11 hK9 ⊢
        simp only [p9_11] at hK9 ⊢
        clear p9_11
        go_simp
        exact hK9 _ (Grow.refl _)
      case s6_13 =>
        intro u9 w9 hT9 hV9 K9 hK9
        have p9_12 := hV9 12 rfl
        clear hV9
        simp only [putAll, Act.put, List.setIfInBounds_toArray, List.set_cons_succ, List.set_cons_zero, List.getD_cons_succ, List.getD_cons_zero, Nat.reduceAdd, Nat.zero_add] at p9_12 hK9 ⊢
        simp only [p9_12] at hK9 ⊢
        clear p9_12
        go_simp
        exact hK9 _ (Grow.refl _)
      case s6_14 =>
        intro u9 w9 hT9 hV9 K9 hK9
        have p9_12 := hV9 12 rfl
        have p9_13 := hV9 13 rfl
        clear hV9
        simp only [putAll, Act.put, List.setIfInBounds_toArray, List.set_cons_succ, List.set_cons_zero, List.getD_cons_succ, List.getD_cons_zero, Nat.reduceAdd, Nat.zero_add] at p9_12 p9_13 hK9 ⊢
        simp only [p9_12, p9_13] at hK9 ⊢
        clear p9_12 p9_13
        go_simp
        exact hK9 _ (Grow.refl _)
      case s6_15 =>
        intro u9 w9 hT9 hV9 K9 hK9
        have p9_12 := hV9 12 rfl
        have p9_14 := hV9 14 rfl
        clear hV9
        simp only [putAll, Act.put, List.setIfInBounds_toArray, List.set_cons_succ, List.set_cons_zero, List.getD_cons_succ, List.getD_cons_zero, Nat.reduceAdd, Nat.zero_add] at p9_12 p9_14 hK9 ⊢
        simp only [p9_12, p9_14] at hK9 ⊢
        clear p9_12 p9_14
        go_simp
        exact hK9 _ (Grow.refl _)
      case s6_16 =>
        intro u9 w9 hT9 hV9 K9 hK9
        have p9_15 := hV9 15 rfl
        clear hV9
        simp only [putAll, Act.put, List.setIfInBounds_toArray, List.set_cons_succ, List.set_cons_zero, List.getD_cons_succ, List.getD_cons_zero, Nat.reduceAdd, Nat.zero_add] at p9_15 hK9 ⊢
        simp only [p9_15] at hK9 ⊢
        clear p9_15
        go_simp
        exact hK9 _ (Grow.refl _)
      case s6_17 =>
        intro u9 w9 hT9 hV9 K9 hK9
        have p9_16 := hV9 16 rfl
        clear hV9
        simp only [putAll, Act.put, List.setIfInBounds_toArray, List.set_cons_succ, List.set_cons_zero, List.getD_cons_succ, List.getD_cons_zero, Nat.reduceAdd, Nat.zero_add] at p9_16 hK9 ⊢
        simp only [p9_16] at hK9 ⊢
        clear p9_16
        go_simp
        exact hK9 _ (Grow.refl _)
      case s6_18 =>
        intro u9 w9 hT9 hV9 K9 hK9
        have p9_16 := hV9 16 rfl
        clear hV9
        simp only [putAll, Act.put, List.setIfInBounds_toArray, List.set_cons_succ, List.set_cons_zero, List.getD_cons_succ, List.getD_cons_zero, Nat.reduceAdd, Nat.zero_add] at p9_16 hK9 ⊢
        simp only [p9_16] at hK9 ⊢
        clear p9_16
        go_simp
        exact hK9 _ (Grow.refl _)
      case s6_19 =>
        intro u9 w9 hT9 hV9 K9 hK9
        have p9_16 := hV9 16 rfl
        have p9_18 := hV9 18 rfl
        clear hV9
        simp only [putAll, Act.put, List.setIfInBounds_toArray, List.set_cons_succ, List.set_cons_zero, List.getD_cons_succ, List.getD_cons_zero, Nat.reduceAdd, Nat.zero_add] at p9_16 p9_18 hK9 ⊢
        simp only [p9_16, p9_18] at hK9 ⊢
        clear p9_16 p9_18
        go_simp
        exact hK9 _ (Grow.refl _)
      case s6_20 =>
        intro u9 w9 hT9 hV9 K9 hK9
        have p9_16 := hV9 16 rfl
        have p9_17 := hV9 17 rfl
        have p9_19 := hV9 19 rfl
        clear hV9
        simp only [putAll, Act.put, List.setIfInBounds_toArray, List.set_cons_succ, List.set_cons_zero, List.getD_cons_succ, List.getD_cons_zero, Nat.reduceAdd, Nat.zero_add] at p9_16 p9_17 p9_19 hK9 ⊢
        simp only [p9_16, p9_17, p9_19] at hK9 ⊢
        clear p9_16 p9_17 p9_19
        go_simp
        exact hK9 _ (Grow.refl _)
      case s6_21 =>
        intro u9 w9 hT9 hV9 K9 hK9
        have p9_16 := hV9 16 rfl
        have p9_20 := hV9 20 rfl
        clear hV9
        simp only [putAll, Act.put, List.setIfInBounds_toArray, List.set_cons_succ, List.set_cons_zero, List.getD_cons_succ, List.getD_cons_zero, Nat.reduceAdd, Nat.zero_add] at p9_16 p9_20 hK9 ⊢
        simp only [p9_16, p9_20] at hK9 ⊢
        clear p9_16 p9_20
        go_simp
        exact hK9 _ (Grow.refl _)
      case s6_22 =>
        intro u9 w9 hT9 hV9 K9 hK9
        have p9_21 := hV9 21 rfl
        clear hV9
        simp only [putAll, Act.put, List.setIfInBounds_toArray, List.set_cons_succ, List.set_cons_zero, List.getD_cons_succ, List.getD_cons_zero, Nat.reduceAdd, Nat.zero_add] at p9_21 hK9 ⊢
        simp only [p9_21] at hK9 ⊢
        clear p9_21
        go_simp
        exact hK9 _ (Grow.refl _)
      case s6_23 =>
        intro u9 w9 hT9 hV9 K9 hK9
        have p9_22 := hV9 22 rfl
        clear hV9
        simp only [putAll, Act.put, List.setIfInBounds_toArray, List.set_cons_succ, List.set_cons_zero, List.getD_cons_succ, List.getD_cons_zero, Nat.reduceAdd, Nat.zero_add] at p9_22 hK9 ⊢
        simp only [p9_22] at hK9 ⊢
        clear p9_22
        go_simp
        exact hK9 _ (Grow.refl _)
      case s6_24 =>
        intro u9 w9 hT9 hV9 K9 hK9
        have p9_22 := hV9 22 rfl
        clear hV9
        simp only [putAll, Act.put, List.setIfInBounds_toArray, List.set_cons_succ, List.set_cons_zero, List.getD_cons_succ, List.getD_cons_zero, Nat.reduceAdd, Nat.zero_add] at p9_22 hK9 ⊢
        simp only [p9_22] at hK9 ⊢
        clear p9_22
        go_simp
        exact hK9 _ (Grow.refl _)
      case s6_25 =>
        intro u9 w9 hT9 hV9 K9 hK9
        have p9_22 := hV9 22 rfl
        have p9_23 := hV9 23 rfl
        have p9_24 := hV9 24 rfl
        clear hV9
        simp only [putAll, Act.put, List.setIfInBounds_toArray, List.set_cons_succ, List.set_cons_zero, List.getD_cons_succ, List.getD_cons_zero, Nat.reduceAdd, Nat.zero_add] at p9_22 p9_23 p9_24 hK9 ⊢
        simp only [p9_22, p9_23, p9_24] at hK9 ⊢
        clear p9_22 p9_23 p9_24
        go_simp
        exact hK9 _ (Grow.refl _)
      case s6_26 =>
        intro u9 w9 hT9 hV9 K9 hK9
        have p9_22 := hV9 22 rfl
        have p9_25 := hV9 25 rfl
        clear hV9
        simp only [putAll, Act.put, List.setIfInBounds_toArray, List.set_cons_succ, List.set_cons_zero, List.getD_cons_succ, List.getD_cons_zero, Nat.reduceAdd, Nat.zero_add] at p9_22 p9_25 hK9 ⊢
        simp only [p9_22, p9_25] at hK9 ⊢
        clear p9_22 p9_25
        go_simp
        exact hK9 _ (Grow.refl _)
      case s6_27 =>
        intro u9 w9 hT9 hV9 K9 hK9
        have p9_26 := hV9 26 rfl
        clear hV9
        simp only [putAll, Act.put, List.setIfInBounds_toArray, List.set_cons_succ, List.set_cons_zero, List.getD_cons_succ, List.getD_cons_zero, Nat.reduceAdd, Nat.zero_add] at p9_26 hK9 ⊢
        simp only [p9_26] at hK9 ⊢
        clear p9_26
        go_simp
        exact hK9 _ (Grow.refl _)
      case s6_28 =>
        intro u9 w9 hT9 hV9 K9 hK9
        have p9_27 := hV9 27 rfl
        clear hV9
        simp only [putAll, Act.put, List.setIfInBounds_toArray, List.set_cons_succ, List.set_cons_zero, List.getD_cons_succ, List.getD_cons_zero, Nat.reduceAdd, Nat.zero_add] at p9_27 hK9 ⊢
        simp only [p9_27] at hK9 ⊢
        clear p9_27
        go_simp
        exact hK9 _ (Grow.refl _)
      case s6_29 =>
        intro u9 w9 hT9 hV9 K9 hK9
        have p9_27 := hV9 27 rfl
        clear hV9
        simp only [putAll, Act.put, List.setIfInBounds_toArray, List.set_cons_succ, List.set_cons_zero, List.getD_cons_succ, List.getD_cons_zero, Nat.reduceAdd, Nat.zero_add] at p9_27 hK9 ⊢
        simp only [p9_27] at hK9 ⊢
        clear p9_27
        go_simp
        exact hK9 _ (Grow.refl _)
      case s6_30 =>
        intro u9 w9 hT9 hV9 K9 hK9
        have p9_27 := hV9 27 rfl
        have p9_28 := hV9 28 rfl
        have p9_29 := hV9 29 rfl
        clear hV9
        simp only [putAll, Act.put, List.setIfInBounds_toArray, List.set_cons_succ, List.set_cons_zero, List.getD_cons_succ, List.getD_cons_zero, Nat.reduceAdd, Nat.zero_add] at p9_27 p9_28 p9_29 hK9 ⊢
        simp only [p9_27, p9_28, p9_29] at hK9 ⊢
        clear p9_27 p9_28 p9_29
        go_simp
        exact hK9 _ (Grow.refl _)
      case s6_31 =>
        intro u9 w9 hT9 hV9 K9 hK9
        have p9_27 := hV9 27 rfl
        have p9_30 := hV9 30 rfl
        clear hV9
        simp only [putAll, Act.put, List.setIfInBounds_toArray, List.set_cons_succ, List.set_cons_zero, List.getD_cons_succ, List.getD_cons_zero, Nat.reduceAdd, Nat.zero_add] at p9_27 p9_30 hK9 ⊢
        simp only [p9_27, p9_30] at hK9 ⊢
        clear p9_27 p9_30
        go_simp
        exact hK9 _ (Grow.refl _)
      case s6_32 =>
        intro u9 w9 hT9 hV9 K9 hK9
        have p9_27 := hV9 27 rfl
        clear hV9
        simp only [putAll, Act.put, List.setIfInBounds_toArray, List.set_cons_succ, List.set_cons_zero, List.getD_cons_succ, List.getD_cons_zero, Nat.reduceAdd, Nat.zero_add] at p9_27 hK9 ⊢
        simp only [p9_27] at hK9 ⊢
        clear p9_27
        go_simp
        exact hK9 _ (Grow.refl _)
      case s6_33 =>
        intro u9 w9 hT9 hV9 K9 hK9
        have p9_27 := hV9 27 rfl
        clear hV9
        simp only [putAll, Act.put, List.setIfInBounds_toArray, List.set_cons_succ, List.set_cons_zero, List.getD_cons_succ, List.getD_cons_zero, Nat.reduceAdd, Nat.zero_add] at p9_27 hK9 ⊢
        simp only [p9_27] at hK9 ⊢
        clear p9_27
        go_simp
        exact hK9 _ (Grow.refl _)
      case s6_34 =>
        intro u9 w9 hT9 hV9 K9 hK9
        have p9_27 := hV9 27 rfl
        have p9_32 := hV9 32 rfl
        have p9_33 := hV9 33 rfl
        clear hV9
        simp only [putAll, Act.put, List.setIfInBounds_toArray, List.set_cons_succ, List.set_cons_zero, List.getD_cons_succ, List.getD_cons_zero, Nat.reduceAdd, Nat.zero_add] at p9_27 p9_32 p9_33 hK9 ⊢
        simp only [p9_27, p9_32, p9_33] at hK9 ⊢
        clear p9_27 p9_32 p9_33
        go_simp
        exact hK9 _ (Grow.refl _)
      case s6_35 =>
        intro u9 w9 hT9 hV9 K9 hK9
        have p9_27 := hV9 27 rfl
        have p9_34 := hV9 34 rfl
        clear hV9
        simp only [putAll, Act.put, List.setIfInBounds_toArray, List.set_cons_succ, List.set_cons_zero, List.getD_cons_succ, List.getD_cons_zero, Nat.reduceAdd, Nat.zero_add] at p9_27 p9_34 hK9 ⊢
        simp only [p9_27, p9_34] at hK9 ⊢
        clear p9_27 p9_34
        go_simp
        exact hK9 _ (Grow.refl _)
      case s6_36 =>
        intro u9 w9 hT9 hV9 K9 hK9
        have p9_27 := hV9 27 rfl
        have p9_31 := hV9 31 rfl
        have p9_35 := hV9 35 rfl
        clear hV9
        simp only [putAll, Act.put, List.setIfInBounds_toArray, List.set_cons_succ, List.set_cons_zero, List.getD_cons_succ, List.getD_cons_zero, Nat.reduceAdd, Nat.zero_add] at p9_27 p9_31 p9_35 hK9 ⊢
        simp only [p9_27, p9_31, p9_35] at hK9 ⊢
        clear p9_27 p9_31 p9_35
        go_simp
        exact hK9 _ (Grow.refl _)
      case s6_37 =>
        intro u9 w9 hT9 hV9 K9 hK9
        have p9_27 := hV9 27 rfl
        have p9_36 := hV9 36 rfl
        clear hV9
        simp only [putAll, Act.put, List.setIfInBounds_toArray, List.set_cons_succ, List.set_cons_zero, List.getD_cons_succ, List.getD_cons_zero, Nat.reduceAdd, Nat.zero_add] at p9_27 p9_36 hK9 ⊢
        simp only [p9_27, p9_36] at hK9 ⊢
        clear p9_27 p9_36
        go_simp
        exact hK9 _ (Grow.refl _)
      case s6_38 =>
        intro u9 w9 hT9 hV9 K9 hK9
        have p9_37 := hV9 37 rfl
        clear hV9
        simp only [putAll, Act.put, List.setIfInBounds_toArray, List.set_cons_succ, List.set_cons_zero, List.getD_cons_succ, List.getD_cons_zero, Nat.reduceAdd, Nat.zero_add] at p9_37 hK9 ⊢
        simp only [p9_37] at hK9 ⊢
        clear p9_37
        go_simp
        exact hK9 _ (Grow.refl _)
      intro w9 hb9
      simp only [putAll, Act.put, List.setIfInBounds_toArray, List.set_cons_succ, List.set_cons_zero, List.getD_cons_succ, List.getD_cons_zero, Nat.reduceAdd, Nat.zero_add]
      go_wp2
      go_ret
      exact ⟨hb.trans (hb9.mono hb.size), false, rfl, by simp only [Bool.false_eq_true, false_iff]; exact HNO.out (fun h => by have := h.1.1; omega)⟩
  · obtain ⟨k, hk, hk0⟩ : ∃ k : Int, (if 4096 < ls.length then (2 : Int) else 9) = k ∧ (k == 0) = false := by
      split
      · exact ⟨2, rfl, rfl⟩
      · exact ⟨9, rfl, rfl⟩
    rw [hk]
    clear hk
    have HN := Lib.hid hno
    clear hno
    go_wp2
    refine wp_reg_vals [some 14, some 15, some 16, some 17, some 18, some 19, some 20, some 21, some 22, some 23, some 24, some 25, some 26, some 27, some 28, some 29, some 30, some 31, some 32, some 33, some 34, some 35, some 36, some 37, some 38, some 39, some 40, some 41, some 42, some 43, some 44, some 45, some 46, some 47, some 48, some 49, some 50, some 51, some 6] [?v7_0, ?v7_1, ?v7_2, ?v7_3, ?v7_4, ?v7_5, ?v7_6, ?v7_7, ?v7_8, ?v7_9, ?v7_10, ?v7_11, ?v7_12, ?v7_13, ?v7_14, ?v7_15, ?v7_16, ?v7_17, ?v7_18, ?v7_19, ?v7_20, ?v7_21, ?v7_22, ?v7_23, ?v7_24, ?v7_25, ?v7_26, ?v7_27, ?v7_28, ?v7_29, ?v7_30, ?v7_31, ?v7_32, ?v7_33, ?v7_34, ?v7_35, ?v7_36, ?v7_37, ?v7_38] rfl (by kernel_rfl) rfl rfl ⟨?s7_0, ?s7_1, ?s7_2, ?s7_3, ?s7_4, ?s7_5, ?s7_6, ?s7_7, ?s7_8, ?s7_9, ?s7_10, ?s7_11, ?s7_12, ?s7_13, ?s7_14, ?s7_15, ?s7_16, ?s7_17, ?s7_18, ?s7_19, ?s7_20, ?s7_21, ?s7_22, ?s7_23, ?s7_24, ?s7_25, ?s7_26, ?s7_27, ?s7_28, ?s7_29, ?s7_30, ?s7_31, ?s7_32, ?s7_33, ?s7_34, ?s7_35, ?s7_36, ?s7_37, ?s7_38, trivial⟩ ?p7
    case s7_0 =>
      intro u9 w9 hT9 hV9 K9 hK9
      clear hV9
      simp only [putAll, Act.put, List.setIfInBounds_toArray, List.set_cons_succ, List.set_cons_zero, List.getD_cons_succ, List.getD_cons_zero, Nat.reduceAdd, Nat.zero_add] at hK9 ⊢
      go_simp
      exact hK9 _ (Grow.refl _)
    case s7_1 =>
      intro u9 w9 hT9 hV9 K9 hK9
      have p9_0 := hV9 0 rfl
      clear hV9
      simp only [putAll, Act.put, List.setIfInBounds_toArray, List.set_cons_succ, List.set_cons_zero, List.getD_cons_succ, List.getD_cons_zero, Nat.reduceAdd, Nat.zero_add] at p9_0 hK9 ⊢
      simp only [p9_0] at hK9 ⊢
      clear p9_0
      go_simp
      exact hK9 _ (Grow.refl _)
    case s7_2 =>
      intro u9 w9 hT9 hV9 K9 hK9
      have p9_1 := hV9 1 rfl
      clear hV9
      simp only [putAll, Act.put, List.setIfInBounds_toArray, List.set_cons_succ, List.set_cons_zero, List.getD_cons_succ, List.getD_cons_zero, Nat.reduceAdd, Nat.zero_add] at p9_1 hK9 ⊢
      simp only [p9_1] at hK9 ⊢
      clear p9_1
      go_simp
      exact hK9 _ (Grow.refl _)
    case s7_3 =>
      intro u9 w9 hT9 hV9 K9 hK9
      have p9_2 := hV9 2 rfl
      clear hV9
      simp only [putAll, Act.put, List.setIfInBounds_toArray, List.set_cons_succ, List.set_cons_zero, List.getD_cons_succ, List.getD_cons_zero, Nat.reduceAdd, Nat.zero_add] at p9_2 hK9 ⊢
      simp only [p9_2] at hK9 ⊢
      clear p9_2
      go_simp
      exact hK9 _ (Grow.refl _)
    case s7_4 =>
      intro u9 w9 hT9 hV9 K9 hK9
      have p9_2 := hV9 2 rfl
      have p9_3 := hV9 3 rfl
      clear hV9
      simp only [putAll, Act.put, List.setIfInBounds_toArray, List.set_cons_succ, List.set_cons_zero, List.getD_cons_succ, List.getD_cons_zero, Nat.reduceAdd, Nat.zero_add] at p9_2 p9_3 hK9 ⊢
      simp only [p9_2, p9_3] at hK9 ⊢
      clear p9_2 p9_3
      go_simp
      exact hK9 _ (Grow.refl _)
    case s7_5 =>
      intro u9 w9 hT9 hV9 K9 hK9
      have p9_2 := hV9 2 rfl
      have p9_4 := hV9 4 rfl
      clear hV9
      simp only [putAll, Act.put, List.setIfInBounds_toArray, List.set_cons_succ, List.set_cons_zero, List.getD_cons_succ, List.getD_cons_zero, Nat.reduceAdd, Nat.zero_add] at p9_2 p9_4 hK9 ⊢
      simp only [p9_2, p9_4] at hK9 ⊢
      clear p9_2 p9_4
      go_simp
      exact hK9 _ (Grow.refl _)
    case s7_6 =>
      intro u9 w9 hT9 hV9 K9 hK9
      have p9_5 := hV9 5 rfl
      clear hV9
      simp only [putAll, Act.put, List.setIfInBounds_toArray, List.set_cons_succ, List.set_cons_zero, List.getD_cons_succ, List.getD_cons_zero, Nat.reduceAdd, Nat.zero_add] at p9_5 hK9 ⊢
      simp only [p9_5] at hK9 ⊢
      clear p9_5
      go_simp
      exact hK9 _ (Grow.refl _)
    case s7_7 =>
      intro u9 w9 hT9 hV9 K9 hK9
      have p9_6 := hV9 6 rfl
      clear hV9
      simp only [putAll, Act.put, List.setIfInBounds_toArray, List.set_cons_succ, List.set_cons_zero, List.getD_cons_succ, List.getD_cons_zero, Nat.reduceAdd, Nat.zero_add] at p9_6 hK9 ⊢
      simp only [p9_6] at hK9 ⊢
      clear p9_6
      go_simp
      exact hK9 _ (Grow.refl _)
    case s7_8 =>
      intro u9 w9 hT9 hV9 K9 hK9
      have p9_6 := hV9 6 rfl
      clear hV9
      simp only [putAll, Act.put, List.setIfInBounds_toArray, List.set_cons_succ, List.set_cons_zero, List.getD_cons_succ, List.getD_cons_zero, Nat.reduceAdd, Nat.zero_add] at p9_6 hK9 ⊢
      simp only [p9_6] at hK9 ⊢
      clear p9_6
      go_simp
      exact hK9 _ (Grow.refl _)
    case s7_9 =>
      intro u9 w9 hT9 hV9 K9 hK9
      have p9_6 := hV9 6 rfl
      have p9_8 := hV9 8 rfl
      clear hV9
      simp only [putAll, Act.put, List.setIfInBounds_toArray, List.set_cons_succ, List.set_cons_zero, List.getD_cons_succ, List.getD_cons_zero, Nat.reduceAdd, Nat.zero_add] at p9_6 p9_8 hK9 ⊢
      simp only [p9_6, p9_8] at hK9 ⊢
      clear p9_6 p9_8
      go_simp
      exact hK9 _ (Grow.refl _)
    case s7_10 =>
      intro u9 w9 hT9 hV9 K9 hK9
      have p9_6 := hV9 6 rfl
      have p9_7 := hV9 7 rfl
      have p9_9 := hV9 9 rfl
      clear hV9
      simp only [putAll, Act.put, List.setIfInBounds_toArray, List.set_cons_succ, List.set_cons_zero, List.getD_cons_succ, List.getD_cons_zero, Nat.reduceAdd, Nat.zero_add] at p9_6 p9_7 p9_9 hK9 ⊢
      simp only [p9_6, p9_7, p9_9] at hK9 ⊢
      clear p9_6 p9_7 p9_9
      go_simp
      exact hK9 _ (Grow.refl _)
    case s7_11 =>
      intro u9 w9 hT9 hV9 K9 hK9
      have p9_6 := hV9 6 rfl
      have p9_10 := hV9 10 rfl
      clear hV9
      simp only [putAll, Act.put, List.setIfInBounds_toArray, List.set_cons_succ, List.set_cons_zero, List.getD_cons_succ, List.getD_cons_zero, Nat.reduceAdd, Nat.zero_add] at p9_6 p9_10 hK9 ⊢
      simp only [p9_6, p9_10] at hK9 ⊢
      clear p9_6 p9_10
      go_simp
      exact hK9 _ (Grow.refl _)
    case s7_12 =>
      intro u9 w9 hT9 hV9 K9 hK9
      have p9_11 := hV9 11 rfl
      clear hV9
      simp only [putAll, Act.put, List.setIfInBounds_toArray, List.set_cons_succ, List.set_cons_zero, List.getD_cons_succ, List.getD_cons_zero, Nat.reduceAdd, Nat.zero_add] at p9_11 hK9 ⊢
      simp only [p9_11] at hK9 ⊢
      clear p9_11
      go_simp
      exact hK9 _ (Grow.refl _)
    case s7_13 =>
      intro u9 w9 hT9 hV9 K9 hK9
      have p9_12 := hV9 12 rfl
      clear hV9
      simp only [putAll, Act.put, List.setIfInBounds_toArray, List.set_cons_succ, List.set_cons_zero, List.getD_cons_succ, List.getD_cons_zero, Nat.reduceAdd, Nat.zero_add] at p9_12 hK9 ⊢
      simp only [p9_12] at hK9 ⊢
      clear p9_12
      go_simp
      exact hK9 _ (Grow.refl _)
    case s7_14 =>
      intro u9 w9 hT9 hV9 K9 hK9
      have p9_12 := hV9 12 rfl
      have p9_13 := hV9 13 rfl
      clear hV9
      simp only [putAll, Act.put, List.setIfInBounds_toArray, List.set_cons_succ, List.set_cons_zero, List.getD_cons_succ, List.getD_cons_zero, Nat.reduceAdd, Nat.zero_add] at p9_12 p9_13 hK9 ⊢
      simp only [p9_12, p9_13] at hK9 ⊢
      clear p9_12 p9_13
      go_simp
      exact hK9 _ (Grow.refl _)
    case s7_15 =>
      intro u9 w9 hT9 hV9 K9 hK9
      have p9_12 := hV9 12 rfl
      have p9_14 := hV9 14 rfl
      clear hV9
      simp only [putAll, Act.put, List.setIfInBounds_toArray, List.set_cons_succ, List.set_cons_zero, List.getD_cons_succ, List.getD_cons_zero, Nat.reduceAdd, Nat.zero_add] at p9_12 p9_14 hK9 ⊢
      simp only [p9_12, p9_14] at hK9 ⊢
      clear p9_12 p9_14
      go_simp
      exact hK9 _ (Grow.refl _)
    case s7_16 =>
      intro u9 w9 hT9 hV9 K9 hK9
      have p9_15 := hV9 15 rfl
      clear hV9
      simp only [putAll, Act.put, List.setIfInBounds_toArray, List.set_cons_succ, List.set_cons_zero, List.getD_cons_succ, List.getD_cons_zero, Nat.reduceAdd, Nat.zero_add] at p9_15 hK9 ⊢
      simp only [p9_15] at hK9 ⊢
      clear p9_15
      go_simp
      exact hK9 _ (Grow.refl _)
    case s7_17 =>
      intro u9 w9 hT9 hV9 K9 hK9
      have p9_16 := hV9 16 rfl
      clear hV9
      simp only [putAll, Act.put, List.setIfInBounds_toArray, List.set_cons_succ, List.set_cons_zero, List.getD_cons_succ, List.getD_cons_zero, Nat.reduceAdd, Nat.zero_add] at p9_16 hK9 ⊢
      simp only [p9_16] at hK9 ⊢
      clear p9_16
      go_simp
      exact hK9 _ (Grow.refl _)
    case s7_18 =>
      intro u9 w9 hT9 hV9 K9 hK9
      have p9_16 := hV9 16 rfl
      clear hV9
      simp only [putAll, Act.put, List.setIfInBounds_toArray, List.set_cons_succ, List.set_cons_zero, List.getD_cons_succ, List.getD_cons_zero, Nat.reduceAdd, Nat.zero_add] at p9_16 hK9 ⊢
      simp only [p9_16] at hK9 ⊢
      clear p9_16
      go_simp
      exact hK9 _ (Grow.refl _)
    case s7_19 =>
      intro u9 w9 hT9 hV9 K9 hK9
      have p9_16 := hV9 16 rfl
      have p9_18 := hV9 18 rfl
      clear hV9
      simp only [putAll, Act.put, List.setIfInBounds_toArray, List.set_cons_succ, List.set_cons_zero, List.getD_cons_succ, List.getD_cons_zero, Nat.reduceAdd, Nat.zero_add] at p9_16 p9_18 hK9 ⊢
      simp only [p9_16, p9_18] at hK9 ⊢
      clear p9_16 p9_18
      go_simp
      exact hK9 _ (Grow.refl _)
    case s7_20 =>
      intro u9 w9 hT9 hV9 K9 hK9
      have p9_16 := hV9 16 rfl
      have p9_17 := hV9 17 rfl
      have p9_19 := hV9 19 rfl
      clear hV9
      simp only [putAll, Act.put, List.setIfInBounds_toArray, List.set_cons_succ, List.set_cons_zero, List.getD_cons_succ, List.getD_cons_zero, Nat.reduceAdd, Nat.zero_add] at p9_16 p9_17 p9_19 hK9 ⊢
      simp only [p9_16, p9_17, p9_19] at hK9 ⊢
      clear p9_16 p9_17 p9_19
      go_simp
      exact hK9 _ (Grow.refl _)
    case s7_21 =>
      intro u9 w9 hT9 hV9 K9 hK9
      have p9_16 := hV9 16 rfl
      have p9_20 := hV9 20 rfl
      clear hV9
      simp only [putAll, Act.put, List.setIfInBounds_toArray, List.set_cons_succ, List.set_cons_zero, List.getD_cons_succ, List.getD_cons_zero, Nat.reduceAdd, Nat.zero_add] at p9_16 p9_20 hK9 ⊢
      simp only [p9_16, p9_20] at hK9 ⊢
      clear p9_16 p9_20
      go_simp
      exact hK9 _ (Grow.refl _)
    case s7_22 =>
      intro u9 w9 hT9 hV9 K9 hK9
      have p9_21 := hV9 21 rfl
      clear hV9
      simp only [putAll, Act.put, List.setIfInBounds_toArray, List.set_cons_succ, List.set_cons_zero, List.getD_cons_succ, List.getD_cons_zero, Nat.reduceAdd, Nat.zero_add] at p9_21 hK9 ⊢
      simp only [p9_21] at hK9 ⊢
      clear p9_21
      go_simp
      exact hK9 _ (Grow.refl _)
    case s7_23 =>
      intro u9 w9 hT9 hV9 K9 hK9
      have p9_22 := hV9 22 rfl
      clear hV9
      simp only [putAll, Act.put, List.setIfInBounds_toArray, List.set_cons_succ, List.set_cons_zero, List.getD_cons_succ, List.getD_cons_zero, Nat.reduceAdd, Nat.zero_add] at p9_22 hK9 ⊢
      simp only [p9_22] at hK9 ⊢
      clear p9_22
      go_simp
      exact hK9 _ (Grow.refl _)
    case s7_24 =>
      intro u9 w9 hT9 hV9 K9 hK9
      have p9_22 := hV9 22 rfl
      clear hV9
      simp only [putAll, Act.put, List.setIfInBounds_toArray, List.set_cons_succ, List.set_cons_zero, List.getD_cons_succ, List.getD_cons_zero, Nat.reduceAdd, Nat.zero_add] at p9_22 hK9 ⊢
      simp only [p9_22] at hK9 ⊢
      clear p9_22
      go_simp
      exact hK9 _ (Grow.refl _)
    case s7_25 =>
      intro u9 w9 hT9 hV9 K9 hK9
      have p9_22 := hV9 22 rfl
      have p9_23 := hV9 23 rfl
      have p9_24 := hV9 24 rfl
      clear hV9
      simp only [putAll, Act.put, List.setIfInBounds_toArray, List.set_cons_succ, List.set_cons_zero, List.getD_cons_succ, List.getD_cons_zero, Nat.reduceAdd, Nat.zero_add] at p9_22 p9_23 p9_24 hK9 ⊢
      simp only [p9_22, p9_23, p9_24] at hK9 ⊢
      clear p9_22 p9_23 p9_24
      go_simp
      exact hK9 _ (Grow.refl _)
    case s7_26 =>
      intro u9 w9 hT9 hV9 K9 hK9
      have p9_22 := hV9 22 rfl
      have p9_25 := hV9 25 rfl
      clear hV9
      simp only [putAll, Act.put, List.setIfInBounds_toArray, List.set_cons_succ, List.set_cons_zero, List.getD_cons_succ, List.getD_cons_zero, Nat.reduceAdd, Nat.zero_add] at p9_22 p9_25 hK9 ⊢
      simp only [p9_22, p9_25] at hK9 ⊢
      clear p9_22 p9_25
      go_simp
      exact hK9 _ (Grow.refl _)
    case s7_27 =>
      intro u9 w9 hT9 hV9 K9 hK9
      have p9_26 := hV9 26 rfl
      clear hV9
      simp only [putAll, Act.put, List.setIfInBounds_toArray, List.set_cons_succ, List.set_cons_zero, List.getD_cons_succ, List.getD_cons_zero, Nat.reduceAdd, Nat.zero_add] at p9_26 hK9 ⊢
      simp only [p9_26] at hK9 ⊢
      clear p9_26
      go_simp
      exact hK9 _ (Grow.refl _)
    case s7_28 =>
      intro u9 w9 hT9 hV9 K9 hK9
      have p9_27 := hV9 27 rfl
      clear hV9
      simp only [putAll, Act.put, List.setIfInBounds_toArray, List.set_cons_succ, List.set_cons_zero, List.getD_cons_succ, List.getD_cons_zero, Nat.reduceAdd, Nat.zero_add] at p9_27 hK9 ⊢
      simp only [p9_27] at hK9 ⊢
      clear p9_27
      go_simp
      exact hK9 _ (Grow.refl _)
    case s7_29 =>
      intro u9 w9 hT9 hV9 K9 hK9
      have p9_27 := hV9 27 rfl
      clear hV9
      simp only [putAll, Act.put, List.setIfInBounds_toArray, List.set_cons_succ, List.set_cons_zero, List.getD_cons_succ, List.getD_cons_zero, Nat.reduceAdd, Nat.zero_add] at p9_27 hK9 ⊢
      simp only [p9_27] at hK9 ⊢
      clear p9_27
      go_simp
      exact hK9 _ (Grow.refl _)
    case s7_30 =>
      intro u9 w9 hT9 hV9 K9 hK9
      have p9_27 := hV9 27 rfl
      have p9_28 := hV9 28 rfl
      have p9_29 := hV9 29 rfl
      clear hV9
      simp only [putAll, Act.put, List.setIfInBounds_toArray, List.set_cons_succ, List.set_cons_zero, List.getD_cons_succ, List.getD_cons_zero, Nat.reduceAdd, Nat.zero_add] at p9_27 p9_28 p9_29 hK9 ⊢
      simp only [p9_27, p9_28, p9_29] at hK9 ⊢
      clear p9_27 p9_28 p9_29
      go_simp
      exact hK9 _ (Grow.refl _)
    case s7_31 =>
      intro u9 w9 hT9 hV9 K9 hK9
      have p9_27 := hV9 27 rfl
      have p9_30 := hV9 30 rfl
      clear hV9
      simp only [putAll, Act.put, List.setIfInBounds_toArray, List.set_cons_succ, List.set_cons_zero, List.getD_cons_succ, List.getD_cons_zero, Nat.reduceAdd, Nat.zero_add] at p9_27 p9_30 hK9 ⊢
      simp only [p9_27, p9_30] at hK9 ⊢
      clear p9_27 p9_30
      go_simp
      exact hK9 _ (Grow.refl _)
    case s7_32 =>
      intro u9 w9 hT9 hV9 K9 hK9
      have p9_27 := hV9 27 rfl
      clear hV9
      simp only [putAll, Act.put, List.setIfInBounds_toArray, List.set_cons_succ, List.set_cons_zero, List.getD_cons_succ, List.getD_cons_zero, Nat.reduceAdd, Nat.zero_add] at p9_27 hK9 ⊢
      simp only [p9_27] at hK9 ⊢
      clear p9_27
      go_simp
      exact hK9 _ (Grow.refl _)
    case s7_33 =>
      intro u9 w9 hT9 hV9 K9 hK9
      have p9_27 := hV9 27 rfl
      clear hV9
      simp only [putAll, Act.put, List.setIfInBounds_toArray, List.set_cons_succ, List.set_cons_zero, List.getD_cons_succ, List.getD_cons_zero, Nat.reduceAdd, Nat.zero_add] at p9_27 hK9 ⊢
      simp only [p9_27] at hK9 ⊢
      clear p9_27
      go_simp
      exact hK9 _ (Grow.refl _)
    case s7_34 =>
      intro u9 w9 hT9 hV9 K9 hK9
      have p9_27 := hV9 27 rfl
      have p9_32 := hV9 32 rfl
      have p9_33 := hV9 33 rfl
      clear hV9
      simp only [putAll, Act.put, List.setIfInBounds_toArray, List.set_cons_succ, List.set_cons_zero, List.getD_cons_succ, List.getD_cons_zero, Nat.reduceAdd, Nat.zero_add] at p9_27 p9_32 p9_33 hK9 ⊢
      simp only [p9_27, p9_32, p9_33] at hK9 ⊢
      clear p9_27 p9_32 p9_33
      go_simp
      exact hK9 _ (Grow.refl _)
    case s7_35 =>
      intro u9 w9 hT9 hV9 K9 hK9
      have p9_27 := hV9 27 rfl
      have p9_34 := hV9 34 rfl
      clear hV9
      simp only [putAll, Act.put, List.setIfInBounds_toArray, List.set_cons_succ, List.set_cons_zero, List.getD_cons_succ, List.getD_cons_zero, Nat.reduceAdd, Nat.zero_add] at p9_27 p9_34 hK9 ⊢
      simp only [p9_27, p9_34] at hK9 ⊢
      clear p9_27 p9_34
      go_simp
      exact hK9 _ (Grow.refl _)
    case s7_36 =>
      intro u9 w9 hT9 hV9 K9 hK9
      have p9_27 := hV9 27 rfl
      have p9_31 := hV9 31 rfl
      have p9_35 := hV9 35 rfl
      clear hV9
      simp only [putAll, Act.put, List.setIfInBounds_toArray, List.set_cons_succ, List.set_cons_zero, List.getD_cons_succ, List.getD_cons_zero, Nat.reduceAdd, Nat.zero_add] at p9_27 p9_31 p9_35 hK9 ⊢
      simp only [p9_27, p9_31, p9_35] at hK9 ⊢
      clear p9_27 p9_31 p9_35
      go_simp
      exact hK9 _ (Grow.refl _)
    case s7_37 =>
      intro u9 w9 hT9 hV9 K9 hK9
      have p9_27 := hV9 27 rfl
      have p9_36 := hV9 36 rfl
      clear hV9
      simp only [putAll, Act.put, List.setIfInBounds_toArray, List.set_cons_succ, List.set_cons_zero, List.getD_cons_succ, List.getD_cons_zero, Nat.reduceAdd, Nat.zero_add] at p9_27 p9_36 hK9 ⊢
      simp only [p9_27, p9_36] at hK9 ⊢
      clear p9_27 p9_36
      go_simp
      exact hK9 _ (Grow.refl _)
    case s7_38 =>
      intro u9 w9 hT9 hV9 K9 hK9
      have p9_37 := hV9 37 rfl
      clear hV9
      simp only [putAll, Act.put, List.setIfInBounds_toArray, List.set_cons_succ, List.set_cons_zero, List.getD_cons_succ, List.getD_cons_zero, Nat.reduceAdd, Nat.zero_add] at p9_37 hK9 ⊢
      simp only [p9_37] at hK9 ⊢
      clear p9_37
      go_simp
      exact hK9 _ (Grow.refl _)
    intro w9 hb9
    simp only [putAll, Act.put, List.setIfInBounds_toArray, List.set_cons_succ, List.set_cons_zero, List.getD_cons_succ, List.getD_cons_zero, Nat.reduceAdd, Nat.zero_add]
    go_wp2
    go_ret
    exact ⟨hb.trans (hb9.mono hb.size), false, rfl, by simp only [Bool.false_eq_true, false_iff]; exact fun ⟨ps, h, _⟩ => HN.out ps h⟩

set_option maxRecDepth 100000 in
set_option maxHeartbeats 2000000 in
theorem rcommon_any (A : Option Addr) (c : Nat) (ls : List Lab) (i j : Int) (w : World) (hA : Labs w A ls) (hx : ls.length ≤ maxLen) :
    Calls Try.prog 27 #[.slice A ls.length c, .int .i64 i, .int .i64 j] w (ComPost ls i j w) := by
  have HC := Lib.hid (rparents_any A c ls w hA hx)
  unfold maxLen at hx
  go_enter Try.func27, Try.ntmps27
  go_wp2_with fail
  refine HC.out.mono ?_
  rintro e w1 ⟨hb, ⟨ps, v, hF, rfl, hs⟩ | ⟨hno, rfl⟩⟩
  · obtain ⟨hn, F⟩ := facts hF
    have hlen := F.len
    obtain ⟨Ap, cp, rfl, _, _, hrd⟩ := hs
    have HF := Lib.hid hF
    have HFa := Lib.hid F
    have HNO : Hid (¬ InR ls.length i j → comP ls i j (-1)) := fun h => .inr ⟨fun ⟨_, _, h2⟩ => h h2, rfl⟩
    have hle1 : (ps.length : Int) ≤ ls.length := by omega
    have hle2 : (ls.length : Int) ≤ ps.length := by omega
    have hrd1 : Ints w1 Ap ps := hrd
    clear F hlen hF HC hrd
    by_cases r1 : 0 ≤ i
    · by_cases r2 : i < ps.length
      · by_cases r3 : 0 ≤ j
        · by_cases r4 : j < ps.length
          · obtain ⟨i0, hi0⟩ : ∃ i0 : Nat, i = (i0 : Int) := ⟨i.toNat, by omega⟩
            obtain ⟨j0, hj0⟩ : ∃ j0 : Nat, j = (j0 : Int) := ⟨j.toNat, by omega⟩
            subst hi0 hj0
            have hfin : Hid (∀ cc, IsCom ps i0 j0 cc → comP ls i0 j0 cc) := fun cc h => .inl ⟨ps, HF.out, ⟨⟨r1, by omega⟩, r3, by omega⟩, by simpa using h⟩
            have hip : i0 < ps.length := by omega
            have hjp : j0 < ps.length := by omega
            clear HNO
            have z1 : decide ((i0 : Int) < 0) = false := decide_eq_false (by omega)
            have z2 : decide (ps.length ≤ i0) = false := decide_eq_false (by omega)
            have z3 : decide ((j0 : Int) < 0) = false := decide_eq_false (by omega)
            have z4 : decide (ps.length ≤ j0) = false := decide_eq_false (by omega)
            go_wp2
            go_loopg [9] (ps.length + 1) (fun q v wr => w1 = wr ∧ ∃ (k : Nat) (x : Int), q = ps.length + 1 - k ∧ k ≤ ps.length ∧ v = .int .i64 x ∧ Hid (x = it ps k i0) ∧ -1 ≤ x ∧ x < ps.length ∧ Hid (∀ l, l < k → ∀ y : Nat, it ps l i0 = (y : Int) → ¬ Sub ps y j0))
            case atStart => exact ⟨rfl, 0, i0, rfl, by omega, rfl, rfl, by omega, by omega, fun l hl => by omega⟩
            case round =>
              obtain ⟨rfl, k, x, hq, hk, rfl, hxk, hx0, hx1, hnone⟩ := hrel
              have HQ := Lib.hid hq; clear hq
              by_cases hneg : x < 0
              · go_wp2
                go_ret
                exact ⟨hb, -1, rfl, hfin.out _ (.inr ⟨rfl, not_sub_neg (by rw [← hxk.out]; exact hneg) hnone.out⟩)⟩
              · obtain ⟨y, hy⟩ : ∃ y : Nat, x = (y : Int) := ⟨x.toNat, by omega⟩
                subst hy
                have hkn : k < ps.length := by
                  rcases Nat.lt_or_ge k ps.length with h | h
                  · exact h
                  · exfalso
                    have h1 := it_out HFa.out.v HFa.out.a hip
                    have h2 := it_neg (ps := ps) (k - ps.length) _ h1
                    rw [← it_add] at h2
                    have e : k - ps.length + ps.length = k := by omega
                    rw [e, ← hxk.out] at h2; omega
                have hyp : y < ps.length := by omega
                obtain ⟨bp, offp, rfl, hcp⟩ := hrd1.get hyp
                have hup : Hid (ps[y] = it ps (k + 1) i0) := by
                  show _ = _
                  rw [it_succ, ← hxk.out, up_nat hyp]
                have hv := HFa.out.v y hyp
                have z5 : decide ((0 : Int) ≤ (y : Int)) = true := decide_eq_true (by omega)
                go_wp2
                go_loopg [10] (ps.length + 1) (fun q v wr => w1 = wr ∧ ∃ (m : Nat) (z : Int), q = ps.length + 1 - m ∧ m ≤ ps.length ∧ v = .int .i64 z ∧ Hid (z = it ps m j0) ∧ -1 ≤ z ∧ z < ps.length ∧ Hid (∀ l, l < m → it ps l j0 ≠ (y : Int)))
                case atStart => exact ⟨rfl, 0, j0, rfl, by omega, rfl, rfl, by omega, by omega, fun l hl => by omega⟩
                case round =>
                  obtain ⟨rfl, m, z, hq, hm, rfl, hzm, hz0, hz1, hmiss⟩ := hrel
                  have HQ1 := Lib.hid hq; clear hq
                  by_cases hzn : z < 0
                  · have hnext : Hid (∀ l, l < k + 1 → ∀ t : Nat, it ps l i0 = (t : Int) → ¬ Sub ps t j0) := by
                      intro l hl t ht hs
                      by_cases e : l = k
                      · subst e
                        have : t = y := by rw [← hxk.out] at ht; omega
                        subst this
                        obtain ⟨l', hl'⟩ := sub_iff.1 hs
                        by_cases hlm : l' < m
                        · exact hmiss.out l' hlm hl'
                        · have h9 := it_neg (ps := ps) (l' - m) z hzn
                          rw [hzm.out, ← it_add] at h9
                          have e9 : l' - m + m = l' := by omega
                          rw [e9, hl'] at h9; omega
                      · exact hnone.out l (by omega) t ht hs
                    go_wp2
                    go_roundg (ps.length + 1 - (k + 1))
                    case measure => have := HQ.out; omega
                    case rel => exact ⟨rfl, k + 1, ps[y], rfl, by omega, rfl, hup, by omega, by omega, hnext⟩
                  · obtain ⟨t, ht⟩ : ∃ t : Nat, z = (t : Int) := ⟨z.toNat, by omega⟩
                    subst ht
                    have htp : t < ps.length := by omega
                    obtain ⟨_, _, e, hct⟩ := hrd1.get htp
                    cases e
                    have hmn : m < ps.length := by
                      rcases Nat.lt_or_ge m ps.length with h | h
                      · exact h
                      · exfalso
                        have h1 := it_out HFa.out.v HFa.out.a hjp
                        have h2 := it_neg (ps := ps) (m - ps.length) _ h1
                        rw [← it_add] at h2
                        have e : m - ps.length + ps.length = m := by omega
                        rw [e, ← hzm.out] at h2; omega
                    by_cases hyt : y = t
                    · have hb1 : (((y : Nat) : Int) == (t : Int)) = true := by simp [hyt]
                      have hcom : Hid (IsCom ps i0 j0 y) := .inl ⟨k, y, hxk.out.symm, rfl, sub_iff.2 ⟨m, by rw [← hzm.out, hyt]⟩, hnone.out⟩
                      clear hyt
                      go_wp2
                      go_ret
                      exact ⟨hb, y, rfl, hfin.out y hcom.out⟩
                    · have hb1 : (((y : Nat) : Int) == (t : Int)) = false := by simp; omega
                      have hupt : Hid (ps[t] = it ps (m + 1) j0) := by
                        show _ = _
                        rw [it_succ, ← hzm.out, up_nat htp]
                      have hvt := HFa.out.v t htp
                      have hmiss' : Hid (∀ l, l < m + 1 → it ps l j0 ≠ (y : Int)) := by
                        intro l hl e
                        by_cases e9 : l = m
                        · subst e9; rw [← hzm.out] at e; exact hyt (by omega)
                        · exact hmiss.out l (by omega) e
                      clear hyt
                      go_wp2
                      go_roundg (ps.length + 1 - (m + 1))
                      case measure => have := HQ1.out; omega
                      case rel => exact ⟨rfl, m + 1, ps[t], rfl, by omega, rfl, hupt, by omega, by omega, hmiss'⟩
          · go_wp2
            go_ret
            exact ⟨hb, -1, rfl, HNO.out (fun h => by have := h.2.2; omega)⟩
        · go_wp2
          go_ret
          exact ⟨hb, -1, rfl, HNO.out (fun h => by have := h.2.1; omega)⟩
      · go_wp2
        go_ret
        exact ⟨hb, -1, rfl, HNO.out (fun h => by have := h.1.2; omega)⟩
    · go_wp2
      go_ret
      exact ⟨hb, -1, rfl, HNO.out (fun h => by have := h.1.1; omega)⟩
  · obtain ⟨k, hk, hk0⟩ : ∃ k : Int, (if 4096 < ls.length then (2 : Int) else 9) = k ∧ (k != 0) = true := by
      split
      · exact ⟨2, rfl, rfl⟩
      · exact ⟨9, rfl, rfl⟩
    rw [hk]
    clear hk
    have HN := Lib.hid hno
    clear hno
    go_wp2
    go_ret
    exact ⟨hb, -1, rfl, .inr ⟨fun ⟨ps, h, _⟩ => HN.out ps h, rfl⟩⟩
end Go.Proofs.Ytgimddboflhpaaa
