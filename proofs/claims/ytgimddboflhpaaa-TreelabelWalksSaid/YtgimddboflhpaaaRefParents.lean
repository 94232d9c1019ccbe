/- The reference's Parents: what it returns. -/
import Derived.Test.YtgimddboflhpaaaParents
import Derived.Test.YtgimddboflhpaaaReg
import Derived.Test.YtgimddboflhpaaaEqs
namespace Go.Proofs.Ytgimddboflhpaaa
set_option linter.unusedSimpArgs false
set_option linter.unusedVariables false
set_option linter.unusedSectionVars false
open Go.RowKit Tr

theorem better_dom {ls : List Lab} {x : Lab} {best : Int} {k : Nat} (h : Dom (labAt ls k) x = false) : better ls x best k = false := by simp [better, h]
theorem better_neg {ls : List Lab} {x : Lab} {best : Int} {k : Nat} (h : Dom (labAt ls k) x = true) (hb : best < 0) : better ls x best k = true := by simp [better, h, hb]
theorem better_deep {ls : List Lab} {x : Lab} {best : Int} {k : Nat} (h : Dom (labAt ls k) x = true) (hb : ¬ best < 0) : better ls x best k = decide ((labAt ls best.toNat).2.2 < (labAt ls k).2.2) := by simp [better, h, hb]
theorem cand2_get {ls : List Lab} {i : Nat} (h : i < ls.length) : (cand2 ls).take (i + 1) = (cand2 ls).take i ++ [bestTo ls (labAt ls i) ls.length] := by
  rw [List.take_succ_eq_append_getElem (by simpa [cand2] using h)]
  simp [cand2]
theorem cand2_len (ls : List Lab) : (cand2 ls).length = ls.length := by simp [cand2]

set_option maxRecDepth 100000 in
set_option maxHeartbeats 4000000 in
theorem rparents_any (A : Option Addr) (c : Nat) (ls : List Lab) (w : World) (hA : Labs w A ls) (hx : ls.length ≤ maxLen) :
    Calls Try.prog 16 #[.slice A ls.length c] w (ParPost ls w) := by
  unfold maxLen at hx
  by_cases hl : 4096 < ls.length
  · go_enter Try.func16, Try.ntmps16
    go_wp2
    go_ret2
    refine ⟨Below.refl _ _, .inr ⟨fun ps h => ?_, by rw [if_pos hl]; rfl⟩⟩
    obtain ⟨h1, F⟩ := facts h
    rw [← F.len] at h1
    omega
  · have hl' : ls.length ≤ 4096 := by omega
    have hE : Hid ((if 4096 < ls.length then (2 : Int) else 9) = 9) := if_neg hl
    obtain ⟨i3, hi3, hz30, hz31, hz32⟩ := info_parts int_info3
    go_enter Try.func16, Try.ntmps16
    go_wp2
    go_loopg [4, 19] ls.length (fun q v k wr => ∃ i : Nat, q = ls.length - i ∧ i ≤ ls.length ∧ k = .int .i64 i ∧ wr.ownsRow w.heap.size 3 1 v i (ci ((cand2 ls).take i)) ∧ Below w.heap.size w wr)
    case atStart => exact ⟨0, rfl, Nat.zero_le _, rfl, World.ownsRow_nil _ _ _ _, Below.refl _ _⟩
    case round =>
      obtain ⟨i, hq, hi, rfl, hown, hbw⟩ := hrel
      have HQ := Lib.hid hq; clear hq
      by_cases hlt : i < ls.length
      · obtain ⟨b, off, rfl, h0, h1, h2⟩ := (hA.below hbw).get hlt
        rw [labAt_get hlt] at h0 h1 h2
        have hX : Own (wr.alloc (.cells #[.int .i64 (labAt ls i).1, .int .i64 (labAt ls i).2.1, .int .i64 (labAt ls i).2.2] 43)) wr.heap.size 43 (c3 (labAt ls i)) := Own.new _ _ _
        have hown1 := hown.alloc (.cells #[.int .i64 (labAt ls i).1, .int .i64 (labAt ls i).2.1, .int .i64 (labAt ls i).2.2] 43)
        have hbw1 := hbw.alloc hbw.size (.cells #[.int .i64 (labAt ls i).1, .int .i64 (labAt ls i).2.1, .int .i64 (labAt ls i).2.2] 43)
        have hxg : w.heap.size ≤ wr.heap.size := hbw.size
        have hXl : wr.heap.size < (wr.alloc (.cells #[.int .i64 (labAt ls i).1, .int .i64 (labAt ls i).2.1, .int .i64 (labAt ls i).2.2] 43)).heap.size := by rw [size1]; omega
        go_wp2
        clear h0 h1 h2 hown hbw
        generalize wr.alloc (.cells #[.int .i64 (labAt ls i).1, .int .i64 (labAt ls i).2.1, .int .i64 (labAt ls i).2.2] 43) = w1 at hX hown1 hbw1 hXl ⊢
        generalize wr.heap.size = gx at hX hxg hXl ⊢
        go_loopg [7, 25] ls.length (fun q v k wr => ∃ (m : Nat) (best : Int), q = ls.length - m ∧ m ≤ ls.length ∧ k = .int .i64 m ∧ v = .int .i64 best ∧ Hid (best = bestTo ls (labAt ls i) m) ∧ best < m ∧ -1 ≤ best ∧ Own wr gx 43 (c3 (labAt ls i)) ∧ wr.ownsRow w.heap.size 3 1 u4 i (ci ((cand2 ls).take i)) ∧ Below w.heap.size w wr)
        case atStart => exact ⟨0, -1, rfl, Nat.zero_le _, rfl, rfl, rfl, by omega, by omega, hX, hown1, hbw1⟩
        case round =>
          clear hX hown1 hbw1
          obtain ⟨m, best, hq, hm, rfl, rfl, hbest, hb0, hb1, hX, hown, hbw⟩ := hrel
          have HQ1 := Lib.hid hq; clear hq
          by_cases hlt2 : m < ls.length
          · obtain ⟨_, _, e, k0, k1, k2⟩ := (hA.below hbw).get hlt2
            cases e
            rw [labAt_get hlt2] at k0 k1 k2
            have hstep : Hid (bestTo ls (labAt ls i) (m + 1) = if better ls (labAt ls i) best m then (m : Int) else best) := by
              show _ = _
              rw [bestTo, ← hbest.out]
            have hX0 : wr.cell? ⟨gx, 0, none⟩ = some (.int .i64 (labAt ls i).1) := by rw [hX.cell]; rfl
            have hX1 : wr.cell? ⟨gx, 1, none⟩ = some (.int .i64 (labAt ls i).2.1) := by rw [hX.cell]; rfl
            have hX2 : wr.cell? ⟨gx, 2, none⟩ = some (.int .i64 (labAt ls i).2.2) := by rw [hX.cell]; rfl
            have hY := Own.new wr 43 (c3 (labAt ls m))
            have hbwY : Below wr.heap.size wr (wr.alloc (.cells (c3 (labAt ls m)).toArray 43)) := (Below.refl _ _).alloc (Nat.le_refl _) _
            have hX0 := below_cell hbwY hX0
            have hX1 := below_cell hbwY hX1
            have hX2 := below_cell hbwY hX2
            have hY0 : (wr.alloc (.cells (c3 (labAt ls m)).toArray 43)).cell? ⟨wr.heap.size, 0, none⟩ = some (.int .i64 (labAt ls m).1) := by rw [hY.cell]; rfl
            have hY1 : (wr.alloc (.cells (c3 (labAt ls m)).toArray 43)).cell? ⟨wr.heap.size, 1, none⟩ = some (.int .i64 (labAt ls m).2.1) := by rw [hY.cell]; rfl
            have hY2 : (wr.alloc (.cells (c3 (labAt ls m)).toArray 43)).cell? ⟨wr.heap.size, 2, none⟩ = some (.int .i64 (labAt ls m).2.2) := by rw [hY.cell]; rfl
            have hXn := hX.alloc (.cells (c3 (labAt ls m)).toArray 43)
            have hownn := hown.alloc (.cells (c3 (labAt ls m)).toArray 43)
            have hbwn := hbw.alloc hbw.size (.cells (c3 (labAt ls m)).toArray 43)
            clear hbwY hY
            go_upto_region 11 with (fail)
            clear k0 k1 k2
            generalize wr.alloc (.cells (c3 (labAt ls m)).toArray 43) = w2 at hXn hownn hbwn hX0 hX1 hX2 hY0 hY1 hY2 ⊢
            generalize wr.heap.size = gy at hY0 hY1 hY2 ⊢
            clear hX hown hbw
            cases hDm : Dom (labAt ls m) (labAt ls i) with
            | true =>
              have HD : Hid (∀ w, Calls Try.prog 22 #[.agg #[.int .i64 (labAt ls m).1, .int .i64 (labAt ls m).2.1, .int .i64 (labAt ls m).2.2], .agg #[.int .i64 (labAt ls i).1, .int .i64 (labAt ls i).2.1, .int .i64 (labAt ls i).2.2]] w fun e w' => e = .returned (.bool true) ∧ Below w.heap.size w w') := by
                intro w
                have := rdominates_any (labAt ls m) (labAt ls i) w
                rw [hDm] at this
                exact this
              have HDM := Lib.hid hDm; clear hDm
              by_cases hneg : best < 0
              · go_wp2
                refine wp_reg_vals [some 30, some 31, some 32, some 33, some 34, some 35, some 36, some 37, some 38, some 39, some 40, some 41, some 42, some 43, some 44, some 45, some 46] [?v1_0, ?v1_1, ?v1_2, ?v1_3, ?v1_4, ?v1_5, ?v1_6, ?v1_7, ?v1_8, ?v1_9, ?v1_10, ?v1_11, ?v1_12, ?v1_13, ?v1_14, ?v1_15, ?v1_16] rfl (by kernel_rfl) rfl rfl ⟨?s1_0, ?s1_1, ?s1_2, ?s1_3, ?s1_4, ?s1_5, ?s1_6, ?s1_7, ?s1_8, ?s1_9, ?s1_10, ?s1_11, ?s1_12, ?s1_13, ?s1_14, ?s1_15, ?s1_16, trivial⟩ ?p1
                case s1_0 =>
                  intro u9 w9 hT9 hV9 K9 hK9
                  clear hV9
                  simp only [putAll, Act.put, List.setIfInBounds_toArray, List.set_cons_succ, List.set_cons_zero, List.getD_cons_succ, List.getD_cons_zero, Nat.reduceAdd, Nat.zero_add] at hK9 ⊢
                  have d9_0 := grow_cell hT9 hY0
                  have d9_1 := grow_cell hT9 hY1
                  have d9_2 := grow_cell hT9 hY2
                  have d9_3 := grow_cell hT9 hX0
                  have d9_4 := grow_cell hT9 hX1
                  have d9_5 := grow_cell hT9 hX2
                  go_simp
                  exact hK9 _ (Grow.refl _)
                case s1_1 =>
                  intro u9 w9 hT9 hV9 K9 hK9
                  clear hV9
                  simp only [putAll, Act.put, List.setIfInBounds_toArray, List.set_cons_succ, List.set_cons_zero, List.getD_cons_succ, List.getD_cons_zero, Nat.reduceAdd, Nat.zero_add] at hK9 ⊢
                  have d9_0 := grow_cell hT9 hY0
                  have d9_1 := grow_cell hT9 hY1
                  have d9_2 := grow_cell hT9 hY2
                  have d9_3 := grow_cell hT9 hX0
                  have d9_4 := grow_cell hT9 hX1
                  have d9_5 := grow_cell hT9 hX2
                  go_simp
                  exact hK9 _ (Grow.refl _)
                case s1_2 =>
                  intro u9 w9 hT9 hV9 K9 hK9
                  have p9_0 := hV9 0 rfl
                  have p9_1 := hV9 1 rfl
                  clear hV9
                  simp only [putAll, Act.put, List.setIfInBounds_toArray, List.set_cons_succ, List.set_cons_zero, List.getD_cons_succ, List.getD_cons_zero, Nat.reduceAdd, Nat.zero_add] at p9_0 p9_1 hK9 ⊢
                  simp only [p9_0, p9_1] at hK9 ⊢
                  clear p9_0 p9_1
                  go_simp
                  first | exact hK9 _ (Grow.refl _) | (refine (HD.out _).mono ?_; rintro _ w8 ⟨rfl, hb8⟩; exact hK9 _ hb8)
                case s1_3 =>
                  intro u9 w9 hT9 hV9 K9 hK9
                  have p9_2 := hV9 2 rfl
                  clear hV9
                  simp only [putAll, Act.put, List.setIfInBounds_toArray, List.set_cons_succ, List.set_cons_zero, List.getD_cons_succ, List.getD_cons_zero, Nat.reduceAdd, Nat.zero_add] at p9_2 hK9 ⊢
                  simp only [p9_2] at hK9 ⊢
                  clear p9_2
                  go_simp
                  exact hK9 _ (Grow.refl _)
                case s1_4 =>
                  intro u9 w9 hT9 hV9 K9 hK9
                  have p9_3 := hV9 3 rfl
                  clear hV9
                  simp only [putAll, Act.put, List.setIfInBounds_toArray, List.set_cons_succ, List.set_cons_zero, List.getD_cons_succ, List.getD_cons_zero, Nat.reduceAdd, Nat.zero_add] at p9_3 hK9 ⊢
                  simp only [p9_3] at hK9 ⊢
                  clear p9_3
                  go_simp
                  exact hK9 _ (Grow.refl _)
                case s1_5 =>
                  intro u9 w9 hT9 hV9 K9 hK9
                  have p9_3 := hV9 3 rfl
                  have p9_4 := hV9 4 rfl
                  clear hV9
                  simp only [putAll, Act.put, List.setIfInBounds_toArray, List.set_cons_succ, List.set_cons_zero, List.getD_cons_succ, List.getD_cons_zero, Nat.reduceAdd, Nat.zero_add] at p9_3 p9_4 hK9 ⊢
                  simp only [p9_3, p9_4] at hK9 ⊢
                  clear p9_3 p9_4
                  go_simp
                  exact hK9 _ (Grow.refl _)
                case s1_6 =>
                  intro u9 w9 hT9 hV9 K9 hK9
                  have p9_3 := hV9 3 rfl
                  have p9_5 := hV9 5 rfl
                  clear hV9
                  simp only [putAll, Act.put, List.setIfInBounds_toArray, List.set_cons_succ, List.set_cons_zero, List.getD_cons_succ, List.getD_cons_zero, Nat.reduceAdd, Nat.zero_add] at p9_3 p9_5 hK9 ⊢
                  simp only [p9_3, p9_5] at hK9 ⊢
                  clear p9_3 p9_5
                  go_simp
                  exact hK9 _ (Grow.refl _)
                case s1_7 =>
                  intro u9 w9 hT9 hV9 K9 hK9
                  have p9_6 := hV9 6 rfl
                  clear hV9
                  simp only [putAll, Act.put, List.setIfInBounds_toArray, List.set_cons_succ, List.set_cons_zero, List.getD_cons_succ, List.getD_cons_zero, Nat.reduceAdd, Nat.zero_add] at p9_6 hK9 ⊢
                  simp only [p9_6] at hK9 ⊢
                  clear p9_6
                  go_simp
                  exact hK9 _ (Grow.refl _)
                case s1_8 =>
                  intro u9 w9 hT9 hV9 K9 hK9
                  have p9_6 := hV9 6 rfl
                  have p9_7 := hV9 7 rfl
                  clear hV9
                  simp only [putAll, Act.put, List.setIfInBounds_toArray, List.set_cons_succ, List.set_cons_zero, List.getD_cons_succ, List.getD_cons_zero, Nat.reduceAdd, Nat.zero_add] at p9_6 p9_7 hK9 ⊢
                  simp only [p9_6, p9_7] at hK9 ⊢
                  clear p9_6 p9_7
                  have d9_0 := grow_cell hT9 hY0
                  have d9_1 := grow_cell hT9 hY1
                  have d9_2 := grow_cell hT9 hY2
                  have d9_3 := grow_cell hT9 hX0
                  have d9_4 := grow_cell hT9 hX1
                  have d9_5 := grow_cell hT9 hX2
                  go_simp
                  exact hK9 _ (Grow.refl _)
                case s1_9 =>
                  intro u9 w9 hT9 hV9 K9 hK9
                  have p9_6 := hV9 6 rfl
                  clear hV9
                  simp only [putAll, Act.put, List.setIfInBounds_toArray, List.set_cons_succ, List.set_cons_zero, List.getD_cons_succ, List.getD_cons_zero, Nat.reduceAdd, Nat.zero_add] at p9_6 hK9 ⊢
                  simp only [p9_6] at hK9 ⊢
                  clear p9_6
                  go_simp
                  exact hK9 _ (Grow.refl _)
                case s1_10 =>
                  intro u9 w9 hT9 hV9 K9 hK9
                  have p9_6 := hV9 6 rfl
                  clear hV9
                  simp only [putAll, Act.put, List.setIfInBounds_toArray, List.set_cons_succ, List.set_cons_zero, List.getD_cons_succ, List.getD_cons_zero, Nat.reduceAdd, Nat.zero_add] at p9_6 hK9 ⊢
                  simp only [p9_6] at hK9 ⊢
                  clear p9_6
                  go_simp
                  exact hK9 _ (Grow.refl _)
                case s1_11 =>
                  intro u9 w9 hT9 hV9 K9 hK9
                  have p9_6 := hV9 6 rfl
                  have p9_9 := hV9 9 rfl
                  have p9_10 := hV9 10 rfl
                  clear hV9
                  simp only [putAll, Act.put, List.setIfInBounds_toArray, List.set_cons_succ, List.set_cons_zero, List.getD_cons_succ, List.getD_cons_zero, Nat.reduceAdd, Nat.zero_add] at p9_6 p9_9 p9_10 hK9 ⊢
                  simp only [p9_6, p9_9, p9_10] at hK9 ⊢
                  clear p9_6 p9_9 p9_10
                  go_simp
                  exact hK9 _ (Grow.refl _)
                case s1_12 =>
                  intro u9 w9 hT9 hV9 K9 hK9
                  have p9_6 := hV9 6 rfl
                  have p9_11 := hV9 11 rfl
                  clear hV9
                  simp only [putAll, Act.put, List.setIfInBounds_toArray, List.set_cons_succ, List.set_cons_zero, List.getD_cons_succ, List.getD_cons_zero, Nat.reduceAdd, Nat.zero_add] at p9_6 p9_11 hK9 ⊢
                  simp only [p9_6, p9_11] at hK9 ⊢
                  clear p9_6 p9_11
                  go_simp
                  exact hK9 _ (Grow.refl _)
                case s1_13 =>
                  intro u9 w9 hT9 hV9 K9 hK9
                  have p9_6 := hV9 6 rfl
                  have p9_12 := hV9 12 rfl
                  clear hV9
                  simp only [putAll, Act.put, List.setIfInBounds_toArray, List.set_cons_succ, List.set_cons_zero, List.getD_cons_succ, List.getD_cons_zero, Nat.reduceAdd, Nat.zero_add] at p9_6 p9_12 hK9 ⊢
                  simp only [p9_6, p9_12] at hK9 ⊢
                  clear p9_6 p9_12
                  have d9_0 := grow_cell hT9 hY0
                  have d9_1 := grow_cell hT9 hY1
                  have d9_2 := grow_cell hT9 hY2
                  have d9_3 := grow_cell hT9 hX0
                  have d9_4 := grow_cell hT9 hX1
                  have d9_5 := grow_cell hT9 hX2
                  go_simp
                  exact hK9 _ (Grow.refl _)
                case s1_14 =>
                  intro u9 w9 hT9 hV9 K9 hK9
                  have p9_6 := hV9 6 rfl
                  have p9_8 := hV9 8 rfl
                  have p9_13 := hV9 13 rfl
                  clear hV9
                  simp only [putAll, Act.put, List.setIfInBounds_toArray, List.set_cons_succ, List.set_cons_zero, List.getD_cons_succ, List.getD_cons_zero, Nat.reduceAdd, Nat.zero_add] at p9_6 p9_8 p9_13 hK9 ⊢
                  simp only [p9_6, p9_8, p9_13] at hK9 ⊢
                  clear p9_6 p9_8 p9_13
                  go_simp
                  exact hK9 _ (Grow.refl _)
                case s1_15 =>
                  intro u9 w9 hT9 hV9 K9 hK9
                  have p9_3 := hV9 3 rfl
                  have p9_6 := hV9 6 rfl
                  have p9_14 := hV9 14 rfl
                  clear hV9
                  simp only [putAll, Act.put, List.setIfInBounds_toArray, List.set_cons_succ, List.set_cons_zero, List.getD_cons_succ, List.getD_cons_zero, Nat.reduceAdd, Nat.zero_add] at p9_3 p9_6 p9_14 hK9 ⊢
                  simp only [p9_3, p9_6, p9_14] at hK9 ⊢
                  clear p9_3 p9_6 p9_14
                  go_simp
                  exact hK9 _ (Grow.refl _)
                case s1_16 =>
                  intro u9 w9 hT9 hV9 K9 hK9
                  have p9_3 := hV9 3 rfl
                  have p9_15 := hV9 15 rfl
                  clear hV9
                  simp only [putAll, Act.put, List.setIfInBounds_toArray, List.set_cons_succ, List.set_cons_zero, List.getD_cons_succ, List.getD_cons_zero, Nat.reduceAdd, Nat.zero_add] at p9_3 p9_15 hK9 ⊢
                  simp only [p9_3, p9_15] at hK9 ⊢
                  clear p9_3 p9_15
                  go_simp
                  exact hK9 _ (Grow.refl _)
                intro w9 hb9
                simp only [putAll, Act.put, List.setIfInBounds_toArray, List.set_cons_succ, List.set_cons_zero, List.getD_cons_succ, List.getD_cons_zero, Nat.reduceAdd, Nat.zero_add]
                have hXf : Own w9 gx 43 (c3 (labAt ls i)) := hXn.below hb9 hXn.lt
                have hownf := hownn.kept (row := none) (⟨hb9.os, hb9.tape, hb9.output, hb9.size, fun k hk _ => hb9.block k hk⟩ : World.grownBy _ _ _) (by cases u4.ownBlock <;> simp)
                have hbwf : Below w.heap.size w w9 := hbwn.trans (hb9.mono hbwn.size)
                clear hX0 hX1 hX2 hY0 hY1 hY2 hXn hownn hbwn
                go_wp2
                go_roundg (ls.length - (m + 1))
                case measure => have := HQ1.out; omega
                case rel => exact ⟨m + 1, (m : Int), rfl, by omega, by go_num, rfl, by rw [hstep.out, if_pos (better_neg HDM.out hneg)]; rfl, by omega, by omega, hXf, hownf, hbwf⟩
              · have hbl : best.toNat < ls.length := by omega
                obtain ⟨_, _, e, _, _, hD0⟩ := (hA.below hbwn).get hbl
                cases e
                rw [labAt_get hbl] at hD0
                have hb00 : 0 ≤ best := by omega
                have hbL : best < ls.length := by omega
                by_cases hdp : (labAt ls best.toNat).2.2 < (labAt ls m).2.2
                · go_wp2
                  refine wp_reg_vals [some 30, some 31, some 32, some 33, some 34, some 35, some 36, some 37, some 38, some 39, some 40, some 41, some 42, some 43, some 44, some 45, some 46] [?v2_0, ?v2_1, ?v2_2, ?v2_3, ?v2_4, ?v2_5, ?v2_6, ?v2_7, ?v2_8, ?v2_9, ?v2_10, ?v2_11, ?v2_12, ?v2_13, ?v2_14, ?v2_15, ?v2_16] rfl (by kernel_rfl) rfl rfl ⟨?s2_0, ?s2_1, ?s2_2, ?s2_3, ?s2_4, ?s2_5, ?s2_6, ?s2_7, ?s2_8, ?s2_9, ?s2_10, ?s2_11, ?s2_12, ?s2_13, ?s2_14, ?s2_15, ?s2_16, trivial⟩ ?p2
                  case s2_0 =>
                    intro u9 w9 hT9 hV9 K9 hK9
                    clear hV9
                    simp only [putAll, Act.put, List.setIfInBounds_toArray, List.set_cons_succ, List.set_cons_zero, List.getD_cons_succ, List.getD_cons_zero, Nat.reduceAdd, Nat.zero_add] at hK9 ⊢
                    have d9_0 := grow_cell hT9 hY0
                    have d9_1 := grow_cell hT9 hY1
                    have d9_2 := grow_cell hT9 hY2
                    have d9_3 := grow_cell hT9 hX0
                    have d9_4 := grow_cell hT9 hX1
                    have d9_5 := grow_cell hT9 hX2
                    have d9_6 := grow_cell hT9 hD0
                    go_simp
                    exact hK9 _ (Grow.refl _)
                  case s2_1 =>
                    intro u9 w9 hT9 hV9 K9 hK9
                    clear hV9
                    simp only [putAll, Act.put, List.setIfInBounds_toArray, List.set_cons_succ, List.set_cons_zero, List.getD_cons_succ, List.getD_cons_zero, Nat.reduceAdd, Nat.zero_add] at hK9 ⊢
                    have d9_0 := grow_cell hT9 hY0
                    have d9_1 := grow_cell hT9 hY1
                    have d9_2 := grow_cell hT9 hY2
                    have d9_3 := grow_cell hT9 hX0
                    have d9_4 := grow_cell hT9 hX1
                    have d9_5 := grow_cell hT9 hX2
                    have d9_6 := grow_cell hT9 hD0
                    go_simp
                    exact hK9 _ (Grow.refl _)
                  case s2_2 =>
                    intro u9 w9 hT9 hV9 K9 hK9
                    have p9_0 := hV9 0 rfl
                    have p9_1 := hV9 1 rfl
                    clear hV9
                    simp only [putAll, Act.put, List.setIfInBounds_toArray, List.set_cons_succ, List.set_cons_zero, List.getD_cons_succ, List.getD_cons_zero, Nat.reduceAdd, Nat.zero_add] at p9_0 p9_1 hK9 ⊢
                    simp only [p9_0, p9_1] at hK9 ⊢
                    clear p9_0 p9_1
                    go_simp
                    first | exact hK9 _ (Grow.refl _) | (refine (HD.out _).mono ?_; rintro _ w8 ⟨rfl, hb8⟩; exact hK9 _ hb8)
                  case s2_3 =>
                    intro u9 w9 hT9 hV9 K9 hK9
                    have p9_2 := hV9 2 rfl
                    clear hV9
                    simp only [putAll, Act.put, List.setIfInBounds_toArray, List.set_cons_succ, List.set_cons_zero, List.getD_cons_succ, List.getD_cons_zero, Nat.reduceAdd, Nat.zero_add] at p9_2 hK9 ⊢
                    simp only [p9_2] at hK9 ⊢
                    clear p9_2
                    go_simp
                    exact hK9 _ (Grow.refl _)
                  case s2_4 =>
                    intro u9 w9 hT9 hV9 K9 hK9
                    have p9_3 := hV9 3 rfl
                    clear hV9
                    simp only [putAll, Act.put, List.setIfInBounds_toArray, List.set_cons_succ, List.set_cons_zero, List.getD_cons_succ, List.getD_cons_zero, Nat.reduceAdd, Nat.zero_add] at p9_3 hK9 ⊢
                    simp only [p9_3] at hK9 ⊢
                    clear p9_3
                    go_simp
                    exact hK9 _ (Grow.refl _)
                  case s2_5 =>
                    intro u9 w9 hT9 hV9 K9 hK9
                    have p9_3 := hV9 3 rfl
                    have p9_4 := hV9 4 rfl
                    clear hV9
                    simp only [putAll, Act.put, List.setIfInBounds_toArray, List.set_cons_succ, List.set_cons_zero, List.getD_cons_succ, List.getD_cons_zero, Nat.reduceAdd, Nat.zero_add] at p9_3 p9_4 hK9 ⊢
                    simp only [p9_3, p9_4] at hK9 ⊢
                    clear p9_3 p9_4
                    go_simp
                    exact hK9 _ (Grow.refl _)
                  case s2_6 =>
                    intro u9 w9 hT9 hV9 K9 hK9
                    have p9_3 := hV9 3 rfl
                    have p9_5 := hV9 5 rfl
                    clear hV9
                    simp only [putAll, Act.put, List.setIfInBounds_toArray, List.set_cons_succ, List.set_cons_zero, List.getD_cons_succ, List.getD_cons_zero, Nat.reduceAdd, Nat.zero_add] at p9_3 p9_5 hK9 ⊢
                    simp only [p9_3, p9_5] at hK9 ⊢
                    clear p9_3 p9_5
                    go_simp
                    exact hK9 _ (Grow.refl _)
                  case s2_7 =>
                    intro u9 w9 hT9 hV9 K9 hK9
                    have p9_6 := hV9 6 rfl
                    clear hV9
                    simp only [putAll, Act.put, List.setIfInBounds_toArray, List.set_cons_succ, List.set_cons_zero, List.getD_cons_succ, List.getD_cons_zero, Nat.reduceAdd, Nat.zero_add] at p9_6 hK9 ⊢
                    simp only [p9_6] at hK9 ⊢
                    clear p9_6
                    go_simp
                    exact hK9 _ (Grow.refl _)
                  case s2_8 =>
                    intro u9 w9 hT9 hV9 K9 hK9
                    have p9_6 := hV9 6 rfl
                    have p9_7 := hV9 7 rfl
                    clear hV9
                    simp only [putAll, Act.put, List.setIfInBounds_toArray, List.set_cons_succ, List.set_cons_zero, List.getD_cons_succ, List.getD_cons_zero, Nat.reduceAdd, Nat.zero_add] at p9_6 p9_7 hK9 ⊢
                    simp only [p9_6, p9_7] at hK9 ⊢
                    clear p9_6 p9_7
                    have d9_0 := grow_cell hT9 hY0
                    have d9_1 := grow_cell hT9 hY1
                    have d9_2 := grow_cell hT9 hY2
                    have d9_3 := grow_cell hT9 hX0
                    have d9_4 := grow_cell hT9 hX1
                    have d9_5 := grow_cell hT9 hX2
                    have d9_6 := grow_cell hT9 hD0
                    go_simp
                    exact hK9 _ (Grow.refl _)
                  case s2_9 =>
                    intro u9 w9 hT9 hV9 K9 hK9
                    have p9_6 := hV9 6 rfl
                    clear hV9
                    simp only [putAll, Act.put, List.setIfInBounds_toArray, List.set_cons_succ, List.set_cons_zero, List.getD_cons_succ, List.getD_cons_zero, Nat.reduceAdd, Nat.zero_add] at p9_6 hK9 ⊢
                    simp only [p9_6] at hK9 ⊢
                    clear p9_6
                    go_simp
                    exact hK9 _ (Grow.refl _)
                  case s2_10 =>
                    intro u9 w9 hT9 hV9 K9 hK9
                    have p9_6 := hV9 6 rfl
                    clear hV9
                    simp only [putAll, Act.put, List.setIfInBounds_toArray, List.set_cons_succ, List.set_cons_zero, List.getD_cons_succ, List.getD_cons_zero, Nat.reduceAdd, Nat.zero_add] at p9_6 hK9 ⊢
                    simp only [p9_6] at hK9 ⊢
                    clear p9_6
                    go_simp
                    exact hK9 _ (Grow.refl _)
                  case s2_11 =>
                    intro u9 w9 hT9 hV9 K9 hK9
                    have p9_6 := hV9 6 rfl
                    have p9_9 := hV9 9 rfl
                    have p9_10 := hV9 10 rfl
                    clear hV9
                    simp only [putAll, Act.put, List.setIfInBounds_toArray, List.set_cons_succ, List.set_cons_zero, List.getD_cons_succ, List.getD_cons_zero, Nat.reduceAdd, Nat.zero_add] at p9_6 p9_9 p9_10 hK9 ⊢
                    simp only [p9_6, p9_9, p9_10] at hK9 ⊢
                    clear p9_6 p9_9 p9_10
                    go_simp
                    exact hK9 _ (Grow.refl _)
                  case s2_12 =>
                    intro u9 w9 hT9 hV9 K9 hK9
                    have p9_6 := hV9 6 rfl
                    have p9_11 := hV9 11 rfl
                    clear hV9
                    simp only [putAll, Act.put, List.setIfInBounds_toArray, List.set_cons_succ, List.set_cons_zero, List.getD_cons_succ, List.getD_cons_zero, Nat.reduceAdd, Nat.zero_add] at p9_6 p9_11 hK9 ⊢
                    simp only [p9_6, p9_11] at hK9 ⊢
                    clear p9_6 p9_11
                    go_simp
                    exact hK9 _ (Grow.refl _)
                  case s2_13 =>
                    intro u9 w9 hT9 hV9 K9 hK9
                    have p9_6 := hV9 6 rfl
                    have p9_12 := hV9 12 rfl
                    clear hV9
                    simp only [putAll, Act.put, List.setIfInBounds_toArray, List.set_cons_succ, List.set_cons_zero, List.getD_cons_succ, List.getD_cons_zero, Nat.reduceAdd, Nat.zero_add] at p9_6 p9_12 hK9 ⊢
                    simp only [p9_6, p9_12] at hK9 ⊢
                    clear p9_6 p9_12
                    have d9_0 := grow_cell hT9 hY0
                    have d9_1 := grow_cell hT9 hY1
                    have d9_2 := grow_cell hT9 hY2
                    have d9_3 := grow_cell hT9 hX0
                    have d9_4 := grow_cell hT9 hX1
                    have d9_5 := grow_cell hT9 hX2
                    have d9_6 := grow_cell hT9 hD0
                    go_simp
                    exact hK9 _ (Grow.refl _)
                  case s2_14 =>
                    intro u9 w9 hT9 hV9 K9 hK9
                    have p9_6 := hV9 6 rfl
                    have p9_8 := hV9 8 rfl
                    have p9_13 := hV9 13 rfl
                    clear hV9
                    simp only [putAll, Act.put, List.setIfInBounds_toArray, List.set_cons_succ, List.set_cons_zero, List.getD_cons_succ, List.getD_cons_zero, Nat.reduceAdd, Nat.zero_add] at p9_6 p9_8 p9_13 hK9 ⊢
                    simp only [p9_6, p9_8, p9_13] at hK9 ⊢
                    clear p9_6 p9_8 p9_13
                    go_simp
                    exact hK9 _ (Grow.refl _)
                  case s2_15 =>
                    intro u9 w9 hT9 hV9 K9 hK9
                    have p9_3 := hV9 3 rfl
                    have p9_6 := hV9 6 rfl
                    have p9_14 := hV9 14 rfl
                    clear hV9
                    simp only [putAll, Act.put, List.setIfInBounds_toArray, List.set_cons_succ, List.set_cons_zero, List.getD_cons_succ, List.getD_cons_zero, Nat.reduceAdd, Nat.zero_add] at p9_3 p9_6 p9_14 hK9 ⊢
                    simp only [p9_3, p9_6, p9_14] at hK9 ⊢
                    clear p9_3 p9_6 p9_14
                    go_simp
                    exact hK9 _ (Grow.refl _)
                  case s2_16 =>
                    intro u9 w9 hT9 hV9 K9 hK9
                    have p9_3 := hV9 3 rfl
                    have p9_15 := hV9 15 rfl
                    clear hV9
                    simp only [putAll, Act.put, List.setIfInBounds_toArray, List.set_cons_succ, List.set_cons_zero, List.getD_cons_succ, List.getD_cons_zero, Nat.reduceAdd, Nat.zero_add] at p9_3 p9_15 hK9 ⊢
                    simp only [p9_3, p9_15] at hK9 ⊢
                    clear p9_3 p9_15
                    go_simp
                    exact hK9 _ (Grow.refl _)
                  intro w9 hb9
                  simp only [putAll, Act.put, List.setIfInBounds_toArray, List.set_cons_succ, List.set_cons_zero, List.getD_cons_succ, List.getD_cons_zero, Nat.reduceAdd, Nat.zero_add]
                  have hXf : Own w9 gx 43 (c3 (labAt ls i)) := hXn.below hb9 hXn.lt
                  have hownf := hownn.kept (row := none) (⟨hb9.os, hb9.tape, hb9.output, hb9.size, fun k hk _ => hb9.block k hk⟩ : World.grownBy _ _ _) (by cases u4.ownBlock <;> simp)
                  have hbwf : Below w.heap.size w w9 := hbwn.trans (hb9.mono hbwn.size)
                  clear hX0 hX1 hX2 hY0 hY1 hY2 hXn hownn hbwn
                  go_wp2
                  go_roundg (ls.length - (m + 1))
                  case measure => have := HQ1.out; omega
                  case rel => exact ⟨m + 1, (m : Int), rfl, by omega, by go_num, rfl, by rw [hstep.out, if_pos (by rw [better_deep HDM.out (by omega)]; simp only [decide_eq_true_eq]; omega)]; rfl, by omega, by omega, hXf, hownf, hbwf⟩
                · go_wp2
                  refine wp_reg_vals [some 30, some 31, some 32, some 33, some 34, some 35, some 36, some 37, some 38, some 39, some 40, some 41, some 42, some 43, some 44, some 45, some 46] [?v3_0, ?v3_1, ?v3_2, ?v3_3, ?v3_4, ?v3_5, ?v3_6, ?v3_7, ?v3_8, ?v3_9, ?v3_10, ?v3_11, ?v3_12, ?v3_13, ?v3_14, ?v3_15, ?v3_16] rfl (by kernel_rfl) rfl rfl ⟨?s3_0, ?s3_1, ?s3_2, ?s3_3, ?s3_4, ?s3_5, ?s3_6, ?s3_7, ?s3_8, ?s3_9, ?s3_10, ?s3_11, ?s3_12, ?s3_13, ?s3_14, ?s3_15, ?s3_16, trivial⟩ ?p3
                  case s3_0 =>
                    intro u9 w9 hT9 hV9 K9 hK9
                    clear hV9
                    simp only [putAll, Act.put, List.setIfInBounds_toArray, List.set_cons_succ, List.set_cons_zero, List.getD_cons_succ, List.getD_cons_zero, Nat.reduceAdd, Nat.zero_add] at hK9 ⊢
                    have d9_0 := grow_cell hT9 hY0
                    have d9_1 := grow_cell hT9 hY1
                    have d9_2 := grow_cell hT9 hY2
                    have d9_3 := grow_cell hT9 hX0
                    have d9_4 := grow_cell hT9 hX1
                    have d9_5 := grow_cell hT9 hX2
                    have d9_6 := grow_cell hT9 hD0
                    go_simp
                    exact hK9 _ (Grow.refl _)
                  case s3_1 =>
                    intro u9 w9 hT9 hV9 K9 hK9
                    clear hV9
                    simp only [putAll, Act.put, List.setIfInBounds_toArray, List.set_cons_succ, List.set_cons_zero, List.getD_cons_succ, List.getD_cons_zero, Nat.reduceAdd, Nat.zero_add] at hK9 ⊢
                    have d9_0 := grow_cell hT9 hY0
                    have d9_1 := grow_cell hT9 hY1
                    have d9_2 := grow_cell hT9 hY2
                    have d9_3 := grow_cell hT9 hX0
                    have d9_4 := grow_cell hT9 hX1
                    have d9_5 := grow_cell hT9 hX2
                    have d9_6 := grow_cell hT9 hD0
                    go_simp
                    exact hK9 _ (Grow.refl _)
                  case s3_2 =>
                    intro u9 w9 hT9 hV9 K9 hK9
                    have p9_0 := hV9 0 rfl
                    have p9_1 := hV9 1 rfl
                    clear hV9
                    simp only [putAll, Act.put, List.setIfInBounds_toArray, List.set_cons_succ, List.set_cons_zero, List.getD_cons_succ, List.getD_cons_zero, Nat.reduceAdd, Nat.zero_add] at p9_0 p9_1 hK9 ⊢
                    simp only [p9_0, p9_1] at hK9 ⊢
                    clear p9_0 p9_1
                    go_simp
                    first | exact hK9 _ (Grow.refl _) | (refine (HD.out _).mono ?_; rintro _ w8 ⟨rfl, hb8⟩; exact hK9 _ hb8)
                  case s3_3 =>
                    intro u9 w9 hT9 hV9 K9 hK9
                    have p9_2 := hV9 2 rfl
                    clear hV9
                    simp only [putAll, Act.put, List.setIfInBounds_toArray, List.set_cons_succ, List.set_cons_zero, List.getD_cons_succ, List.getD_cons_zero, Nat.reduceAdd, Nat.zero_add] at p9_2 hK9 ⊢
                    simp only [p9_2] at hK9 ⊢
                    clear p9_2
                    go_simp
                    exact hK9 _ (Grow.refl _)
                  case s3_4 =>
                    intro u9 w9 hT9 hV9 K9 hK9
                    have p9_3 := hV9 3 rfl
                    clear hV9
                    simp only [putAll, Act.put, List.setIfInBounds_toArray, List.set_cons_succ, List.set_cons_zero, List.getD_cons_succ, List.getD_cons_zero, Nat.reduceAdd, Nat.zero_add] at p9_3 hK9 ⊢
                    simp only [p9_3] at hK9 ⊢
                    clear p9_3
                    go_simp
                    exact hK9 _ (Grow.refl _)
                  case s3_5 =>
                    intro u9 w9 hT9 hV9 K9 hK9
                    have p9_3 := hV9 3 rfl
                    have p9_4 := hV9 4 rfl
                    clear hV9
                    simp only [putAll, Act.put, List.setIfInBounds_toArray, List.set_cons_succ, List.set_cons_zero, List.getD_cons_succ, List.getD_cons_zero, Nat.reduceAdd, Nat.zero_add] at p9_3 p9_4 hK9 ⊢
                    simp only [p9_3, p9_4] at hK9 ⊢
                    clear p9_3 p9_4
                    go_simp
                    exact hK9 _ (Grow.refl _)
                  case s3_6 =>
                    intro u9 w9 hT9 hV9 K9 hK9
                    have p9_3 := hV9 3 rfl
                    have p9_5 := hV9 5 rfl
                    clear hV9
                    simp only [putAll, Act.put, List.setIfInBounds_toArray, List.set_cons_succ, List.set_cons_zero, List.getD_cons_succ, List.getD_cons_zero, Nat.reduceAdd, Nat.zero_add] at p9_3 p9_5 hK9 ⊢
                    simp only [p9_3, p9_5] at hK9 ⊢
                    clear p9_3 p9_5
                    go_simp
                    exact hK9 _ (Grow.refl _)
                  case s3_7 =>
                    intro u9 w9 hT9 hV9 K9 hK9
                    have p9_6 := hV9 6 rfl
                    clear hV9
                    simp only [putAll, Act.put, List.setIfInBounds_toArray, List.set_cons_succ, List.set_cons_zero, List.getD_cons_succ, List.getD_cons_zero, Nat.reduceAdd, Nat.zero_add] at p9_6 hK9 ⊢
                    simp only [p9_6] at hK9 ⊢
                    clear p9_6
                    go_simp
                    exact hK9 _ (Grow.refl _)
                  case s3_8 =>
                    intro u9 w9 hT9 hV9 K9 hK9
                    have p9_6 := hV9 6 rfl
                    have p9_7 := hV9 7 rfl
                    clear hV9
                    simp only [putAll, Act.put, List.setIfInBounds_toArray, List.set_cons_succ, List.set_cons_zero, List.getD_cons_succ, List.getD_cons_zero, Nat.reduceAdd, Nat.zero_add] at p9_6 p9_7 hK9 ⊢
                    simp only [p9_6, p9_7] at hK9 ⊢
                    clear p9_6 p9_7
                    have d9_0 := grow_cell hT9 hY0
                    have d9_1 := grow_cell hT9 hY1
                    have d9_2 := grow_cell hT9 hY2
                    have d9_3 := grow_cell hT9 hX0
                    have d9_4 := grow_cell hT9 hX1
                    have d9_5 := grow_cell hT9 hX2
                    have d9_6 := grow_cell hT9 hD0
                    go_simp
                    exact hK9 _ (Grow.refl _)
                  case s3_9 =>
                    intro u9 w9 hT9 hV9 K9 hK9
                    have p9_6 := hV9 6 rfl
                    clear hV9
                    simp only [putAll, Act.put, List.setIfInBounds_toArray, List.set_cons_succ, List.set_cons_zero, List.getD_cons_succ, List.getD_cons_zero, Nat.reduceAdd, Nat.zero_add] at p9_6 hK9 ⊢
                    simp only [p9_6] at hK9 ⊢
                    clear p9_6
                    go_simp
                    exact hK9 _ (Grow.refl _)
                  case s3_10 =>
                    intro u9 w9 hT9 hV9 K9 hK9
                    have p9_6 := hV9 6 rfl
                    clear hV9
                    simp only [putAll, Act.put, List.setIfInBounds_toArray, List.set_cons_succ, List.set_cons_zero, List.getD_cons_succ, List.getD_cons_zero, Nat.reduceAdd, Nat.zero_add] at p9_6 hK9 ⊢
                    simp only [p9_6] at hK9 ⊢
                    clear p9_6
                    go_simp
                    exact hK9 _ (Grow.refl _)
                  case s3_11 =>
                    intro u9 w9 hT9 hV9 K9 hK9
                    have p9_6 := hV9 6 rfl
                    have p9_9 := hV9 9 rfl
                    have p9_10 := hV9 10 rfl
                    clear hV9
                    simp only [putAll, Act.put, List.setIfInBounds_toArray, List.set_cons_succ, List.set_cons_zero, List.getD_cons_succ, List.getD_cons_zero, Nat.reduceAdd, Nat.zero_add] at p9_6 p9_9 p9_10 hK9 ⊢
                    simp only [p9_6, p9_9, p9_10] at hK9 ⊢
                    clear p9_6 p9_9 p9_10
                    go_simp
                    exact hK9 _ (Grow.refl _)
                  case s3_12 =>
                    intro u9 w9 hT9 hV9 K9 hK9
                    have p9_6 := hV9 6 rfl
                    have p9_11 := hV9 11 rfl
                    clear hV9
                    simp only [putAll, Act.put, List.setIfInBounds_toArray, List.set_cons_succ, List.set_cons_zero, List.getD_cons_succ, List.getD_cons_zero, Nat.reduceAdd, Nat.zero_add] at p9_6 p9_11 hK9 ⊢
                    simp only [p9_6, p9_11] at hK9 ⊢
                    clear p9_6 p9_11
                    go_simp
                    exact hK9 _ (Grow.refl _)
                  case s3_13 =>
                    intro u9 w9 hT9 hV9 K9 hK9
                    have p9_6 := hV9 6 rfl
                    have p9_12 := hV9 12 rfl
                    clear hV9
                    simp only [putAll, Act.put, List.setIfInBounds_toArray, List.set_cons_succ, List.set_cons_zero, List.getD_cons_succ, List.getD_cons_zero, Nat.reduceAdd, Nat.zero_add] at p9_6 p9_12 hK9 ⊢
                    simp only [p9_6, p9_12] at hK9 ⊢
                    clear p9_6 p9_12
                    have d9_0 := grow_cell hT9 hY0
                    have d9_1 := grow_cell hT9 hY1
                    have d9_2 := grow_cell hT9 hY2
                    have d9_3 := grow_cell hT9 hX0
                    have d9_4 := grow_cell hT9 hX1
                    have d9_5 := grow_cell hT9 hX2
                    have d9_6 := grow_cell hT9 hD0
                    go_simp
                    exact hK9 _ (Grow.refl _)
                  case s3_14 =>
                    intro u9 w9 hT9 hV9 K9 hK9
                    have p9_6 := hV9 6 rfl
                    have p9_8 := hV9 8 rfl
                    have p9_13 := hV9 13 rfl
                    clear hV9
                    simp only [putAll, Act.put, List.setIfInBounds_toArray, List.set_cons_succ, List.set_cons_zero, List.getD_cons_succ, List.getD_cons_zero, Nat.reduceAdd, Nat.zero_add] at p9_6 p9_8 p9_13 hK9 ⊢
                    simp only [p9_6, p9_8, p9_13] at hK9 ⊢
                    clear p9_6 p9_8 p9_13
                    go_simp
                    exact hK9 _ (Grow.refl _)
                  case s3_15 =>
                    intro u9 w9 hT9 hV9 K9 hK9
                    have p9_3 := hV9 3 rfl
                    have p9_6 := hV9 6 rfl
                    have p9_14 := hV9 14 rfl
                    clear hV9
                    simp only [putAll, Act.put, List.setIfInBounds_toArray, List.set_cons_succ, List.set_cons_zero, List.getD_cons_succ, List.getD_cons_zero, Nat.reduceAdd, Nat.zero_add] at p9_3 p9_6 p9_14 hK9 ⊢
                    simp only [p9_3, p9_6, p9_14] at hK9 ⊢
                    clear p9_3 p9_6 p9_14
                    go_simp
                    exact hK9 _ (Grow.refl _)
                  case s3_16 =>
                    intro u9 w9 hT9 hV9 K9 hK9
                    have p9_3 := hV9 3 rfl
                    have p9_15 := hV9 15 rfl
                    clear hV9
                    simp only [putAll, Act.put, List.setIfInBounds_toArray, List.set_cons_succ, List.set_cons_zero, List.getD_cons_succ, List.getD_cons_zero, Nat.reduceAdd, Nat.zero_add] at p9_3 p9_15 hK9 ⊢
                    simp only [p9_3, p9_15] at hK9 ⊢
                    clear p9_3 p9_15
                    go_simp
                    exact hK9 _ (Grow.refl _)
                  intro w9 hb9
                  simp only [putAll, Act.put, List.setIfInBounds_toArray, List.set_cons_succ, List.set_cons_zero, List.getD_cons_succ, List.getD_cons_zero, Nat.reduceAdd, Nat.zero_add]
                  have hXf : Own w9 gx 43 (c3 (labAt ls i)) := hXn.below hb9 hXn.lt
                  have hownf := hownn.kept (row := none) (⟨hb9.os, hb9.tape, hb9.output, hb9.size, fun k hk _ => hb9.block k hk⟩ : World.grownBy _ _ _) (by cases u4.ownBlock <;> simp)
                  have hbwf : Below w.heap.size w w9 := hbwn.trans (hb9.mono hbwn.size)
                  clear hX0 hX1 hX2 hY0 hY1 hY2 hXn hownn hbwn
                  go_wp2
                  go_roundg (ls.length - (m + 1))
                  case measure => have := HQ1.out; omega
                  case rel => exact ⟨m + 1, best, rfl, by omega, by go_num, rfl, by rw [hstep.out, if_neg (by rw [better_deep HDM.out (by omega)]; simp only [decide_eq_true_eq]; omega)]; rfl, by omega, by omega, hXf, hownf, hbwf⟩
            | false =>
              have HD : Hid (∀ w, Calls Try.prog 22 #[.agg #[.int .i64 (labAt ls m).1, .int .i64 (labAt ls m).2.1, .int .i64 (labAt ls m).2.2], .agg #[.int .i64 (labAt ls i).1, .int .i64 (labAt ls i).2.1, .int .i64 (labAt ls i).2.2]] w fun e w' => e = .returned (.bool false) ∧ Below w.heap.size w w') := by
                intro w
                have := rdominates_any (labAt ls m) (labAt ls i) w
                rw [hDm] at this
                exact this
              have HDM := Lib.hid hDm; clear hDm
              go_wp2
              refine wp_reg_vals [some 30, some 31, some 32, some 33, some 34, some 35, some 36, some 37, some 38, some 39, some 40, some 41, some 42, some 43, some 44, some 45, some 46] [?v4_0, ?v4_1, ?v4_2, ?v4_3, ?v4_4, ?v4_5, ?v4_6, ?v4_7, ?v4_8, ?v4_9, ?v4_10, ?v4_11, ?v4_12, ?v4_13, ?v4_14, ?v4_15, ?v4_16] rfl (by kernel_rfl) rfl rfl ⟨?s4_0, ?s4_1, ?s4_2, ?s4_3, ?s4_4, ?s4_5, ?s4_6, ?s4_7, ?s4_8, ?s4_9, ?s4_10, ?s4_11, ?s4_12, ?s4_13, ?s4_14, ?s4_15, ?s4_16, trivial⟩ ?p4
              case s4_0 =>
                intro u9 w9 hT9 hV9 K9 hK9
                clear hV9
                simp only [putAll, Act.put, List.setIfInBounds_toArray, List.set_cons_succ, List.set_cons_zero, List.getD_cons_succ, List.getD_cons_zero, Nat.reduceAdd, Nat.zero_add] at hK9 ⊢
                have d9_0 := grow_cell hT9 hY0
                have d9_1 := grow_cell hT9 hY1
                have d9_2 := grow_cell hT9 hY2
                have d9_3 := grow_cell hT9 hX0
                have d9_4 := grow_cell hT9 hX1
                have d9_5 := grow_cell hT9 hX2
                go_simp
                exact hK9 _ (Grow.refl _)
              case s4_1 =>
                intro u9 w9 hT9 hV9 K9 hK9
                clear hV9
                simp only [putAll, Act.put, List.setIfInBounds_toArray, List.set_cons_succ, List.set_cons_zero, List.getD_cons_succ, List.getD_cons_zero, Nat.reduceAdd, Nat.zero_add] at hK9 ⊢
                have d9_0 := grow_cell hT9 hY0
                have d9_1 := grow_cell hT9 hY1
                have d9_2 := grow_cell hT9 hY2
                have d9_3 := grow_cell hT9 hX0
                have d9_4 := grow_cell hT9 hX1
                have d9_5 := grow_cell hT9 hX2
                go_simp
                exact hK9 _ (Grow.refl _)
              case s4_2 =>
                intro u9 w9 hT9 hV9 K9 hK9
                have p9_0 := hV9 0 rfl
                have p9_1 := hV9 1 rfl
                clear hV9
                simp only [putAll, Act.put, List.setIfInBounds_toArray, List.set_cons_succ, List.set_cons_zero, List.getD_cons_succ, List.getD_cons_zero, Nat.reduceAdd, Nat.zero_add] at p9_0 p9_1 hK9 ⊢
                simp only [p9_0, p9_1] at hK9 ⊢
                clear p9_0 p9_1
                go_simp
                first | exact hK9 _ (Grow.refl _) | (refine (HD.out _).mono ?_; rintro _ w8 ⟨rfl, hb8⟩; exact hK9 _ hb8)
              case s4_3 =>
                intro u9 w9 hT9 hV9 K9 hK9
                have p9_2 := hV9 2 rfl
                clear hV9
                simp only [putAll, Act.put, List.setIfInBounds_toArray, List.set_cons_succ, List.set_cons_zero, List.getD_cons_succ, List.getD_cons_zero, Nat.reduceAdd, Nat.zero_add] at p9_2 hK9 ⊢
                simp only [p9_2] at hK9 ⊢
                clear p9_2
                go_simp
                exact hK9 _ (Grow.refl _)
              case s4_4 =>
                intro u9 w9 hT9 hV9 K9 hK9
                have p9_3 := hV9 3 rfl
                clear hV9
                simp only [putAll, Act.put, List.setIfInBounds_toArray, List.set_cons_succ, List.set_cons_zero, List.getD_cons_succ, List.getD_cons_zero, Nat.reduceAdd, Nat.zero_add] at p9_3 hK9 ⊢
                simp only [p9_3] at hK9 ⊢
                clear p9_3
                go_simp
                exact hK9 _ (Grow.refl _)
              case s4_5 =>
                intro u9 w9 hT9 hV9 K9 hK9
                have p9_3 := hV9 3 rfl
                have p9_4 := hV9 4 rfl
                clear hV9
                simp only [putAll, Act.put, List.setIfInBounds_toArray, List.set_cons_succ, List.set_cons_zero, List.getD_cons_succ, List.getD_cons_zero, Nat.reduceAdd, Nat.zero_add] at p9_3 p9_4 hK9 ⊢
                simp only [p9_3, p9_4] at hK9 ⊢
                clear p9_3 p9_4
                go_simp
                exact hK9 _ (Grow.refl _)
              case s4_6 =>
                intro u9 w9 hT9 hV9 K9 hK9
                have p9_3 := hV9 3 rfl
                have p9_5 := hV9 5 rfl
                clear hV9
                simp only [putAll, Act.put, List.setIfInBounds_toArray, List.set_cons_succ, List.set_cons_zero, List.getD_cons_succ, List.getD_cons_zero, Nat.reduceAdd, Nat.zero_add] at p9_3 p9_5 hK9 ⊢
                simp only [p9_3, p9_5] at hK9 ⊢
                clear p9_3 p9_5
                go_simp
                exact hK9 _ (Grow.refl _)
              case s4_7 =>
                intro u9 w9 hT9 hV9 K9 hK9
                have p9_6 := hV9 6 rfl
                clear hV9
                simp only [putAll, Act.put, List.setIfInBounds_toArray, List.set_cons_succ, List.set_cons_zero, List.getD_cons_succ, List.getD_cons_zero, Nat.reduceAdd, Nat.zero_add] at p9_6 hK9 ⊢
                simp only [p9_6] at hK9 ⊢
                clear p9_6
                go_simp
                exact hK9 _ (Grow.refl _)
              case s4_8 =>
                intro u9 w9 hT9 hV9 K9 hK9
                have p9_6 := hV9 6 rfl
                have p9_7 := hV9 7 rfl
                clear hV9
                simp only [putAll, Act.put, List.setIfInBounds_toArray, List.set_cons_succ, List.set_cons_zero, List.getD_cons_succ, List.getD_cons_zero, Nat.reduceAdd, Nat.zero_add] at p9_6 p9_7 hK9 ⊢
                simp only [p9_6, p9_7] at hK9 ⊢
                clear p9_6 p9_7
                have d9_0 := grow_cell hT9 hY0
                have d9_1 := grow_cell hT9 hY1
                have d9_2 := grow_cell hT9 hY2
                have d9_3 := grow_cell hT9 hX0
                have d9_4 := grow_cell hT9 hX1
                have d9_5 := grow_cell hT9 hX2
                go_simp
                exact hK9 _ (Grow.refl _)
              case s4_9 =>
                intro u9 w9 hT9 hV9 K9 hK9
                have p9_6 := hV9 6 rfl
                clear hV9
                simp only [putAll, Act.put, List.setIfInBounds_toArray, List.set_cons_succ, List.set_cons_zero, List.getD_cons_succ, List.getD_cons_zero, Nat.reduceAdd, Nat.zero_add] at p9_6 hK9 ⊢
                simp only [p9_6] at hK9 ⊢
                clear p9_6
                go_simp
                exact hK9 _ (Grow.refl _)
              case s4_10 =>
                intro u9 w9 hT9 hV9 K9 hK9
                have p9_6 := hV9 6 rfl
                clear hV9
                simp only [putAll, Act.put, List.setIfInBounds_toArray, List.set_cons_succ, List.set_cons_zero, List.getD_cons_succ, List.getD_cons_zero, Nat.reduceAdd, Nat.zero_add] at p9_6 hK9 ⊢
                simp only [p9_6] at hK9 ⊢
                clear p9_6
                go_simp
                exact hK9 _ (Grow.refl _)
              case s4_11 =>
                intro u9 w9 hT9 hV9 K9 hK9
                have p9_6 := hV9 6 rfl
                have p9_9 := hV9 9 rfl
                have p9_10 := hV9 10 rfl
                clear hV9
                simp only [putAll, Act.put, List.setIfInBounds_toArray, List.set_cons_succ, List.set_cons_zero, List.getD_cons_succ, List.getD_cons_zero, Nat.reduceAdd, Nat.zero_add] at p9_6 p9_9 p9_10 hK9 ⊢
                simp only [p9_6, p9_9, p9_10] at hK9 ⊢
                clear p9_6 p9_9 p9_10
                go_simp
                exact hK9 _ (Grow.refl _)
              case s4_12 =>
                intro u9 w9 hT9 hV9 K9 hK9
                have p9_6 := hV9 6 rfl
                have p9_11 := hV9 11 rfl
                clear hV9
                simp only [putAll, Act.put, List.setIfInBounds_toArray, List.set_cons_succ, List.set_cons_zero, List.getD_cons_succ, List.getD_cons_zero, Nat.reduceAdd, Nat.zero_add] at p9_6 p9_11 hK9 ⊢
                simp only [p9_6, p9_11] at hK9 ⊢
                clear p9_6 p9_11
                go_simp
                exact hK9 _ (Grow.refl _)
              case s4_13 =>
                intro u9 w9 hT9 hV9 K9 hK9
                have p9_6 := hV9 6 rfl
                have p9_12 := hV9 12 rfl
                clear hV9
                simp only [putAll, Act.put, List.setIfInBounds_toArray, List.set_cons_succ, List.set_cons_zero, List.getD_cons_succ, List.getD_cons_zero, Nat.reduceAdd, Nat.zero_add] at p9_6 p9_12 hK9 ⊢
                simp only [p9_6, p9_12] at hK9 ⊢
                clear p9_6 p9_12
                have d9_0 := grow_cell hT9 hY0
                have d9_1 := grow_cell hT9 hY1
                have d9_2 := grow_cell hT9 hY2
                have d9_3 := grow_cell hT9 hX0
                have d9_4 := grow_cell hT9 hX1
                have d9_5 := grow_cell hT9 hX2
                go_simp
                exact hK9 _ (Grow.refl _)
              case s4_14 =>
                intro u9 w9 hT9 hV9 K9 hK9
                have p9_6 := hV9 6 rfl
                have p9_8 := hV9 8 rfl
                have p9_13 := hV9 13 rfl
                clear hV9
                simp only [putAll, Act.put, List.setIfInBounds_toArray, List.set_cons_succ, List.set_cons_zero, List.getD_cons_succ, List.getD_cons_zero, Nat.reduceAdd, Nat.zero_add] at p9_6 p9_8 p9_13 hK9 ⊢
                simp only [p9_6, p9_8, p9_13] at hK9 ⊢
                clear p9_6 p9_8 p9_13
                go_simp
                exact hK9 _ (Grow.refl _)
              case s4_15 =>
                intro u9 w9 hT9 hV9 K9 hK9
                have p9_3 := hV9 3 rfl
                have p9_6 := hV9 6 rfl
                have p9_14 := hV9 14 rfl
                clear hV9
                simp only [putAll, Act.put, List.setIfInBounds_toArray, List.set_cons_succ, List.set_cons_zero, List.getD_cons_succ, List.getD_cons_zero, Nat.reduceAdd, Nat.zero_add] at p9_3 p9_6 p9_14 hK9 ⊢
                simp only [p9_3, p9_6, p9_14] at hK9 ⊢
                clear p9_3 p9_6 p9_14
                go_simp
                exact hK9 _ (Grow.refl _)
              case s4_16 =>
                intro u9 w9 hT9 hV9 K9 hK9
                have p9_3 := hV9 3 rfl
                have p9_15 := hV9 15 rfl
                clear hV9
                simp only [putAll, Act.put, List.setIfInBounds_toArray, List.set_cons_succ, List.set_cons_zero, List.getD_cons_succ, List.getD_cons_zero, Nat.reduceAdd, Nat.zero_add] at p9_3 p9_15 hK9 ⊢
                simp only [p9_3, p9_15] at hK9 ⊢
                clear p9_3 p9_15
                go_simp
                exact hK9 _ (Grow.refl _)
              intro w9 hb9
              simp only [putAll, Act.put, List.setIfInBounds_toArray, List.set_cons_succ, List.set_cons_zero, List.getD_cons_succ, List.getD_cons_zero, Nat.reduceAdd, Nat.zero_add]
              have hXf : Own w9 gx 43 (c3 (labAt ls i)) := hXn.below hb9 hXn.lt
              have hownf := hownn.kept (row := none) (⟨hb9.os, hb9.tape, hb9.output, hb9.size, fun k hk _ => hb9.block k hk⟩ : World.grownBy _ _ _) (by cases u4.ownBlock <;> simp)
              have hbwf : Below w.heap.size w w9 := hbwn.trans (hb9.mono hbwn.size)
              clear hX0 hX1 hX2 hY0 hY1 hY2 hXn hownn hbwn
              go_wp2
              go_roundg (ls.length - (m + 1))
              case measure => have := HQ1.out; omega
              case rel => exact ⟨m + 1, best, rfl, by omega, by go_num, rfl, by rw [hstep.out, if_neg (by rw [better_dom HDM.out]; simp)]; rfl, by omega, by omega, hXf, hownf, hbwf⟩
          · obtain rfl : m = ls.length := by omega
            have hnext : Hid (best = bestTo ls (labAt ls i) ls.length) := hbest
            have h63 : i + 1 ≤ maxLen := by unfold maxLen; omega
            go_wp2_with (at_builtin; refine wpList_append_own _ rfl (.tmp 49) (.tmp 51) 22 rfl w.heap.size 3 i3 _ 1 8 Try.underlying22 hi3 hz30 hz31 hz32 rfl (by decide) _ i (ci ((cand2 ls).take i)) rfl (hown.alloc _) ⟨wr.heap.size, 0, none⟩ 1 1 [.int .i64 best] rfl rfl (new_cells _ _ _ _ rfl) (by simp [Value.oneCell']) h63 (by omega) (by rw [size1]; have := hbw.size; omega) ?_)
            intro v' w2 hown2 hg2 _
            have hbw2 : Below w.heap.size w w2 := (hbw.alloc hbw.size _).grown hg2 (by rw [size1]; have := hbw.size; omega) (own_lt hown)
            have H : Hid (w2.ownsRow w.heap.size 3 1 v' (i + 1) (ci ((cand2 ls).take (i + 1)))) := by
              rw [cand2_get hlt, ← hnext.out]
              simp only [ci, List.map_append, List.map_take, List.map_cons, List.map_nil]
              exact hown2
            clear hg2 hown2 hown hbw hX
            go_wp2
            go_roundg (ls.length - (i + 1))
            case measure => have := HQ.out; omega
            case rel => exact ⟨i + 1, rfl, by omega, by go_num, H.out, hbw2⟩
      · obtain rfl : i = ls.length := by omega
        have hfull : (cand2 ls).take ls.length = cand2 ls := List.take_of_length_le (by rw [cand2_len]; omega)
        rw [hfull] at hown
        have hdone : Hid (∀ ps, IsF ls ps → cand2 ls = ps) := fun ps h => cand2_is h
        have hplen := cand2_len ls
        obtain ⟨Ap, cp, rfl, hcp1, hcp2⟩ := own_form hown
        have hints : Ints wr Ap (cand2 ls) := Rd.of_own hown
        clear hfull
        generalize cand2 ls = par at hown hdone hplen hints
        by_cases hbad : (chk par).2 = 0
        · have hc0 : chk par = (0, 0) := by
            obtain ⟨_, _, _, h1⟩ := chk_zero hbad
            exact Prod.ext h1 hbad
          obtain ⟨_, hv, ha, _⟩ := chk_zero hbad
          have hll : (labels par).length = ls.length := by rw [labels_length hv ha, hplen]
          have hcall : Calls Try.prog 12 #[.slice Ap ls.length cp] wr fun e w' => ∃ Ag cg, e = .returned (.tuple #[.slice Ag ls.length cg, .int .i64 0, .int .i64 0]) ∧ Labs w' Ag (labels par) ∧ Below wr.heap.size wr w' := by
            have := rassign_any Ap cp par wr hints (by rw [hplen]; unfold maxLen; omega)
            rw [hplen] at this
            refine this.mono ?_
            rintro e w' ⟨v, rfl, hsl, hb⟩
            have e1 : outL par = labels par := if_pos hbad
            rw [e1, hll] at hsl
            obtain ⟨Ag, cg, rfl, _, _, hrd⟩ := hsl
            exact ⟨Ag, cg, by rw [hc0], hrd, hb⟩
          have HC := Lib.hid hcall
          have HPL := Lib.hid hplen
          have HLL := Lib.hid hll
          have HC0 := Lib.hid hc0
          have hlle1 : (labels par).length ≤ ls.length := by omega
          have hlle2 : ls.length ≤ (labels par).length := by omega
          clear hcall hplen hll hc0 hbad hown
          go_wp2_with (go_at_call 12; refine HC.out.mono ?_; rintro e w6 ⟨Ag, cg, rfl, hag, hb6⟩)
          have hints6 : Ints w6 Ap par := hints.below hb6
          have hbw6 : Below w.heap.size w w6 := hbw.trans (hb6.mono hbw.size)
          clear HC hb6 hints hbw
          go_loopg [64] ls.length (fun q k wx => ∃ i : Nat, q = ls.length - i ∧ i ≤ ls.length ∧ k = .int .i64 i ∧ Hid ((labels par).take i = ls.take i) ∧ Labs wx Ag (labels par) ∧ Ints wx Ap par ∧ Below w.heap.size w wx)
          case atStart => exact ⟨0, rfl, Nat.zero_le _, rfl, rfl, hag, hints6, hbw6⟩
          case round =>
            clear hag hints6 hbw6
            obtain ⟨i, hq, hi, rfl, htk, hag, hints, hbw⟩ := hrel
            have HQ2 := Lib.hid hq; clear hq
            by_cases hlt2 : i < ls.length
            · have hlt3 : i < (labels par).length := by omega
              obtain ⟨b, off, rfl, h0, h1, h2⟩ := (hA.below hbw).get hlt2
              obtain ⟨b', off', rfl, h0', h1', h2'⟩ := hag.get hlt3
              have hne := fun w => neq43 (labels par)[i].1 (labels par)[i].2.1 (labels par)[i].2.2 ls[i].1 ls[i].2.1 ls[i].2.2 w
              have heg := eqg43
              go_wp2
              go_quiet (fail)
              go_wp2
              · go_ret2
                have hz : (!labEq (labels par)[i] ls[i]) = true := by assumption
                have h : labEq (labels par)[i] ls[i] = false := by simpa using hz
                refine ⟨below_drewN hbw _, .inr ⟨fun ps hF => ?_, by rw [hE.out]; rfl⟩⟩
                have e1 := hdone.out ps hF
                have e2 := hF.2
                rw [← e1] at e2
                have : (labels par)[i] = ls[i] := by simp only [e2]
                rw [this] at h
                simp [labEq] at h
              · go_roundg (ls.length - (i + 1))
                case measure => have := HQ2.out; omega
                case rel =>
                  have hz : (!labEq (labels par)[i] ls[i]) = false := by assumption
                  have h : labEq (labels par)[i] ls[i] = true := by simpa using hz
                  exact ⟨i + 1, rfl, by omega, by go_num, take_step hlt3 hlt2 htk.out (labEq_iff.1 h), hag, hints, below_drewN hbw _⟩
            · go_wp2
              go_ret2
              refine ⟨hbw, .inl ⟨par, _, ⟨HC0.out, eq_of_take (k := i) (by omega) (by omega) htk.out⟩, rfl, ?_⟩⟩
              rw [HPL.out]
              exact ⟨_, _, rfl, hcp1, hcp2, hints⟩
        · have hcall : Calls Try.prog 12 #[.slice Ap ls.length cp] wr fun e w' => ∃ Ag cg, e = .returned (.tuple #[.slice Ag 0 cg, .int .i64 (chk par).1, .int .i64 (chk par).2]) ∧ Below wr.heap.size wr w' := by
            have := rassign_any Ap cp par wr hints (by rw [hplen]; unfold maxLen; omega)
            rw [hplen] at this
            refine this.mono ?_
            rintro e w' ⟨v, rfl, hsl, hb⟩
            have e1 : outL par = [] := if_neg hbad
            rw [e1] at hsl
            obtain ⟨Ag, cg, rfl, _, _, hrd⟩ := hsl
            exact ⟨Ag, cg, rfl, hb⟩
          have HC := Lib.hid hcall
          have hbb : ((chk par).2 != 0) = true := by simpa using hbad
          have HB := Lib.hid hbad
          clear hcall hplen hown hints hbad
          go_wp2_with (go_at_call 12; refine HC.out.mono ?_; rintro e w6 ⟨Ag, cg, rfl, hb6⟩)
          go_ret2
          refine ⟨hbw.trans (hb6.mono hbw.size), .inr ⟨fun ps hF => ?_, by rw [hE.out]; rfl⟩⟩
          have e1 := hdone.out ps hF
          exact HB.out (by rw [e1, hF.1])
end Go.Proofs.Ytgimddboflhpaaa
