/- The lowest common ancestor: what the program returns. -/
import Derived.Test.YtgimddboflhpaaaComm
namespace Go.Proofs.Ytgimddboflhpaaa
set_option linter.unusedSimpArgs false
set_option linter.unusedVariables false
set_option linter.unusedSectionVars false
open Go.RowKit Tr

def ComPost (ls : List Lab) (i j : Int) (w : World) (e : Ending) (w' : World) : Prop := Below w.heap.size w w' ∧ ∃ c, e = .returned (.int .i64 c) ∧ comP ls i j c
theorem not_sub_neg {ps : List Int} {k : Nat} {i j : Nat} (h : it ps k i < 0) (h2 : ∀ l, l < k → ∀ y : Nat, it ps l i = (y : Int) → ¬ Sub ps y j) : ∀ (l y : Nat), it ps l i = (y : Int) → ¬ Sub ps y j := by
  intro l y hy
  by_cases hl : l < k
  · exact h2 l hl y hy
  · exfalso
    have := it_neg (ps := ps) (l - k) _ h
    rw [← it_add] at this
    have e : l - k + k = l := by omega
    rw [e, hy] at this; omega

set_option maxRecDepth 100000 in
set_option maxHeartbeats 2000000 in
theorem common_any (A : Option Addr) (c : Nat) (ls : List Lab) (i j : Int) (w : World) (hA : Labs w A ls) (hx : ls.length ≤ maxLen) :
    Calls Try.prog 26 #[.slice A ls.length c, .int .i64 i, .int .i64 j] w (ComPost ls i j w) := by
  have HC := Lib.hid (parentsOf_any A c ls i j w hA hx)
  unfold maxLen at hx
  go_enter Try.func26, Try.ntmps26
  go_wp2_with fail
  refine HC.out.mono ?_
  rintro e w1 ⟨hb, ⟨ps, v, hF, hr, rfl, hs⟩ | ⟨hno, v, rfl⟩⟩
  · obtain ⟨hn, F⟩ := facts hF
    have hlen := F.len
    have HF := Lib.hid hF
    have HFa := Lib.hid F
    obtain ⟨⟨r1, r2⟩, r3, r4⟩ := hr
    obtain ⟨i0, hi0⟩ : ∃ i0 : Nat, i = (i0 : Int) := ⟨i.toNat, by omega⟩
    obtain ⟨j0, hj0⟩ : ∃ j0 : Nat, j = (j0 : Int) := ⟨j.toNat, by omega⟩
    subst hi0 hj0
    have hfin : Hid (∀ cc, IsCom ps i0 j0 cc → comP ls i0 j0 cc) := fun cc h => .inl ⟨ps, HF.out, ⟨⟨r1, r2⟩, r3, r4⟩, by simpa using h⟩
    have hj1 : j0 < ls.length := by omega
    have hjp : j0 < ps.length := by omega
    have hip : i0 < ps.length := by omega
    have hnl : ls.length ≤ 4096 := by omega
    have hpl : ps.length ≤ ls.length := by omega
    have hpl2 : ls.length ≤ ps.length := by omega
    obtain ⟨Ap, cp, rfl, _, _, hrd⟩ := hs
    have hrd1 : Ints w1 Ap ps := hrd
    clear hlen F hF HC hrd
    have HCs : ∀ cc, IsCom ps i0 j0 cc → True := fun _ _ => trivial
    clear HCs
    go_wp2
    go_loopg [1] (ps.length + 1) (fun q v wr => ∃ (k : Nat) (x : Int), q = ps.length + 1 - k ∧ k ≤ ps.length ∧ v = .int .i64 x ∧ Hid (x = it ps k i0) ∧ -1 ≤ x ∧ x < ps.length ∧ Hid (∀ l, l < k → ∀ y : Nat, it ps l i0 = (y : Int) → ¬ Sub ps y j0) ∧ Ints wr Ap ps ∧ Below w.heap.size w wr)
    case atStart => exact ⟨0, i0, rfl, by omega, rfl, rfl, by omega, by omega, fun l hl => by omega, hrd1, hb⟩
    case round =>
      clear hrd1 hb
      obtain ⟨k, x, hq, hk, rfl, hxk, hx0, hx1, hnone, hrd, hbw⟩ := hrel
      have HQ := Lib.hid hq; clear hq
      by_cases hneg : x < 0
      · have hd0 : decide (0 ≤ x) = false := decide_eq_false (by omega)
        go_wp2
        refine wp_reg_vals [some 18, some 19, some 20, some 21, some 22, some 23, some 24, some 25, some 26, some 27, some 28, some 29, some 30, some 31, some 32, some 33, some 34, some 35, some 36] [?v1_0, ?v1_1, ?v1_2, ?v1_3, ?v1_4, ?v1_5, ?v1_6, ?v1_7, ?v1_8, ?v1_9, ?v1_10, ?v1_11, ?v1_12, ?v1_13, ?v1_14, ?v1_15, ?v1_16, ?v1_17, ?v1_18] rfl (by kernel_rfl) rfl rfl ⟨?s1_0, ?s1_1, ?s1_2, ?s1_3, ?s1_4, ?s1_5, ?s1_6, ?s1_7, ?s1_8, ?s1_9, ?s1_10, ?s1_11, ?s1_12, ?s1_13, ?s1_14, ?s1_15, ?s1_16, ?s1_17, ?s1_18, trivial⟩ ?p1
        case s1_0 =>
          intro u9 w9 hT9 hV9 K9 hK9
          clear hV9
          simp only [putAll, Act.put, List.setIfInBounds_toArray, List.set_cons_succ, List.set_cons_zero, List.getD_cons_succ, List.getD_cons_zero, Nat.reduceAdd, Nat.zero_add] at hK9 ⊢
          go_simp
          exact hK9 _ (Grow.refl _)
        case s1_1 =>
          intro u9 w9 hT9 hV9 K9 hK9
          have p9_0 := hV9 0 rfl
          clear hV9
          simp only [putAll, Act.put, List.setIfInBounds_toArray, List.set_cons_succ, List.set_cons_zero, List.getD_cons_succ, List.getD_cons_zero, Nat.reduceAdd, Nat.zero_add] at p9_0 hK9 ⊢
          simp only [p9_0] at hK9 ⊢
          clear p9_0
          go_simp
          exact hK9 _ (Grow.refl _)
        case s1_2 =>
          intro u9 w9 hT9 hV9 K9 hK9
          have p9_1 := hV9 1 rfl
          clear hV9
          simp only [putAll, Act.put, List.setIfInBounds_toArray, List.set_cons_succ, List.set_cons_zero, List.getD_cons_succ, List.getD_cons_zero, Nat.reduceAdd, Nat.zero_add] at p9_1 hK9 ⊢
          simp only [p9_1] at hK9 ⊢
          clear p9_1
          go_simp
          exact hK9 _ (Grow.refl _)
        case s1_3 =>
          intro u9 w9 hT9 hV9 K9 hK9
          have p9_2 := hV9 2 rfl
          clear hV9
          simp only [putAll, Act.put, List.setIfInBounds_toArray, List.set_cons_succ, List.set_cons_zero, List.getD_cons_succ, List.getD_cons_zero, Nat.reduceAdd, Nat.zero_add] at p9_2 hK9 ⊢
          simp only [p9_2] at hK9 ⊢
          clear p9_2
          go_simp
          exact hK9 _ (Grow.refl _)
        case s1_4 =>
          intro u9 w9 hT9 hV9 K9 hK9
          have p9_2 := hV9 2 rfl
          clear hV9
          simp only [putAll, Act.put, List.setIfInBounds_toArray, List.set_cons_succ, List.set_cons_zero, List.getD_cons_succ, List.getD_cons_zero, Nat.reduceAdd, Nat.zero_add] at p9_2 hK9 ⊢
          simp only [p9_2] at hK9 ⊢
          clear p9_2
          go_simp
          exact hK9 _ (Grow.refl _)
        case s1_5 =>
          intro u9 w9 hT9 hV9 K9 hK9
          have p9_2 := hV9 2 rfl
          have p9_3 := hV9 3 rfl
          have p9_4 := hV9 4 rfl
          clear hV9
          simp only [putAll, Act.put, List.setIfInBounds_toArray, List.set_cons_succ, List.set_cons_zero, List.getD_cons_succ, List.getD_cons_zero, Nat.reduceAdd, Nat.zero_add] at p9_2 p9_3 p9_4 hK9 ⊢
          simp only [p9_2, p9_3, p9_4] at hK9 ⊢
          clear p9_2 p9_3 p9_4
          go_simp
          exact hK9 _ (Grow.refl _)
        case s1_6 =>
          intro u9 w9 hT9 hV9 K9 hK9
          have p9_2 := hV9 2 rfl
          have p9_5 := hV9 5 rfl
          clear hV9
          simp only [putAll, Act.put, List.setIfInBounds_toArray, List.set_cons_succ, List.set_cons_zero, List.getD_cons_succ, List.getD_cons_zero, Nat.reduceAdd, Nat.zero_add] at p9_2 p9_5 hK9 ⊢
          simp only [p9_2, p9_5] at hK9 ⊢
          clear p9_2 p9_5
          go_simp
          exact hK9 _ (Grow.refl _)
        case s1_7 =>
          intro u9 w9 hT9 hV9 K9 hK9
          have p9_6 := hV9 6 rfl
          clear hV9
          simp only [putAll, Act.put, List.setIfInBounds_toArray, List.set_cons_succ, List.set_cons_zero, List.getD_cons_succ, List.getD_cons_zero, Nat.reduceAdd, Nat.zero_add] at p9_6 hK9 ⊢
          simp only [p9_6] at hK9 ⊢
          clear p9_6
          go_simp
          exact hK9 _ (Grow.refl _)
        case s1_8 =>
          intro u9 w9 hT9 hV9 K9 hK9
          have p9_7 := hV9 7 rfl
          clear hV9
          simp only [putAll, Act.put, List.setIfInBounds_toArray, List.set_cons_succ, List.set_cons_zero, List.getD_cons_succ, List.getD_cons_zero, Nat.reduceAdd, Nat.zero_add] at p9_7 hK9 ⊢
          simp only [p9_7] at hK9 ⊢
          clear p9_7
          go_simp
          exact hK9 _ (Grow.refl _)
        case s1_9 =>
          intro u9 w9 hT9 hV9 K9 hK9
          have p9_7 := hV9 7 rfl
          clear hV9
          simp only [putAll, Act.put, List.setIfInBounds_toArray, List.set_cons_succ, List.set_cons_zero, List.getD_cons_succ, List.getD_cons_zero, Nat.reduceAdd, Nat.zero_add] at p9_7 hK9 ⊢
          simp only [p9_7] at hK9 ⊢
          clear p9_7
          go_simp
          exact hK9 _ (Grow.refl _)
        case s1_10 =>
          intro u9 w9 hT9 hV9 K9 hK9
          have p9_7 := hV9 7 rfl
          have p9_8 := hV9 8 rfl
          have p9_9 := hV9 9 rfl
          clear hV9
          simp only [putAll, Act.put, List.setIfInBounds_toArray, List.set_cons_succ, List.set_cons_zero, List.getD_cons_succ, List.getD_cons_zero, Nat.reduceAdd, Nat.zero_add] at p9_7 p9_8 p9_9 hK9 ⊢
          simp only [p9_7, p9_8, p9_9] at hK9 ⊢
          clear p9_7 p9_8 p9_9
          go_simp
          exact hK9 _ (Grow.refl _)
        case s1_11 =>
          intro u9 w9 hT9 hV9 K9 hK9
          have p9_7 := hV9 7 rfl
          have p9_10 := hV9 10 rfl
          clear hV9
          simp only [putAll, Act.put, List.setIfInBounds_toArray, List.set_cons_succ, List.set_cons_zero, List.getD_cons_succ, List.getD_cons_zero, Nat.reduceAdd, Nat.zero_add] at p9_7 p9_10 hK9 ⊢
          simp only [p9_7, p9_10] at hK9 ⊢
          clear p9_7 p9_10
          go_simp
          exact hK9 _ (Grow.refl _)
        case s1_12 =>
          intro u9 w9 hT9 hV9 K9 hK9
          have p9_7 := hV9 7 rfl
          clear hV9
          simp only [putAll, Act.put, List.setIfInBounds_toArray, List.set_cons_succ, List.set_cons_zero, List.getD_cons_succ, List.getD_cons_zero, Nat.reduceAdd, Nat.zero_add] at p9_7 hK9 ⊢
          simp only [p9_7] at hK9 ⊢
          clear p9_7
          go_simp
          exact hK9 _ (Grow.refl _)
        case s1_13 =>
          intro u9 w9 hT9 hV9 K9 hK9
          have p9_7 := hV9 7 rfl
          clear hV9
          simp only [putAll, Act.put, List.setIfInBounds_toArray, List.set_cons_succ, List.set_cons_zero, List.getD_cons_succ, List.getD_cons_zero, Nat.reduceAdd, Nat.zero_add] at p9_7 hK9 ⊢
          simp only [p9_7] at hK9 ⊢
          clear p9_7
          go_simp
          exact hK9 _ (Grow.refl _)
        case s1_14 =>
          intro u9 w9 hT9 hV9 K9 hK9
          have p9_7 := hV9 7 rfl
          have p9_12 := hV9 12 rfl
          have p9_13 := hV9 13 rfl
          clear hV9
          simp only [putAll, Act.put, List.setIfInBounds_toArray, List.set_cons_succ, List.set_cons_zero, List.getD_cons_succ, List.getD_cons_zero, Nat.reduceAdd, Nat.zero_add] at p9_7 p9_12 p9_13 hK9 ⊢
          simp only [p9_7, p9_12, p9_13] at hK9 ⊢
          clear p9_7 p9_12 p9_13
          go_simp
          exact hK9 _ (Grow.refl _)
        case s1_15 =>
          intro u9 w9 hT9 hV9 K9 hK9
          have p9_7 := hV9 7 rfl
          have p9_14 := hV9 14 rfl
          clear hV9
          simp only [putAll, Act.put, List.setIfInBounds_toArray, List.set_cons_succ, List.set_cons_zero, List.getD_cons_succ, List.getD_cons_zero, Nat.reduceAdd, Nat.zero_add] at p9_7 p9_14 hK9 ⊢
          simp only [p9_7, p9_14] at hK9 ⊢
          clear p9_7 p9_14
          go_simp
          exact hK9 _ (Grow.refl _)
        case s1_16 =>
          intro u9 w9 hT9 hV9 K9 hK9
          have p9_7 := hV9 7 rfl
          have p9_11 := hV9 11 rfl
          have p9_15 := hV9 15 rfl
          clear hV9
          simp only [putAll, Act.put, List.setIfInBounds_toArray, List.set_cons_succ, List.set_cons_zero, List.getD_cons_succ, List.getD_cons_zero, Nat.reduceAdd, Nat.zero_add] at p9_7 p9_11 p9_15 hK9 ⊢
          simp only [p9_7, p9_11, p9_15] at hK9 ⊢
          clear p9_7 p9_11 p9_15
          go_simp
          exact hK9 _ (Grow.refl _)
        case s1_17 =>
          intro u9 w9 hT9 hV9 K9 hK9
          have p9_7 := hV9 7 rfl
          have p9_16 := hV9 16 rfl
          clear hV9
          simp only [putAll, Act.put, List.setIfInBounds_toArray, List.set_cons_succ, List.set_cons_zero, List.getD_cons_succ, List.getD_cons_zero, Nat.reduceAdd, Nat.zero_add] at p9_7 p9_16 hK9 ⊢
          simp only [p9_7, p9_16] at hK9 ⊢
          clear p9_7 p9_16
          go_simp
          exact hK9 _ (Grow.refl _)
        case s1_18 =>
          intro u9 w9 hT9 hV9 K9 hK9
          have p9_7 := hV9 7 rfl
          have p9_17 := hV9 17 rfl
          clear hV9
          simp only [putAll, Act.put, List.setIfInBounds_toArray, List.set_cons_succ, List.set_cons_zero, List.getD_cons_succ, List.getD_cons_zero, Nat.reduceAdd, Nat.zero_add] at p9_7 p9_17 hK9 ⊢
          simp only [p9_7, p9_17] at hK9 ⊢
          clear p9_7 p9_17
          go_simp
          exact hK9 _ (Grow.refl _)
        intro w9 hb9
        simp only [putAll, Act.put, List.setIfInBounds_toArray, List.set_cons_succ, List.set_cons_zero, List.getD_cons_succ, List.getD_cons_zero, Nat.reduceAdd, Nat.zero_add]
        go_wp2
        go_ret
        refine ⟨hbw.trans (hb9.mono hbw.size), x, rfl, hfin.out x (.inr ⟨by omega, not_sub_neg (by rw [← hxk.out]; exact hneg) hnone.out⟩)⟩
      · obtain ⟨y, hy⟩ : ∃ y : Nat, x = (y : Int) := ⟨x.toNat, by omega⟩
        subst hy
        have hkn : k < ps.length := by
          rcases Nat.lt_or_ge k ps.length with h | h
          · exact h
          · exfalso
            have h1 := it_out HFa.out.v HFa.out.a hip
            have h2 := it_neg (ps := ps) (k - ps.length) _ h1
            rw [← it_add] at h2
            have e : k - ps.length + ps.length = k := by omega
            rw [e, ← hxk.out] at h2; omega
        by_cases hyj : y = j0
        · have hb1 : (((y : Nat) : Int) != (j0 : Int)) = false := by simp [hyj]
          have hcom : Hid (IsCom ps i0 j0 y) := .inl ⟨k, y, hxk.out.symm, rfl, .inl hyj.symm, hnone.out⟩
          clear hyj
          go_wp2
          refine wp_reg_vals [some 18, some 19, some 20, some 21, some 22, some 23, some 24, some 25, some 26, some 27, some 28, some 29, some 30, some 31, some 32, some 33, some 34, some 35, some 36] [?v2_0, ?v2_1, ?v2_2, ?v2_3, ?v2_4, ?v2_5, ?v2_6, ?v2_7, ?v2_8, ?v2_9, ?v2_10, ?v2_11, ?v2_12, ?v2_13, ?v2_14, ?v2_15, ?v2_16, ?v2_17, ?v2_18] rfl (by kernel_rfl) rfl rfl ⟨?s2_0, ?s2_1, ?s2_2, ?s2_3, ?s2_4, ?s2_5, ?s2_6, ?s2_7, ?s2_8, ?s2_9, ?s2_10, ?s2_11, ?s2_12, ?s2_13, ?s2_14, ?s2_15, ?s2_16, ?s2_17, ?s2_18, trivial⟩ ?p2
          case s2_0 =>
            intro u9 w9 hT9 hV9 K9 hK9
            clear hV9
            simp only [putAll, Act.put, List.setIfInBounds_toArray, List.set_cons_succ, List.set_cons_zero, List.getD_cons_succ, List.getD_cons_zero, Nat.reduceAdd, Nat.zero_add] at hK9 ⊢
            go_simp
            exact hK9 _ (Grow.refl _)
          case s2_1 =>
            intro u9 w9 hT9 hV9 K9 hK9
            have p9_0 := hV9 0 rfl
            clear hV9
            simp only [putAll, Act.put, List.setIfInBounds_toArray, List.set_cons_succ, List.set_cons_zero, List.getD_cons_succ, List.getD_cons_zero, Nat.reduceAdd, Nat.zero_add] at p9_0 hK9 ⊢
            simp only [p9_0] at hK9 ⊢
            clear p9_0
            go_simp
            exact hK9 _ (Grow.refl _)
          case s2_2 =>
            intro u9 w9 hT9 hV9 K9 hK9
            have p9_1 := hV9 1 rfl
            clear hV9
            simp only [putAll, Act.put, List.setIfInBounds_toArray, List.set_cons_succ, List.set_cons_zero, List.getD_cons_succ, List.getD_cons_zero, Nat.reduceAdd, Nat.zero_add] at p9_1 hK9 ⊢
            simp only [p9_1] at hK9 ⊢
            clear p9_1
            go_simp
            exact hK9 _ (Grow.refl _)
          case s2_3 =>
            intro u9 w9 hT9 hV9 K9 hK9
            have p9_2 := hV9 2 rfl
            clear hV9
            simp only [putAll, Act.put, List.setIfInBounds_toArray, List.set_cons_succ, List.set_cons_zero, List.getD_cons_succ, List.getD_cons_zero, Nat.reduceAdd, Nat.zero_add] at p9_2 hK9 ⊢
            simp only [p9_2] at hK9 ⊢
            clear p9_2
            go_simp
            exact hK9 _ (Grow.refl _)
          case s2_4 =>
            intro u9 w9 hT9 hV9 K9 hK9
            have p9_2 := hV9 2 rfl
            clear hV9
            simp only [putAll, Act.put, List.setIfInBounds_toArray, List.set_cons_succ, List.set_cons_zero, List.getD_cons_succ, List.getD_cons_zero, Nat.reduceAdd, Nat.zero_add] at p9_2 hK9 ⊢
            simp only [p9_2] at hK9 ⊢
            clear p9_2
            go_simp
            exact hK9 _ (Grow.refl _)
          case s2_5 =>
            intro u9 w9 hT9 hV9 K9 hK9
            have p9_2 := hV9 2 rfl
            have p9_3 := hV9 3 rfl
            have p9_4 := hV9 4 rfl
            clear hV9
            simp only [putAll, Act.put, List.setIfInBounds_toArray, List.set_cons_succ, List.set_cons_zero, List.getD_cons_succ, List.getD_cons_zero, Nat.reduceAdd, Nat.zero_add] at p9_2 p9_3 p9_4 hK9 ⊢
            simp only [p9_2, p9_3, p9_4] at hK9 ⊢
            clear p9_2 p9_3 p9_4
            go_simp
            exact hK9 _ (Grow.refl _)
          case s2_6 =>
            intro u9 w9 hT9 hV9 K9 hK9
            have p9_2 := hV9 2 rfl
            have p9_5 := hV9 5 rfl
            clear hV9
            simp only [putAll, Act.put, List.setIfInBounds_toArray, List.set_cons_succ, List.set_cons_zero, List.getD_cons_succ, List.getD_cons_zero, Nat.reduceAdd, Nat.zero_add] at p9_2 p9_5 hK9 ⊢
            simp only [p9_2, p9_5] at hK9 ⊢
            clear p9_2 p9_5
            go_simp
            exact hK9 _ (Grow.refl _)
          case s2_7 =>
            intro u9 w9 hT9 hV9 K9 hK9
            have p9_6 := hV9 6 rfl
            clear hV9
            simp only [putAll, Act.put, List.setIfInBounds_toArray, List.set_cons_succ, List.set_cons_zero, List.getD_cons_succ, List.getD_cons_zero, Nat.reduceAdd, Nat.zero_add] at p9_6 hK9 ⊢
            simp only [p9_6] at hK9 ⊢
            clear p9_6
            go_simp
            exact hK9 _ (Grow.refl _)
          case s2_8 =>
            intro u9 w9 hT9 hV9 K9 hK9
            have p9_7 := hV9 7 rfl
            clear hV9
            simp only [putAll, Act.put, List.setIfInBounds_toArray, List.set_cons_succ, List.set_cons_zero, List.getD_cons_succ, List.getD_cons_zero, Nat.reduceAdd, Nat.zero_add] at p9_7 hK9 ⊢
            simp only [p9_7] at hK9 ⊢
            clear p9_7
            go_simp
            exact hK9 _ (Grow.refl _)
          case s2_9 =>
            intro u9 w9 hT9 hV9 K9 hK9
            have p9_7 := hV9 7 rfl
            clear hV9
            simp only [putAll, Act.put, List.setIfInBounds_toArray, List.set_cons_succ, List.set_cons_zero, List.getD_cons_succ, List.getD_cons_zero, Nat.reduceAdd, Nat.zero_add] at p9_7 hK9 ⊢
            simp only [p9_7] at hK9 ⊢
            clear p9_7
            go_simp
            exact hK9 _ (Grow.refl _)
          case s2_10 =>
            intro u9 w9 hT9 hV9 K9 hK9
            have p9_7 := hV9 7 rfl
            have p9_8 := hV9 8 rfl
            have p9_9 := hV9 9 rfl
            clear hV9
            simp only [putAll, Act.put, List.setIfInBounds_toArray, List.set_cons_succ, List.set_cons_zero, List.getD_cons_succ, List.getD_cons_zero, Nat.reduceAdd, Nat.zero_add] at p9_7 p9_8 p9_9 hK9 ⊢
            simp only [p9_7, p9_8, p9_9] at hK9 ⊢
            clear p9_7 p9_8 p9_9
            go_simp
            exact hK9 _ (Grow.refl _)
          case s2_11 =>
            intro u9 w9 hT9 hV9 K9 hK9
            have p9_7 := hV9 7 rfl
            have p9_10 := hV9 10 rfl
            clear hV9
            simp only [putAll, Act.put, List.setIfInBounds_toArray, List.set_cons_succ, List.set_cons_zero, List.getD_cons_succ, List.getD_cons_zero, Nat.reduceAdd, Nat.zero_add] at p9_7 p9_10 hK9 ⊢
            simp only [p9_7, p9_10] at hK9 ⊢
            clear p9_7 p9_10
            go_simp
            exact hK9 _ (Grow.refl _)
          case s2_12 =>
            intro u9 w9 hT9 hV9 K9 hK9
            have p9_7 := hV9 7 rfl
            clear hV9
            simp only [putAll, Act.put, List.setIfInBounds_toArray, List.set_cons_succ, List.set_cons_zero, List.getD_cons_succ, List.getD_cons_zero, Nat.reduceAdd, Nat.zero_add] at p9_7 hK9 ⊢
            simp only [p9_7] at hK9 ⊢
            clear p9_7
            go_simp
            exact hK9 _ (Grow.refl _)
          case s2_13 =>
            intro u9 w9 hT9 hV9 K9 hK9
            have p9_7 := hV9 7 rfl
            clear hV9
            simp only [putAll, Act.put, List.setIfInBounds_toArray, List.set_cons_succ, List.set_cons_zero, List.getD_cons_succ, List.getD_cons_zero, Nat.reduceAdd, Nat.zero_add] at p9_7 hK9 ⊢
            simp only [p9_7] at hK9 ⊢
            clear p9_7
            go_simp
            exact hK9 _ (Grow.refl _)
          case s2_14 =>
            intro u9 w9 hT9 hV9 K9 hK9
            have p9_7 := hV9 7 rfl
            have p9_12 := hV9 12 rfl
            have p9_13 := hV9 13 rfl
            clear hV9
            simp only [putAll, Act.put, List.setIfInBounds_toArray, List.set_cons_succ, List.set_cons_zero, List.getD_cons_succ, List.getD_cons_zero, Nat.reduceAdd, Nat.zero_add] at p9_7 p9_12 p9_13 hK9 ⊢
            simp only [p9_7, p9_12, p9_13] at hK9 ⊢
            clear p9_7 p9_12 p9_13
            go_simp
            exact hK9 _ (Grow.refl _)
          case s2_15 =>
            intro u9 w9 hT9 hV9 K9 hK9
            have p9_7 := hV9 7 rfl
            have p9_14 := hV9 14 rfl
            clear hV9
            simp only [putAll, Act.put, List.setIfInBounds_toArray, List.set_cons_succ, List.set_cons_zero, List.getD_cons_succ, List.getD_cons_zero, Nat.reduceAdd, Nat.zero_add] at p9_7 p9_14 hK9 ⊢
            simp only [p9_7, p9_14] at hK9 ⊢
            clear p9_7 p9_14
            go_simp
            exact hK9 _ (Grow.refl _)
          case s2_16 =>
            intro u9 w9 hT9 hV9 K9 hK9
            have p9_7 := hV9 7 rfl
            have p9_11 := hV9 11 rfl
            have p9_15 := hV9 15 rfl
            clear hV9
            simp only [putAll, Act.put, List.setIfInBounds_toArray, List.set_cons_succ, List.set_cons_zero, List.getD_cons_succ, List.getD_cons_zero, Nat.reduceAdd, Nat.zero_add] at p9_7 p9_11 p9_15 hK9 ⊢
            simp only [p9_7, p9_11, p9_15] at hK9 ⊢
            clear p9_7 p9_11 p9_15
            go_simp
            exact hK9 _ (Grow.refl _)
          case s2_17 =>
            intro u9 w9 hT9 hV9 K9 hK9
            have p9_7 := hV9 7 rfl
            have p9_16 := hV9 16 rfl
            clear hV9
            simp only [putAll, Act.put, List.setIfInBounds_toArray, List.set_cons_succ, List.set_cons_zero, List.getD_cons_succ, List.getD_cons_zero, Nat.reduceAdd, Nat.zero_add] at p9_7 p9_16 hK9 ⊢
            simp only [p9_7, p9_16] at hK9 ⊢
            clear p9_7 p9_16
            go_simp
            exact hK9 _ (Grow.refl _)
          case s2_18 =>
            intro u9 w9 hT9 hV9 K9 hK9
            have p9_7 := hV9 7 rfl
            have p9_17 := hV9 17 rfl
            clear hV9
            simp only [putAll, Act.put, List.setIfInBounds_toArray, List.set_cons_succ, List.set_cons_zero, List.getD_cons_succ, List.getD_cons_zero, Nat.reduceAdd, Nat.zero_add] at p9_7 p9_17 hK9 ⊢
            simp only [p9_7, p9_17] at hK9 ⊢
            clear p9_7 p9_17
            go_simp
            exact hK9 _ (Grow.refl _)
          intro w9 hb9
          simp only [putAll, Act.put, List.setIfInBounds_toArray, List.set_cons_succ, List.set_cons_zero, List.getD_cons_succ, List.getD_cons_zero, Nat.reduceAdd, Nat.zero_add]
          go_wp2
          go_ret
          exact ⟨hbw.trans (hb9.mono hbw.size), y, rfl, hfin.out y hcom.out⟩
        · have hb1 : (((y : Nat) : Int) != (j0 : Int)) = true := by simp; omega
          have hyl : y < ls.length := by omega
          have hyl1 : ((y : Nat) : Int) < ls.length := by omega
          obtain ⟨b, off, rfl, y0, y1, y2⟩ := (hA.below hbw).get hyl
          obtain ⟨_, _, e, z0, z1, z2⟩ := (hA.below hbw).get hj1
          cases e
          rw [labAt_get hyl] at y0 y1 y2
          rw [labAt_get hj1] at z0 z1 z2
          have hdom : Dom (labAt ls y) (labAt ls j0) = true ↔ Anc ps y j0 := by
            rw [Dom_iff, HFa.out.anc_iff (by omega) hjp]
          cases hD : Dom (labAt ls y) (labAt ls j0) with
          | true =>
            have HD : Hid (∀ w, Calls Try.prog 20 #[.agg #[.int .i64 (labAt ls y).1, .int .i64 (labAt ls y).2.1, .int .i64 (labAt ls y).2.2], .agg #[.int .i64 (labAt ls j0).1, .int .i64 (labAt ls j0).2.1, .int .i64 (labAt ls j0).2.2]] w fun e w' => e = .returned (.bool true) ∧ Below w.heap.size w w') := by
              intro w
              have := dominates_any (labAt ls y) (labAt ls j0) w
              rw [hD] at this
              exact this
            have hcom : Hid (IsCom ps i0 j0 y) := .inl ⟨k, y, hxk.out.symm, rfl, .inr (hdom.1 hD), hnone.out⟩
            clear hD hdom
            go_wp2
            refine wp_reg_vals [some 18, some 19, some 20, some 21, some 22, some 23, some 24, some 25, some 26, some 27, some 28, some 29, some 30, some 31, some 32, some 33, some 34, some 35, some 36] [?v3_0, ?v3_1, ?v3_2, ?v3_3, ?v3_4, ?v3_5, ?v3_6, ?v3_7, ?v3_8, ?v3_9, ?v3_10, ?v3_11, ?v3_12, ?v3_13, ?v3_14, ?v3_15, ?v3_16, ?v3_17, ?v3_18] rfl (by kernel_rfl) rfl rfl ⟨?s3_0, ?s3_1, ?s3_2, ?s3_3, ?s3_4, ?s3_5, ?s3_6, ?s3_7, ?s3_8, ?s3_9, ?s3_10, ?s3_11, ?s3_12, ?s3_13, ?s3_14, ?s3_15, ?s3_16, ?s3_17, ?s3_18, trivial⟩ ?p3
            case s3_0 =>
              intro u9 w9 hT9 hV9 K9 hK9
              clear hV9
              simp only [putAll, Act.put, List.setIfInBounds_toArray, List.set_cons_succ, List.set_cons_zero, List.getD_cons_succ, List.getD_cons_zero, Nat.reduceAdd, Nat.zero_add] at hK9 ⊢
              go_simp
              exact hK9 _ (Grow.refl _)
            case s3_1 =>
              intro u9 w9 hT9 hV9 K9 hK9
              have p9_0 := hV9 0 rfl
              clear hV9
              simp only [putAll, Act.put, List.setIfInBounds_toArray, List.set_cons_succ, List.set_cons_zero, List.getD_cons_succ, List.getD_cons_zero, Nat.reduceAdd, Nat.zero_add] at p9_0 hK9 ⊢
              simp only [p9_0] at hK9 ⊢
              clear p9_0
              go_simp
              exact hK9 _ (Grow.refl _)
            case s3_2 =>
              intro u9 w9 hT9 hV9 K9 hK9
              have p9_1 := hV9 1 rfl
              clear hV9
              simp only [putAll, Act.put, List.setIfInBounds_toArray, List.set_cons_succ, List.set_cons_zero, List.getD_cons_succ, List.getD_cons_zero, Nat.reduceAdd, Nat.zero_add] at p9_1 hK9 ⊢
              simp only [p9_1] at hK9 ⊢
              clear p9_1
              go_simp
              exact hK9 _ (Grow.refl _)
            case s3_3 =>
              intro u9 w9 hT9 hV9 K9 hK9
              have p9_2 := hV9 2 rfl
              clear hV9
              simp only [putAll, Act.put, List.setIfInBounds_toArray, List.set_cons_succ, List.set_cons_zero, List.getD_cons_succ, List.getD_cons_zero, Nat.reduceAdd, Nat.zero_add] at p9_2 hK9 ⊢
              simp only [p9_2] at hK9 ⊢
              clear p9_2
              go_simp
              exact hK9 _ (Grow.refl _)
            case s3_4 =>
              intro u9 w9 hT9 hV9 K9 hK9
              have p9_2 := hV9 2 rfl
              clear hV9
              simp only [putAll, Act.put, List.setIfInBounds_toArray, List.set_cons_succ, List.set_cons_zero, List.getD_cons_succ, List.getD_cons_zero, Nat.reduceAdd, Nat.zero_add] at p9_2 hK9 ⊢
              simp only [p9_2] at hK9 ⊢
              clear p9_2
              go_simp
              exact hK9 _ (Grow.refl _)
            case s3_5 =>
              intro u9 w9 hT9 hV9 K9 hK9
              have p9_2 := hV9 2 rfl
              have p9_3 := hV9 3 rfl
              have p9_4 := hV9 4 rfl
              clear hV9
              simp only [putAll, Act.put, List.setIfInBounds_toArray, List.set_cons_succ, List.set_cons_zero, List.getD_cons_succ, List.getD_cons_zero, Nat.reduceAdd, Nat.zero_add] at p9_2 p9_3 p9_4 hK9 ⊢
              simp only [p9_2, p9_3, p9_4] at hK9 ⊢
              clear p9_2 p9_3 p9_4
              go_simp
              exact hK9 _ (Grow.refl _)
            case s3_6 =>
              intro u9 w9 hT9 hV9 K9 hK9
              have p9_2 := hV9 2 rfl
              have p9_5 := hV9 5 rfl
              clear hV9
              simp only [putAll, Act.put, List.setIfInBounds_toArray, List.set_cons_succ, List.set_cons_zero, List.getD_cons_succ, List.getD_cons_zero, Nat.reduceAdd, Nat.zero_add] at p9_2 p9_5 hK9 ⊢
              simp only [p9_2, p9_5] at hK9 ⊢
              clear p9_2 p9_5
              go_simp
              exact hK9 _ (Grow.refl _)
            case s3_7 =>
              intro u9 w9 hT9 hV9 K9 hK9
              have p9_6 := hV9 6 rfl
              clear hV9
              simp only [putAll, Act.put, List.setIfInBounds_toArray, List.set_cons_succ, List.set_cons_zero, List.getD_cons_succ, List.getD_cons_zero, Nat.reduceAdd, Nat.zero_add] at p9_6 hK9 ⊢
              simp only [p9_6] at hK9 ⊢
              clear p9_6
              go_simp
              exact hK9 _ (Grow.refl _)
            case s3_8 =>
              intro u9 w9 hT9 hV9 K9 hK9
              have p9_7 := hV9 7 rfl
              clear hV9
              simp only [putAll, Act.put, List.setIfInBounds_toArray, List.set_cons_succ, List.set_cons_zero, List.getD_cons_succ, List.getD_cons_zero, Nat.reduceAdd, Nat.zero_add] at p9_7 hK9 ⊢
              simp only [p9_7] at hK9 ⊢
              clear p9_7
              go_simp
              exact hK9 _ (Grow.refl _)
            case s3_9 =>
              intro u9 w9 hT9 hV9 K9 hK9
              have p9_7 := hV9 7 rfl
              clear hV9
              simp only [putAll, Act.put, List.setIfInBounds_toArray, List.set_cons_succ, List.set_cons_zero, List.getD_cons_succ, List.getD_cons_zero, Nat.reduceAdd, Nat.zero_add] at p9_7 hK9 ⊢
              simp only [p9_7] at hK9 ⊢
              clear p9_7
              go_simp
              exact hK9 _ (Grow.refl _)
            case s3_10 =>
              intro u9 w9 hT9 hV9 K9 hK9
              have p9_7 := hV9 7 rfl
              have p9_8 := hV9 8 rfl
              have p9_9 := hV9 9 rfl
              clear hV9
              simp only [putAll, Act.put, List.setIfInBounds_toArray, List.set_cons_succ, List.set_cons_zero, List.getD_cons_succ, List.getD_cons_zero, Nat.reduceAdd, Nat.zero_add] at p9_7 p9_8 p9_9 hK9 ⊢
              simp only [p9_7, p9_8, p9_9] at hK9 ⊢
              clear p9_7 p9_8 p9_9
              go_simp
              exact hK9 _ (Grow.refl _)
            case s3_11 =>
              intro u9 w9 hT9 hV9 K9 hK9
              have p9_7 := hV9 7 rfl
              have p9_10 := hV9 10 rfl
              clear hV9
              simp only [putAll, Act.put, List.setIfInBounds_toArray, List.set_cons_succ, List.set_cons_zero, List.getD_cons_succ, List.getD_cons_zero, Nat.reduceAdd, Nat.zero_add] at p9_7 p9_10 hK9 ⊢
              simp only [p9_7, p9_10] at hK9 ⊢
              clear p9_7 p9_10
              have d9_0 := grow_cell hT9 y0
              have d9_1 := grow_cell hT9 y1
              have d9_2 := grow_cell hT9 y2
              have d9_3 := grow_cell hT9 z0
              have d9_4 := grow_cell hT9 z1
              have d9_5 := grow_cell hT9 z2
              go_simp
              exact hK9 _ (Grow.refl _)
            case s3_12 =>
              intro u9 w9 hT9 hV9 K9 hK9
              have p9_7 := hV9 7 rfl
              clear hV9
              simp only [putAll, Act.put, List.setIfInBounds_toArray, List.set_cons_succ, List.set_cons_zero, List.getD_cons_succ, List.getD_cons_zero, Nat.reduceAdd, Nat.zero_add] at p9_7 hK9 ⊢
              simp only [p9_7] at hK9 ⊢
              clear p9_7
              go_simp
              exact hK9 _ (Grow.refl _)
            case s3_13 =>
              intro u9 w9 hT9 hV9 K9 hK9
              have p9_7 := hV9 7 rfl
              clear hV9
              simp only [putAll, Act.put, List.setIfInBounds_toArray, List.set_cons_succ, List.set_cons_zero, List.getD_cons_succ, List.getD_cons_zero, Nat.reduceAdd, Nat.zero_add] at p9_7 hK9 ⊢
              simp only [p9_7] at hK9 ⊢
              clear p9_7
              go_simp
              exact hK9 _ (Grow.refl _)
            case s3_14 =>
              intro u9 w9 hT9 hV9 K9 hK9
              have p9_7 := hV9 7 rfl
              have p9_12 := hV9 12 rfl
              have p9_13 := hV9 13 rfl
              clear hV9
              simp only [putAll, Act.put, List.setIfInBounds_toArray, List.set_cons_succ, List.set_cons_zero, List.getD_cons_succ, List.getD_cons_zero, Nat.reduceAdd, Nat.zero_add] at p9_7 p9_12 p9_13 hK9 ⊢
              simp only [p9_7, p9_12, p9_13] at hK9 ⊢
              clear p9_7 p9_12 p9_13
              go_simp
              exact hK9 _ (Grow.refl _)
            case s3_15 =>
              intro u9 w9 hT9 hV9 K9 hK9
              have p9_7 := hV9 7 rfl
              have p9_14 := hV9 14 rfl
              clear hV9
              simp only [putAll, Act.put, List.setIfInBounds_toArray, List.set_cons_succ, List.set_cons_zero, List.getD_cons_succ, List.getD_cons_zero, Nat.reduceAdd, Nat.zero_add] at p9_7 p9_14 hK9 ⊢
              simp only [p9_7, p9_14] at hK9 ⊢
              clear p9_7 p9_14
              have d9_0 := grow_cell hT9 y0
              have d9_1 := grow_cell hT9 y1
              have d9_2 := grow_cell hT9 y2
              have d9_3 := grow_cell hT9 z0
              have d9_4 := grow_cell hT9 z1
              have d9_5 := grow_cell hT9 z2
              go_simp
              exact hK9 _ (Grow.refl _)
            case s3_16 =>
              intro u9 w9 hT9 hV9 K9 hK9
              have p9_7 := hV9 7 rfl
              have p9_11 := hV9 11 rfl
              have p9_15 := hV9 15 rfl
              clear hV9
              simp only [putAll, Act.put, List.setIfInBounds_toArray, List.set_cons_succ, List.set_cons_zero, List.getD_cons_succ, List.getD_cons_zero, Nat.reduceAdd, Nat.zero_add] at p9_7 p9_11 p9_15 hK9 ⊢
              simp only [p9_7, p9_11, p9_15] at hK9 ⊢
              clear p9_7 p9_11 p9_15
              go_simp
              first | exact hK9 _ (Grow.refl _) | (refine (HD.out _).mono ?_; rintro _ w8 ⟨rfl, hb8⟩; exact hK9 _ hb8)
            case s3_17 =>
              intro u9 w9 hT9 hV9 K9 hK9
              have p9_7 := hV9 7 rfl
              have p9_16 := hV9 16 rfl
              clear hV9
              simp only [putAll, Act.put, List.setIfInBounds_toArray, List.set_cons_succ, List.set_cons_zero, List.getD_cons_succ, List.getD_cons_zero, Nat.reduceAdd, Nat.zero_add] at p9_7 p9_16 hK9 ⊢
              simp only [p9_7, p9_16] at hK9 ⊢
              clear p9_7 p9_16
              go_simp
              exact hK9 _ (Grow.refl _)
            case s3_18 =>
              intro u9 w9 hT9 hV9 K9 hK9
              have p9_7 := hV9 7 rfl
              have p9_17 := hV9 17 rfl
              clear hV9
              simp only [putAll, Act.put, List.setIfInBounds_toArray, List.set_cons_succ, List.set_cons_zero, List.getD_cons_succ, List.getD_cons_zero, Nat.reduceAdd, Nat.zero_add] at p9_7 p9_17 hK9 ⊢
              simp only [p9_7, p9_17] at hK9 ⊢
              clear p9_7 p9_17
              go_simp
              exact hK9 _ (Grow.refl _)
            intro w9 hb9
            simp only [putAll, Act.put, List.setIfInBounds_toArray, List.set_cons_succ, List.set_cons_zero, List.getD_cons_succ, List.getD_cons_zero, Nat.reduceAdd, Nat.zero_add]
            go_wp2
            go_ret
            exact ⟨hbw.trans (hb9.mono hbw.size), y, rfl, hfin.out y hcom.out⟩
          | false =>
            have HD : Hid (∀ w, Calls Try.prog 20 #[.agg #[.int .i64 (labAt ls y).1, .int .i64 (labAt ls y).2.1, .int .i64 (labAt ls y).2.2], .agg #[.int .i64 (labAt ls j0).1, .int .i64 (labAt ls j0).2.1, .int .i64 (labAt ls j0).2.2]] w fun e w' => e = .returned (.bool false) ∧ Below w.heap.size w w') := by
              intro w
              have := dominates_any (labAt ls y) (labAt ls j0) w
              rw [hD] at this
              exact this
            have hnext : Hid (∀ l, l < k + 1 → ∀ z : Nat, it ps l i0 = (z : Int) → ¬ Sub ps z j0) := by
              intro l hl z hz hs
              by_cases e : l = k
              · subst e
                have : z = y := by rw [← hxk.out] at hz; omega
                subst this
                rcases hs with e | e
                · exact hyj e.symm
                · rw [hdom.2 e] at hD; cases hD
              · exact hnone.out l (by omega) z hz hs
            clear hD hdom
            have hyp : y < ps.length := by omega
            obtain ⟨bp, offp, rfl, hcp⟩ := hrd.get hyp
            have hup : Hid (ps[y] = it ps (k + 1) i0) := by
              show _ = _
              rw [it_succ, ← hxk.out, up_nat hyp]
            have hv := HFa.out.v y hyp
            have hcl : (y : Int) < cp ∨ True := .inr trivial
            clear hcl
            go_wp2
            refine wp_reg_vals [some 18, some 19, some 20, some 21, some 22, some 23, some 24, some 25, some 26, some 27, some 28, some 29, some 30, some 31, some 32, some 33, some 34, some 35, some 36] [?v4_0, ?v4_1, ?v4_2, ?v4_3, ?v4_4, ?v4_5, ?v4_6, ?v4_7, ?v4_8, ?v4_9, ?v4_10, ?v4_11, ?v4_12, ?v4_13, ?v4_14, ?v4_15, ?v4_16, ?v4_17, ?v4_18] rfl (by kernel_rfl) rfl rfl ⟨?s4_0, ?s4_1, ?s4_2, ?s4_3, ?s4_4, ?s4_5, ?s4_6, ?s4_7, ?s4_8, ?s4_9, ?s4_10, ?s4_11, ?s4_12, ?s4_13, ?s4_14, ?s4_15, ?s4_16, ?s4_17, ?s4_18, trivial⟩ ?p4
            case s4_0 =>
              intro u9 w9 hT9 hV9 K9 hK9
              clear hV9
              simp only [putAll, Act.put, List.setIfInBounds_toArray, List.set_cons_succ, List.set_cons_zero, List.getD_cons_succ, List.getD_cons_zero, Nat.reduceAdd, Nat.zero_add] at hK9 ⊢
              go_simp
              exact hK9 _ (Grow.refl _)
            case s4_1 =>
              intro u9 w9 hT9 hV9 K9 hK9
              have p9_0 := hV9 0 rfl
              clear hV9
              simp only [putAll, Act.put, List.setIfInBounds_toArray, List.set_cons_succ, List.set_cons_zero, List.getD_cons_succ, List.getD_cons_zero, Nat.reduceAdd, Nat.zero_add] at p9_0 hK9 ⊢
              simp only [p9_0] at hK9 ⊢
              clear p9_0
              go_simp
              exact hK9 _ (Grow.refl _)
            case s4_2 =>
              intro u9 w9 hT9 hV9 K9 hK9
              have p9_1 := hV9 1 rfl
              clear hV9
              simp only [putAll, Act.put, List.setIfInBounds_toArray, List.set_cons_succ, List.set_cons_zero, List.getD_cons_succ, List.getD_cons_zero, Nat.reduceAdd, Nat.zero_add] at p9_1 hK9 ⊢
              simp only [p9_1] at hK9 ⊢
              clear p9_1
              go_simp
              exact hK9 _ (Grow.refl _)
            case s4_3 =>
              intro u9 w9 hT9 hV9 K9 hK9
              have p9_2 := hV9 2 rfl
              clear hV9
              simp only [putAll, Act.put, List.setIfInBounds_toArray, List.set_cons_succ, List.set_cons_zero, List.getD_cons_succ, List.getD_cons_zero, Nat.reduceAdd, Nat.zero_add] at p9_2 hK9 ⊢
              simp only [p9_2] at hK9 ⊢
              clear p9_2
              go_simp
              exact hK9 _ (Grow.refl _)
            case s4_4 =>
              intro u9 w9 hT9 hV9 K9 hK9
              have p9_2 := hV9 2 rfl
              clear hV9
              simp only [putAll, Act.put, List.setIfInBounds_toArray, List.set_cons_succ, List.set_cons_zero, List.getD_cons_succ, List.getD_cons_zero, Nat.reduceAdd, Nat.zero_add] at p9_2 hK9 ⊢
              simp only [p9_2] at hK9 ⊢
              clear p9_2
              go_simp
              exact hK9 _ (Grow.refl _)
            case s4_5 =>
              intro u9 w9 hT9 hV9 K9 hK9
              have p9_2 := hV9 2 rfl
              have p9_3 := hV9 3 rfl
              have p9_4 := hV9 4 rfl
              clear hV9
              simp only [putAll, Act.put, List.setIfInBounds_toArray, List.set_cons_succ, List.set_cons_zero, List.getD_cons_succ, List.getD_cons_zero, Nat.reduceAdd, Nat.zero_add] at p9_2 p9_3 p9_4 hK9 ⊢
              simp only [p9_2, p9_3, p9_4] at hK9 ⊢
              clear p9_2 p9_3 p9_4
              go_simp
              exact hK9 _ (Grow.refl _)
            case s4_6 =>
              intro u9 w9 hT9 hV9 K9 hK9
              have p9_2 := hV9 2 rfl
              have p9_5 := hV9 5 rfl
              clear hV9
              simp only [putAll, Act.put, List.setIfInBounds_toArray, List.set_cons_succ, List.set_cons_zero, List.getD_cons_succ, List.getD_cons_zero, Nat.reduceAdd, Nat.zero_add] at p9_2 p9_5 hK9 ⊢
              simp only [p9_2, p9_5] at hK9 ⊢
              clear p9_2 p9_5
              go_simp
              exact hK9 _ (Grow.refl _)
            case s4_7 =>
              intro u9 w9 hT9 hV9 K9 hK9
              have p9_6 := hV9 6 rfl
              clear hV9
              simp only [putAll, Act.put, List.setIfInBounds_toArray, List.set_cons_succ, List.set_cons_zero, List.getD_cons_succ, List.getD_cons_zero, Nat.reduceAdd, Nat.zero_add] at p9_6 hK9 ⊢
              simp only [p9_6] at hK9 ⊢
              clear p9_6
              go_simp
              exact hK9 _ (Grow.refl _)
            case s4_8 =>
              intro u9 w9 hT9 hV9 K9 hK9
              have p9_7 := hV9 7 rfl
              clear hV9
              simp only [putAll, Act.put, List.setIfInBounds_toArray, List.set_cons_succ, List.set_cons_zero, List.getD_cons_succ, List.getD_cons_zero, Nat.reduceAdd, Nat.zero_add] at p9_7 hK9 ⊢
              simp only [p9_7] at hK9 ⊢
              clear p9_7
              go_simp
              exact hK9 _ (Grow.refl _)
            case s4_9 =>
              intro u9 w9 hT9 hV9 K9 hK9
              have p9_7 := hV9 7 rfl
              clear hV9
              simp only [putAll, Act.put, List.setIfInBounds_toArray, List.set_cons_succ, List.set_cons_zero, List.getD_cons_succ, List.getD_cons_zero, Nat.reduceAdd, Nat.zero_add] at p9_7 hK9 ⊢
              simp only [p9_7] at hK9 ⊢
              clear p9_7
              go_simp
              exact hK9 _ (Grow.refl _)
            case s4_10 =>
              intro u9 w9 hT9 hV9 K9 hK9
              have p9_7 := hV9 7 rfl
              have p9_8 := hV9 8 rfl
              have p9_9 := hV9 9 rfl
              clear hV9
              simp only [putAll, Act.put, List.setIfInBounds_toArray, List.set_cons_succ, List.set_cons_zero, List.getD_cons_succ, List.getD_cons_zero, Nat.reduceAdd, Nat.zero_add] at p9_7 p9_8 p9_9 hK9 ⊢
              simp only [p9_7, p9_8, p9_9] at hK9 ⊢
              clear p9_7 p9_8 p9_9
              go_simp
              exact hK9 _ (Grow.refl _)
            case s4_11 =>
              intro u9 w9 hT9 hV9 K9 hK9
              have p9_7 := hV9 7 rfl
              have p9_10 := hV9 10 rfl
              clear hV9
              simp only [putAll, Act.put, List.setIfInBounds_toArray, List.set_cons_succ, List.set_cons_zero, List.getD_cons_succ, List.getD_cons_zero, Nat.reduceAdd, Nat.zero_add] at p9_7 p9_10 hK9 ⊢
              simp only [p9_7, p9_10] at hK9 ⊢
              clear p9_7 p9_10
              have d9_0 := grow_cell hT9 y0
              have d9_1 := grow_cell hT9 y1
              have d9_2 := grow_cell hT9 y2
              have d9_3 := grow_cell hT9 z0
              have d9_4 := grow_cell hT9 z1
              have d9_5 := grow_cell hT9 z2
              go_simp
              exact hK9 _ (Grow.refl _)
            case s4_12 =>
              intro u9 w9 hT9 hV9 K9 hK9
              have p9_7 := hV9 7 rfl
              clear hV9
              simp only [putAll, Act.put, List.setIfInBounds_toArray, List.set_cons_succ, List.set_cons_zero, List.getD_cons_succ, List.getD_cons_zero, Nat.reduceAdd, Nat.zero_add] at p9_7 hK9 ⊢
              simp only [p9_7] at hK9 ⊢
              clear p9_7
              go_simp
              exact hK9 _ (Grow.refl _)
            case s4_13 =>
              intro u9 w9 hT9 hV9 K9 hK9
              have p9_7 := hV9 7 rfl
              clear hV9
              simp only [putAll, Act.put, List.setIfInBounds_toArray, List.set_cons_succ, List.set_cons_zero, List.getD_cons_succ, List.getD_cons_zero, Nat.reduceAdd, Nat.zero_add] at p9_7 hK9 ⊢
              simp only [p9_7] at hK9 ⊢
              clear p9_7
              go_simp
              exact hK9 _ (Grow.refl _)
            case s4_14 =>
              intro u9 w9 hT9 hV9 K9 hK9
              have p9_7 := hV9 7 rfl
              have p9_12 := hV9 12 rfl
              have p9_13 := hV9 13 rfl
              clear hV9
              simp only [putAll, Act.put, List.setIfInBounds_toArray, List.set_cons_succ, List.set_cons_zero, List.getD_cons_succ, List.getD_cons_zero, Nat.reduceAdd, Nat.zero_add] at p9_7 p9_12 p9_13 hK9 ⊢
              simp only [p9_7, p9_12, p9_13] at hK9 ⊢
              clear p9_7 p9_12 p9_13
              go_simp
              exact hK9 _ (Grow.refl _)
            case s4_15 =>
              intro u9 w9 hT9 hV9 K9 hK9
              have p9_7 := hV9 7 rfl
              have p9_14 := hV9 14 rfl
              clear hV9
              simp only [putAll, Act.put, List.setIfInBounds_toArray, List.set_cons_succ, List.set_cons_zero, List.getD_cons_succ, List.getD_cons_zero, Nat.reduceAdd, Nat.zero_add] at p9_7 p9_14 hK9 ⊢
              simp only [p9_7, p9_14] at hK9 ⊢
              clear p9_7 p9_14
              have d9_0 := grow_cell hT9 y0
              have d9_1 := grow_cell hT9 y1
              have d9_2 := grow_cell hT9 y2
              have d9_3 := grow_cell hT9 z0
              have d9_4 := grow_cell hT9 z1
              have d9_5 := grow_cell hT9 z2
              go_simp
              exact hK9 _ (Grow.refl _)
            case s4_16 =>
              intro u9 w9 hT9 hV9 K9 hK9
              have p9_7 := hV9 7 rfl
              have p9_11 := hV9 11 rfl
              have p9_15 := hV9 15 rfl
              clear hV9
              simp only [putAll, Act.put, List.setIfInBounds_toArray, List.set_cons_succ, List.set_cons_zero, List.getD_cons_succ, List.getD_cons_zero, Nat.reduceAdd, Nat.zero_add] at p9_7 p9_11 p9_15 hK9 ⊢
              simp only [p9_7, p9_11, p9_15] at hK9 ⊢
              clear p9_7 p9_11 p9_15
              go_simp
              first | exact hK9 _ (Grow.refl _) | (refine (HD.out _).mono ?_; rintro _ w8 ⟨rfl, hb8⟩; exact hK9 _ hb8)
            case s4_17 =>
              intro u9 w9 hT9 hV9 K9 hK9
              have p9_7 := hV9 7 rfl
              have p9_16 := hV9 16 rfl
              clear hV9
              simp only [putAll, Act.put, List.setIfInBounds_toArray, List.set_cons_succ, List.set_cons_zero, List.getD_cons_succ, List.getD_cons_zero, Nat.reduceAdd, Nat.zero_add] at p9_7 p9_16 hK9 ⊢
              simp only [p9_7, p9_16] at hK9 ⊢
              clear p9_7 p9_16
              go_simp
              exact hK9 _ (Grow.refl _)
            case s4_18 =>
              intro u9 w9 hT9 hV9 K9 hK9
              have p9_7 := hV9 7 rfl
              have p9_17 := hV9 17 rfl
              clear hV9
              simp only [putAll, Act.put, List.setIfInBounds_toArray, List.set_cons_succ, List.set_cons_zero, List.getD_cons_succ, List.getD_cons_zero, Nat.reduceAdd, Nat.zero_add] at p9_7 p9_17 hK9 ⊢
              simp only [p9_7, p9_17] at hK9 ⊢
              clear p9_7 p9_17
              go_simp
              exact hK9 _ (Grow.refl _)
            intro w9 hb9
            simp only [putAll, Act.put, List.setIfInBounds_toArray, List.set_cons_succ, List.set_cons_zero, List.getD_cons_succ, List.getD_cons_zero, Nat.reduceAdd, Nat.zero_add]
            have hcp9 := below_cell hb9 hcp
            have hrd9 := hrd.below hb9
            have hyp9 : (y : Int) < ps.length := by omega
            clear y0 y1 y2 z0 z1 z2 hcp
            go_wp2
            go_roundg (ps.length + 1 - (k + 1))
            case measure => have := HQ.out; omega
            case rel => exact ⟨k + 1, ps[y], rfl, by omega, rfl, hup, by omega, by omega, hnext, hrd9, hbw.trans (hb9.mono hbw.size)⟩
  · have HN := Lib.hid hno
    clear hno
    go_wp2
    go_ret
    exact ⟨hb, -1, rfl, .inr ⟨HN.out, rfl⟩⟩
end Go.Proofs.Ytgimddboflhpaaa
