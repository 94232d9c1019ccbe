/- The law that heads and labels agree: it returns true and leaves all memory as it was. -/
import Derived.Test.YtgimddboflhpaaaLawsD0
import Derived.Test.YtgimddboflhpaaaPathD
namespace Go.Proofs.Ytgimddboflhpaaa
set_option linter.unusedSimpArgs false
set_option linter.unusedVariables false
set_option linter.unusedSectionVars false
open Go.RowKit Tr

theorem Tall.up {ps : List Int} {a y i t : Nat} (h : it ps i (a : Int) = (y : Int)) (ht : Tall ps y t) (h0 : 0 < t) : Tall ps a (i + t) := by
  refine ⟨fun k hk => ?_, ?_⟩
  · by_cases hki : k ≤ i
    · by_cases hn : it ps k (a : Int) < 0
      · have := it_neg_mono hki hn; omega
      · omega
    · have e : k = (k - i) + i := by omega
      rw [e, it_add, h]
      exact ht.1 (k - i) (by omega)
  · have e : i + t = t + i := by omega
    rw [e, it_add, h]
    exact ht.2
theorem tall_pos {ps : List Int} {y t : Nat} (h : Tall ps y t) : 0 < t := by
  rcases Nat.eq_zero_or_pos t with h0 | h0
  · have := h.2; rw [h0] at this; exact absurd this (by show ¬ ((y : Int) < 0); omega)
  · exact h0
theorem meet_low {ps : List Int} {a b i k : Nat} (h : Meet ps a b i k) : ∃ y : Nat, it ps i (a : Int) = (y : Int) ∧ IsLow ps a b (y : Int) := by
  obtain ⟨h0, h1, h2⟩ := h
  obtain ⟨y, hy⟩ : ∃ y : Nat, it ps i (a : Int) = (y : Int) := ⟨(it ps i (a : Int)).toNat, by omega⟩
  refine ⟨y, hy, .inl ⟨y, rfl, subD_iff.2 ⟨i, hy⟩, subD_iff.2 ⟨k, by rw [← h1]; exact hy⟩, fun z hz hz2 => ?_⟩⟩
  obtain ⟨l, hl⟩ := subD_iff.1 hz
  obtain ⟨l2, hl2⟩ := subD_iff.1 hz2
  by_cases hli : l < i
  · exact absurd (hl.trans hl2.symm) (h2 l l2 hli (by omega))
  · refine subD_iff.2 ⟨l - i, ?_⟩
    rw [← hy, ← it_add]
    have e : l - i + i = l := by omega
    rw [e, hl]
theorem nomeet_low {ps : List Int} {a b : Nat} (h : NoMeet ps a b) : IsLow ps a b (-1) := by
  refine .inr ⟨rfl, fun y hy hy2 => ?_⟩
  obtain ⟨l, hl⟩ := subD_iff.1 hy
  obtain ⟨l2, hl2⟩ := subD_iff.1 hy2
  exact h l l2 (by omega) (hl.trans hl2.symm)
theorem heads_arith {ps : List Int} {ls : List Lab} (F : Facts ps ls) {a b i k : Nat} (ha : a < ps.length) (hb : b < ps.length) (h : Meet ps a b i k) {y : Nat} (hy : it ps i (a : Int) = (y : Int)) :
    y < ps.length ∧ ((i + 1 + k : Nat) : Int) = (labAt ls a).2.2 + (labAt ls b).2.2 - 2 * (labAt ls y).2.2 + 1 ∧ (0 ≤ (labAt ls a).2.2 ∧ (labAt ls a).2.2 ≤ ps.length) ∧ (0 ≤ (labAt ls b).2.2 ∧ (labAt ls b).2.2 ≤ ps.length) ∧ (0 ≤ (labAt ls y).2.2 ∧ (labAt ls y).2.2 ≤ ps.length) := by
  have hyl : y < ps.length := by have := it_lt F.v i (a : Int) (by omega); omega
  obtain ⟨t, ht, htl⟩ := tall_of F.v F.a hyl
  have hy2 : it ps k (b : Int) = (y : Int) := by rw [← h.2.1]; exact hy
  have t0 := tall_pos ht
  have ta := ht.up hy t0
  have tb := ht.up hy2 t0
  have d1 := tall_depth F hyl ht
  have d2 := tall_depth F ha ta
  have d3 := tall_depth F hb tb
  obtain ⟨n1, g1, gl1⟩ := tall_of F.v F.a ha
  obtain ⟨n2, g2, gl2⟩ := tall_of F.v F.a hb
  have e1 := ta.uniq g1
  have e2 := tb.uniq g2
  refine ⟨hyl, ?_, ⟨?_, ?_⟩, ⟨?_, ?_⟩, ⟨?_, ?_⟩⟩ <;> omega

set_option maxRecDepth 100000 in
set_option maxHeartbeats 4000000 in
theorem law_heads (A : Option Addr) (c : Nat) (ps : List Int) (i j : Int) (w : World) (hA : Ints w A ps) (hx : ps.length ≤ maxLen) :
    Calls Try.prog 10 #[.slice A ps.length c, .int .i64 i, .int .i64 j] w (Holds w) := by
  by_cases hrange : ps.length ≤ 40 ∧ 0 ≤ i ∧ i < ps.length ∧ 0 ≤ j ∧ j < ps.length
  · obtain ⟨hn, r1, r2, r3, r4⟩ := hrange
    obtain ⟨i0, hi0⟩ : ∃ i0 : Nat, i = (i0 : Int) := ⟨i.toNat, by omega⟩
    obtain ⟨j0, hj0⟩ : ∃ j0 : Nat, j = (j0 : Int) := ⟨j.toNat, by omega⟩
    subst hi0 hj0
    have hip : i0 < ps.length := by omega
    have hjp : j0 < ps.length := by omega
    have HCk : Hid (∀ w, Ints w A ps → Calls Try.prog 28 #[.slice A ps.length c] w fun e w' => e = .returned (.tuple #[.int .i64 (chk ps).1, .int .i64 (chk ps).2]) ∧ Below w.heap.size w w') := fun w h => dcheck_any A c ps w h hx
    have hx' := Lib.hid hx
    unfold maxLen at hx
    have hr40 : decide ((40 : Int) < ps.length) = false := decide_eq_false (by omega)
    have hr40' : decide (40 < ps.length) = false := decide_eq_false (by omega)
    have q1 : decide ((i0 : Int) < 0) = false := decide_eq_false (by omega)
    have q2 : decide (ps.length ≤ i0) = false := decide_eq_false (by omega)
    have q3 : decide ((j0 : Int) < 0) = false := decide_eq_false (by omega)
    have q4 : decide (ps.length ≤ j0) = false := decide_eq_false (by omega)
    by_cases hc : (chk ps).2 = 0
    · have hc0 : chk ps = (0, 0) := by
        obtain ⟨_, _, _, h1⟩ := chk_zero hc
        exact Prod.ext h1 hc
      obtain ⟨_, hv, ha, _⟩ := chk_zero hc
      have hll := labels_length hv ha
      have hF : Hid (IsF (labels ps) ps) := ⟨hc0, rfl⟩
      have F : Hid (Facts ps (labels ps)) := (facts hF.out).2
      have HLL := Lib.hid hll
      have HCk0 : Hid (∀ w, Ints w A ps → Calls Try.prog 28 #[.slice A ps.length c] w fun e w' => e = .returned (.tuple #[.int .i64 0, .int .i64 0]) ∧ Below w.heap.size w w') := by
        intro w h
        have := HCk.out w h
        rw [hc0] at this
        exact this
      have HA : Hid (Calls Try.prog 11 #[.slice A ps.length c] w (fun e w' => ∃ Ag cg, e = .returned (.tuple #[.slice Ag ps.length cg, .int .i64 0, .int .i64 0]) ∧ Labs w' Ag (labels ps) ∧ Below w.heap.size w w')) := by
        refine (assign_ok A c ps w hA hc0).mono ?_
        rintro e w' ⟨v, rfl, ⟨Ag, cg, rfl, _, _, hrd⟩, hb⟩
        exact ⟨Ag, cg, rfl, hrd, hb⟩
      have HPa : Hid (∀ w, Ints w A ps → Calls Try.prog 29 #[.slice A ps.length c, .int .i64 i0, .int .i64 j0] w (PathPost ps i0 j0 w)) := fun w h => path_ok A c ps i0 j0 w h hx'.out hc0 hip hjp
      have HDe : Hid (∀ w, Ints w A ps → Calls Try.prog 30 #[.slice A ps.length c, .int .i64 i0] w fun e w' => e = .returned (.int .i64 (labAt (labels ps) i0).2.2) ∧ Below w.heap.size w w') := by
        intro w h
        refine (depth_ok A c ps i0 w h hx'.out hc0 hip).mono ?_
        rintro e w' ⟨n, rfl, hn, hb⟩
        exact ⟨by rw [tall_depth F.out hip hn], hb⟩
      clear hc hc0 hv ha hll HCk
      have hr : Hid (InR (labels ps).length i0 j0) := by
        show InR _ _ _
        rw [HLL.out]; exact ⟨⟨r1, r2⟩, r3, r4⟩
      have HCM : Hid (∀ (A : Option Addr) (c : Nat) (w : World), Labs w A (labels ps) → Calls Try.prog 26 #[.slice A ps.length c, .int .i64 i0, .int .i64 j0] w fun e w' => ∃ k, e = .returned (.int .i64 k) ∧ IsLow ps i0 j0 k ∧ Below w.heap.size w w') := by
        intro A c w h
        have := common_any A c (labels ps) i0 j0 w h (by rw [HLL.out]; exact hx'.out)
        rw [HLL.out] at this
        refine this.mono ?_
        rintro e w' ⟨hb, k, rfl, hk⟩
        exact ⟨k, rfl, comP.low hF.out hr.out hk, hb⟩
      go_enter Try.func10, Try.ntmps10
      go_wp2_with fail
      refine HA.out.mono ?_
      rintro e w1 ⟨Ag, cg, rfl, hL, hb1⟩
      go_wp2_with fail
      refine (HCk0.out _ (hA.below hb1)).mono ?_
      rintro e w2 ⟨rfl, hb2⟩
      have hA2 := (hA.below hb1).below hb2
      have hL2 : Labs w2 Ag (labels ps) := hL.below hb2
      go_wp2_with fail
      refine (HPa.out _ hA2).mono ?_
      rintro e w3 ⟨hb3, ⟨k1, k2, Ap, cp, hmeet, rfl⟩ | ⟨hno, rfl⟩⟩
      · obtain ⟨y, hy, hlow⟩ := meet_low hmeet
        obtain ⟨hyl, ar, b1, b2, b3⟩ := heads_arith F.out hip hjp hmeet hy
        clear hmeet hy
        generalize hlen : k1 + 1 + k2 = len at ar
        have HLO := Lib.hid hlow
        clear hlow
        have hL3 : Labs w3 Ag (labels ps) := hL2.below hb3
        have hA3 := hA2.below hb3
        go_wp2_with fail
        refine (HCM.out _ _ _ hL3).mono ?_
        rintro e w4 ⟨z, rfl, hz, hb4⟩
        obtain rfl : z = (y : Int) := hz.uniq F.out hip HLO.out
        clear hz
        have hL4 : Labs w4 Ag (labels ps) := hL3.below hb4
        have hA4 := hA3.below hb4
        have hil : i0 < (labels ps).length := by rw [HLL.out]; exact hip
        have hjl : j0 < (labels ps).length := by rw [HLL.out]; exact hjp
        have hyl2 : y < (labels ps).length := by rw [HLL.out]; exact hyl
        obtain ⟨bl, offl, rfl, m0, m1, m2⟩ := hL4.get hil
        obtain ⟨_, _, e, n0, n1, n2⟩ := hL4.get hjl
        cases e
        obtain ⟨_, _, e, o0, o1, o2⟩ := hL4.get hyl2
        cases e
        rw [labAt_get hil] at m2
        rw [labAt_get hjl] at n2
        rw [labAt_get hyl2] at o2
        clear m0 m1 n0 n1 o0 o1 hil hjl hyl2
        generalize hdi : (labAt (labels ps) i0).2.2 = di at *
        generalize hdj : (labAt (labels ps) j0).2.2 = dj at *
        generalize hdy : (labAt (labels ps) y).2.2 = dy at *
        clear hdi hdj hdy hlen
        have t1 : (di != di) = false := by simp
        have t2 : decide ((0 : Int) ≤ (y : Int)) = true := decide_eq_true (by omega)
        have t3 : decide (ps.length ≤ y) = false := decide_eq_false (by omega)
        have hyI : (y : Int) < ps.length := by omega
        have s1 : IntKind.i64.wrap (di + dj) = di + dj := IntWalk.i64_in _ (by omega)
        have s2 : IntKind.i64.wrap (2 * dy) = 2 * dy := IntWalk.i64_in _ (by omega)
        have s3 : IntKind.i64.wrap (di + dj - 2 * dy) = di + dj - 2 * dy := IntWalk.i64_in _ (by omega)
        have s4 : IntKind.i64.wrap (di + dj - 2 * dy + 1) = di + dj - 2 * dy + 1 := IntWalk.i64_in _ (by omega)
        have s5 : ((len : Int) == di + dj - 2 * dy + 1) = true := by simpa using ar
        clear ar
        go_wp2_with fail
        refine wp_reg_abs (some 71 :: some 72 :: some 73 :: some 74 :: some 75 :: some 76 :: some 77 :: some 78 :: some 79 :: some 80 :: some 81 :: some 82 :: some 83 :: some 84 :: some 85 :: some 86 :: some 87 :: some 88 :: some 89 :: some 90 :: some 91 :: some 92 :: some 93 :: some 94 :: some 95 :: some 96 :: some 97 :: []) (?v1_0 :: ?v1_1 :: ?v1_2 :: ?v1_3 :: ?v1_4 :: ?v1_5 :: ?v1_6 :: ?v1_7 :: ?v1_8 :: ?v1_9 :: ?v1_10 :: ?v1_11 :: ?v1_12 :: ?v1_13 :: ?v1_14 :: ?v1_15 :: ?v1_16 :: ?v1_17 :: ?v1_18 :: ?v1_19 :: ?v1_20 :: ?v1_21 :: ?v1_22 :: ?v1_23 :: ?v1_24 :: ?v1_25 :: ?v1_26 :: []) rfl (by kernel_rfl) rfl rfl ⟨?s1_0, ?s1_1, ?s1_2, ?s1_3, ?s1_4, ?s1_5, ?s1_6, ?s1_7, ?s1_8, ?s1_9, ?s1_10, ?s1_11, ?s1_12, ?s1_13, ?s1_14, ?s1_15, ?s1_16, ?s1_17, ?s1_18, ?s1_19, ?s1_20, ?s1_21, ?s1_22, ?s1_23, ?s1_24, ?s1_25, ?s1_26, trivial⟩ ?p1
        case s1_0 =>
          intro t9 w9 hT9 hV9 hO9 K9 hK9
          have o9_8 := hO9 8 _ (by kernel_rfl) rfl
          clear hV9 hO9
          go_simp
          exact hK9 _ (Grow.refl _)
        case s1_1 =>
          intro t9 w9 hT9 hV9 hO9 K9 hK9
          have p9_0 : t9[71]? = some ?v1_0 := hV9 0 71 rfl rfl (of_decide_eq_true (by kernel_rfl))
          clear hV9 hO9
          go_simp
          exact hK9 _ (Grow.refl _)
        case s1_2 =>
          intro t9 w9 hT9 hV9 hO9 K9 hK9
          have o9_7 := hO9 7 _ (by kernel_rfl) rfl
          clear hV9 hO9
          go_simp
          exact hK9 _ (Grow.refl _)
        case s1_3 =>
          intro t9 w9 hT9 hV9 hO9 K9 hK9
          have p9_1 : t9[72]? = some ?v1_1 := hV9 1 72 rfl rfl (of_decide_eq_true (by kernel_rfl))
          have p9_2 : t9[73]? = some ?v1_2 := hV9 2 73 rfl rfl (of_decide_eq_true (by kernel_rfl))
          clear hV9 hO9
          go_simp
          exact hK9 _ (Grow.refl _)
        case s1_4 =>
          intro t9 w9 hT9 hV9 hO9 K9 hK9
          have p9_3 : t9[74]? = some ?v1_3 := hV9 3 74 rfl rfl (of_decide_eq_true (by kernel_rfl))
          clear hV9 hO9
          go_simp
          exact hK9 _ (Grow.refl _)
        case s1_5 =>
          intro t9 w9 hT9 hV9 hO9 K9 hK9
          have p9_4 : t9[75]? = some ?v1_4 := hV9 4 75 rfl rfl (of_decide_eq_true (by kernel_rfl))
          have o9_8 := hO9 8 _ (by kernel_rfl) rfl
          clear hV9 hO9
          go_simp
          exact hK9 _ (Grow.refl _)
        case s1_6 =>
          intro t9 w9 hT9 hV9 hO9 K9 hK9
          have p9_4 : t9[75]? = some ?v1_4 := hV9 4 75 rfl rfl (of_decide_eq_true (by kernel_rfl))
          have o9_1 := hO9 1 _ (by kernel_rfl) rfl
          clear hV9 hO9
          go_simp
          exact hK9 _ (Grow.refl _)
        case s1_7 =>
          intro t9 w9 hT9 hV9 hO9 K9 hK9
          have p9_4 : t9[75]? = some ?v1_4 := hV9 4 75 rfl rfl (of_decide_eq_true (by kernel_rfl))
          have p9_5 : t9[76]? = some ?v1_5 := hV9 5 76 rfl rfl (of_decide_eq_true (by kernel_rfl))
          have p9_6 : t9[77]? = some ?v1_6 := hV9 6 77 rfl rfl (of_decide_eq_true (by kernel_rfl))
          clear hV9 hO9
          go_simp
          exact hK9 _ (Grow.refl _)
        case s1_8 =>
          intro t9 w9 hT9 hV9 hO9 K9 hK9
          have p9_4 : t9[75]? = some ?v1_4 := hV9 4 75 rfl rfl (of_decide_eq_true (by kernel_rfl))
          have p9_7 : t9[78]? = some ?v1_7 := hV9 7 78 rfl rfl (of_decide_eq_true (by kernel_rfl))
          clear hV9 hO9
          go_simp
          exact hK9 _ (Grow.refl _)
        case s1_9 =>
          intro t9 w9 hT9 hV9 hO9 K9 hK9
          have p9_4 : t9[75]? = some ?v1_4 := hV9 4 75 rfl rfl (of_decide_eq_true (by kernel_rfl))
          have p9_8 : t9[79]? = some ?v1_8 := hV9 8 79 rfl rfl (of_decide_eq_true (by kernel_rfl))
          clear hV9 hO9
          have d9_0 := grow_cell hT9 m2
          have d9_1 := grow_cell hT9 n2
          have d9_2 := grow_cell hT9 o2
          go_simp
          exact hK9 _ (Grow.refl _)
        case s1_10 =>
          intro t9 w9 hT9 hV9 hO9 K9 hK9
          have p9_4 : t9[75]? = some ?v1_4 := hV9 4 75 rfl rfl (of_decide_eq_true (by kernel_rfl))
          have o9_0 := hO9 0 _ (by kernel_rfl) rfl
          clear hV9 hO9
          go_simp
          exact hK9 _ (Grow.refl _)
        case s1_11 =>
          intro t9 w9 hT9 hV9 hO9 K9 hK9
          have p9_4 : t9[75]? = some ?v1_4 := hV9 4 75 rfl rfl (of_decide_eq_true (by kernel_rfl))
          have o9_1 := hO9 1 _ (by kernel_rfl) rfl
          clear hV9 hO9
          go_simp
          exact hK9 _ (Grow.refl _)
        case s1_12 =>
          intro t9 w9 hT9 hV9 hO9 K9 hK9
          have p9_4 : t9[75]? = some ?v1_4 := hV9 4 75 rfl rfl (of_decide_eq_true (by kernel_rfl))
          have p9_10 : t9[81]? = some ?v1_10 := hV9 10 81 rfl rfl (of_decide_eq_true (by kernel_rfl))
          have p9_11 : t9[82]? = some ?v1_11 := hV9 11 82 rfl rfl (of_decide_eq_true (by kernel_rfl))
          clear hV9 hO9
          go_simp
          first | exact hK9 _ (Grow.refl _) | (refine (HDe.out _ (hA4.below hT9.below)).mono ?_; rintro _ w8 ⟨rfl, hb8⟩; exact hK9 _ hb8)
        case s1_13 =>
          intro t9 w9 hT9 hV9 hO9 K9 hK9
          have p9_4 : t9[75]? = some ?v1_4 := hV9 4 75 rfl rfl (of_decide_eq_true (by kernel_rfl))
          have p9_9 : t9[80]? = some ?v1_9 := hV9 9 80 rfl rfl (of_decide_eq_true (by kernel_rfl))
          have p9_12 : t9[83]? = some ?v1_12 := hV9 12 83 rfl rfl (of_decide_eq_true (by kernel_rfl))
          clear hV9 hO9
          go_simp
          exact hK9 _ (Grow.refl _)
        case s1_14 =>
          intro t9 w9 hT9 hV9 hO9 K9 hK9
          have p9_4 : t9[75]? = some ?v1_4 := hV9 4 75 rfl rfl (of_decide_eq_true (by kernel_rfl))
          have p9_13 : t9[84]? = some ?v1_13 := hV9 13 84 rfl rfl (of_decide_eq_true (by kernel_rfl))
          clear hV9 hO9
          go_simp
          exact hK9 _ (Grow.refl _)
        case s1_15 =>
          intro t9 w9 hT9 hV9 hO9 K9 hK9
          have p9_14 : t9[85]? = some ?v1_14 := hV9 14 85 rfl rfl (of_decide_eq_true (by kernel_rfl))
          clear hV9 hO9
          go_simp
          exact hK9 _ (Grow.refl _)
        case s1_16 =>
          intro t9 w9 hT9 hV9 hO9 K9 hK9
          have p9_15 : t9[86]? = some ?v1_15 := hV9 15 86 rfl rfl (of_decide_eq_true (by kernel_rfl))
          have o9_15 := hO9 15 _ (by kernel_rfl) rfl
          clear hV9 hO9
          go_simp
          exact hK9 _ (Grow.refl _)
        case s1_17 =>
          intro t9 w9 hT9 hV9 hO9 K9 hK9
          have p9_15 : t9[86]? = some ?v1_15 := hV9 15 86 rfl rfl (of_decide_eq_true (by kernel_rfl))
          have p9_16 : t9[87]? = some ?v1_16 := hV9 16 87 rfl rfl (of_decide_eq_true (by kernel_rfl))
          clear hV9 hO9
          go_simp
          exact hK9 _ (Grow.refl _)
        case s1_18 =>
          intro t9 w9 hT9 hV9 hO9 K9 hK9
          have p9_15 : t9[86]? = some ?v1_15 := hV9 15 86 rfl rfl (of_decide_eq_true (by kernel_rfl))
          have o9_14 := hO9 14 _ (by kernel_rfl) rfl
          clear hV9 hO9
          go_simp
          exact hK9 _ (Grow.refl _)
        case s1_19 =>
          intro t9 w9 hT9 hV9 hO9 K9 hK9
          have p9_15 : t9[86]? = some ?v1_15 := hV9 15 86 rfl rfl (of_decide_eq_true (by kernel_rfl))
          have p9_18 : t9[89]? = some ?v1_18 := hV9 18 89 rfl rfl (of_decide_eq_true (by kernel_rfl))
          clear hV9 hO9
          go_simp
          exact hK9 _ (Grow.refl _)
        case s1_20 =>
          intro t9 w9 hT9 hV9 hO9 K9 hK9
          have p9_15 : t9[86]? = some ?v1_15 := hV9 15 86 rfl rfl (of_decide_eq_true (by kernel_rfl))
          have p9_17 : t9[88]? = some ?v1_17 := hV9 17 88 rfl rfl (of_decide_eq_true (by kernel_rfl))
          have p9_19 : t9[90]? = some ?v1_19 := hV9 19 90 rfl rfl (of_decide_eq_true (by kernel_rfl))
          clear hV9 hO9
          go_simp
          exact hK9 _ (Grow.refl _)
        case s1_21 =>
          intro t9 w9 hT9 hV9 hO9 K9 hK9
          have p9_15 : t9[86]? = some ?v1_15 := hV9 15 86 rfl rfl (of_decide_eq_true (by kernel_rfl))
          have p9_20 : t9[91]? = some ?v1_20 := hV9 20 91 rfl rfl (of_decide_eq_true (by kernel_rfl))
          clear hV9 hO9
          go_simp
          exact hK9 _ (Grow.refl _)
        case s1_22 =>
          intro t9 w9 hT9 hV9 hO9 K9 hK9
          have p9_21 : t9[92]? = some ?v1_21 := hV9 21 92 rfl rfl (of_decide_eq_true (by kernel_rfl))
          clear hV9 hO9
          go_simp
          exact hK9 _ (Grow.refl _)
        case s1_23 =>
          intro t9 w9 hT9 hV9 hO9 K9 hK9
          have p9_22 : t9[93]? = some ?v1_22 := hV9 22 93 rfl rfl (of_decide_eq_true (by kernel_rfl))
          have o9_15 := hO9 15 _ (by kernel_rfl) rfl
          clear hV9 hO9
          go_simp
          exact hK9 _ (Grow.refl _)
        case s1_24 =>
          intro t9 w9 hT9 hV9 hO9 K9 hK9
          have p9_22 : t9[93]? = some ?v1_22 := hV9 22 93 rfl rfl (of_decide_eq_true (by kernel_rfl))
          have o9_7 := hO9 7 _ (by kernel_rfl) rfl
          clear hV9 hO9
          go_simp
          exact hK9 _ (Grow.refl _)
        case s1_25 =>
          intro t9 w9 hT9 hV9 hO9 K9 hK9
          have p9_22 : t9[93]? = some ?v1_22 := hV9 22 93 rfl rfl (of_decide_eq_true (by kernel_rfl))
          have p9_23 : t9[94]? = some ?v1_23 := hV9 23 94 rfl rfl (of_decide_eq_true (by kernel_rfl))
          have p9_24 : t9[95]? = some ?v1_24 := hV9 24 95 rfl rfl (of_decide_eq_true (by kernel_rfl))
          clear hV9 hO9
          go_simp
          exact hK9 _ (Grow.refl _)
        case s1_26 =>
          intro t9 w9 hT9 hV9 hO9 K9 hK9
          have p9_22 : t9[93]? = some ?v1_22 := hV9 22 93 rfl rfl (of_decide_eq_true (by kernel_rfl))
          have p9_25 : t9[96]? = some ?v1_25 := hV9 25 96 rfl rfl (of_decide_eq_true (by kernel_rfl))
          clear hV9 hO9
          go_simp
          exact hK9 _ (Grow.refl _)
        intro w9 hb9
        simp only [putAll, Act.put, List.setIfInBounds_toArray, List.set_cons_succ, List.set_cons_zero, List.getD_cons_succ, List.getD_cons_zero, Nat.reduceAdd, Nat.zero_add]
        have hb5 := below5 (below5 (below5 (below5 hb1 hb2) hb3) hb4) hb9
        have m2' := below_cell hb9 m2
        have n2' := below_cell hb9 n2
        have o2' := below_cell hb9 o2
        clear hb9 m2 n2 o2
        go_wp2_with fail
        refine wp_reg_abs (some 106 :: some 107 :: some 108 :: some 109 :: some 110 :: some 111 :: some 112 :: some 113 :: some 114 :: some 115 :: some 116 :: some 117 :: some 118 :: some 119 :: some 120 :: some 121 :: some 122 :: some 123 :: some 124 :: some 125 :: some 126 :: some 127 :: some 128 :: some 129 :: some 130 :: some 6 :: []) (?v2_0 :: ?v2_1 :: ?v2_2 :: ?v2_3 :: ?v2_4 :: ?v2_5 :: ?v2_6 :: ?v2_7 :: ?v2_8 :: ?v2_9 :: ?v2_10 :: ?v2_11 :: ?v2_12 :: ?v2_13 :: ?v2_14 :: ?v2_15 :: ?v2_16 :: ?v2_17 :: ?v2_18 :: ?v2_19 :: ?v2_20 :: ?v2_21 :: ?v2_22 :: ?v2_23 :: ?v2_24 :: ?v2_25 :: []) rfl (by kernel_rfl) rfl rfl ⟨?s2_0, ?s2_1, ?s2_2, ?s2_3, ?s2_4, ?s2_5, ?s2_6, ?s2_7, ?s2_8, ?s2_9, ?s2_10, ?s2_11, ?s2_12, ?s2_13, ?s2_14, ?s2_15, ?s2_16, ?s2_17, ?s2_18, ?s2_19, ?s2_20, ?s2_21, ?s2_22, ?s2_23, ?s2_24, ?s2_25, trivial⟩ ?p2
        case s2_0 =>
          intro t9 w9 hT9 hV9 hO9 K9 hK9
          have o9_13 := hO9 13 _ (by kernel_rfl) rfl
          clear hV9 hO9
          go_simp
          exact hK9 _ (Grow.refl _)
        case s2_1 =>
          intro t9 w9 hT9 hV9 hO9 K9 hK9
          have p9_0 : t9[106]? = some ?v2_0 := hV9 0 106 rfl rfl (of_decide_eq_true (by kernel_rfl))
          clear hV9 hO9
          go_simp
          exact hK9 _ (Grow.refl _)
        case s2_2 =>
          intro t9 w9 hT9 hV9 hO9 K9 hK9
          have o9_8 := hO9 8 _ (by kernel_rfl) rfl
          clear hV9 hO9
          go_simp
          exact hK9 _ (Grow.refl _)
        case s2_3 =>
          intro t9 w9 hT9 hV9 hO9 K9 hK9
          have o9_1 := hO9 1 _ (by kernel_rfl) rfl
          clear hV9 hO9
          go_simp
          exact hK9 _ (Grow.refl _)
        case s2_4 =>
          intro t9 w9 hT9 hV9 hO9 K9 hK9
          have p9_2 : t9[108]? = some ?v2_2 := hV9 2 108 rfl rfl (of_decide_eq_true (by kernel_rfl))
          have p9_3 : t9[109]? = some ?v2_3 := hV9 3 109 rfl rfl (of_decide_eq_true (by kernel_rfl))
          clear hV9 hO9
          go_simp
          exact hK9 _ (Grow.refl _)
        case s2_5 =>
          intro t9 w9 hT9 hV9 hO9 K9 hK9
          have p9_4 : t9[110]? = some ?v2_4 := hV9 4 110 rfl rfl (of_decide_eq_true (by kernel_rfl))
          clear hV9 hO9
          go_simp
          exact hK9 _ (Grow.refl _)
        case s2_6 =>
          intro t9 w9 hT9 hV9 hO9 K9 hK9
          have p9_5 : t9[111]? = some ?v2_5 := hV9 5 111 rfl rfl (of_decide_eq_true (by kernel_rfl))
          clear hV9 hO9
          have d9_0 := grow_cell hT9 m2'
          have d9_1 := grow_cell hT9 n2'
          have d9_2 := grow_cell hT9 o2'
          go_simp
          exact hK9 _ (Grow.refl _)
        case s2_7 =>
          intro t9 w9 hT9 hV9 hO9 K9 hK9
          have o9_8 := hO9 8 _ (by kernel_rfl) rfl
          clear hV9 hO9
          go_simp
          exact hK9 _ (Grow.refl _)
        case s2_8 =>
          intro t9 w9 hT9 hV9 hO9 K9 hK9
          have o9_2 := hO9 2 _ (by kernel_rfl) rfl
          clear hV9 hO9
          go_simp
          exact hK9 _ (Grow.refl _)
        case s2_9 =>
          intro t9 w9 hT9 hV9 hO9 K9 hK9
          have p9_7 : t9[113]? = some ?v2_7 := hV9 7 113 rfl rfl (of_decide_eq_true (by kernel_rfl))
          have p9_8 : t9[114]? = some ?v2_8 := hV9 8 114 rfl rfl (of_decide_eq_true (by kernel_rfl))
          clear hV9 hO9
          go_simp
          exact hK9 _ (Grow.refl _)
        case s2_10 =>
          intro t9 w9 hT9 hV9 hO9 K9 hK9
          have p9_9 : t9[115]? = some ?v2_9 := hV9 9 115 rfl rfl (of_decide_eq_true (by kernel_rfl))
          clear hV9 hO9
          go_simp
          exact hK9 _ (Grow.refl _)
        case s2_11 =>
          intro t9 w9 hT9 hV9 hO9 K9 hK9
          have p9_10 : t9[116]? = some ?v2_10 := hV9 10 116 rfl rfl (of_decide_eq_true (by kernel_rfl))
          clear hV9 hO9
          have d9_0 := grow_cell hT9 m2'
          have d9_1 := grow_cell hT9 n2'
          have d9_2 := grow_cell hT9 o2'
          go_simp
          exact hK9 _ (Grow.refl _)
        case s2_12 =>
          intro t9 w9 hT9 hV9 hO9 K9 hK9
          have p9_6 : t9[112]? = some ?v2_6 := hV9 6 112 rfl rfl (of_decide_eq_true (by kernel_rfl))
          have p9_11 : t9[117]? = some ?v2_11 := hV9 11 117 rfl rfl (of_decide_eq_true (by kernel_rfl))
          clear hV9 hO9
          go_simp
          exact hK9 _ (Grow.refl _)
        case s2_13 =>
          intro t9 w9 hT9 hV9 hO9 K9 hK9
          have o9_8 := hO9 8 _ (by kernel_rfl) rfl
          clear hV9 hO9
          go_simp
          exact hK9 _ (Grow.refl _)
        case s2_14 =>
          intro t9 w9 hT9 hV9 hO9 K9 hK9
          have o9_15 := hO9 15 _ (by kernel_rfl) rfl
          clear hV9 hO9
          go_simp
          exact hK9 _ (Grow.refl _)
        case s2_15 =>
          intro t9 w9 hT9 hV9 hO9 K9 hK9
          have p9_13 : t9[119]? = some ?v2_13 := hV9 13 119 rfl rfl (of_decide_eq_true (by kernel_rfl))
          have p9_14 : t9[120]? = some ?v2_14 := hV9 14 120 rfl rfl (of_decide_eq_true (by kernel_rfl))
          clear hV9 hO9
          go_simp
          exact hK9 _ (Grow.refl _)
        case s2_16 =>
          intro t9 w9 hT9 hV9 hO9 K9 hK9
          have p9_15 : t9[121]? = some ?v2_15 := hV9 15 121 rfl rfl (of_decide_eq_true (by kernel_rfl))
          clear hV9 hO9
          go_simp
          exact hK9 _ (Grow.refl _)
        case s2_17 =>
          intro t9 w9 hT9 hV9 hO9 K9 hK9
          have p9_16 : t9[122]? = some ?v2_16 := hV9 16 122 rfl rfl (of_decide_eq_true (by kernel_rfl))
          clear hV9 hO9
          have d9_0 := grow_cell hT9 m2'
          have d9_1 := grow_cell hT9 n2'
          have d9_2 := grow_cell hT9 o2'
          go_simp
          exact hK9 _ (Grow.refl _)
        case s2_18 =>
          intro t9 w9 hT9 hV9 hO9 K9 hK9
          have p9_17 : t9[123]? = some ?v2_17 := hV9 17 123 rfl rfl (of_decide_eq_true (by kernel_rfl))
          clear hV9 hO9
          go_simp
          exact hK9 _ (Grow.refl _)
        case s2_19 =>
          intro t9 w9 hT9 hV9 hO9 K9 hK9
          have p9_12 : t9[118]? = some ?v2_12 := hV9 12 118 rfl rfl (of_decide_eq_true (by kernel_rfl))
          have p9_18 : t9[124]? = some ?v2_18 := hV9 18 124 rfl rfl (of_decide_eq_true (by kernel_rfl))
          clear hV9 hO9
          go_simp
          exact hK9 _ (Grow.refl _)
        case s2_20 =>
          intro t9 w9 hT9 hV9 hO9 K9 hK9
          have p9_19 : t9[125]? = some ?v2_19 := hV9 19 125 rfl rfl (of_decide_eq_true (by kernel_rfl))
          clear hV9 hO9
          go_simp
          exact hK9 _ (Grow.refl _)
        case s2_21 =>
          intro t9 w9 hT9 hV9 hO9 K9 hK9
          have p9_1 : t9[107]? = some ?v2_1 := hV9 1 107 rfl rfl (of_decide_eq_true (by kernel_rfl))
          have p9_20 : t9[126]? = some ?v2_20 := hV9 20 126 rfl rfl (of_decide_eq_true (by kernel_rfl))
          clear hV9 hO9
          go_simp
          exact hK9 _ (Grow.refl _)
        case s2_22 =>
          intro t9 w9 hT9 hV9 hO9 K9 hK9
          have p9_21 : t9[127]? = some ?v2_21 := hV9 21 127 rfl rfl (of_decide_eq_true (by kernel_rfl))
          clear hV9 hO9
          go_simp
          exact hK9 _ (Grow.refl _)
        case s2_23 =>
          intro t9 w9 hT9 hV9 hO9 K9 hK9
          have p9_22 : t9[128]? = some ?v2_22 := hV9 22 128 rfl rfl (of_decide_eq_true (by kernel_rfl))
          clear hV9 hO9
          go_simp
          first | exact hK9 _ (Grow.refl _) | (refine (awake_any _).mono ?_; rintro _ w8 ⟨rfl, hb8⟩; exact hK9 _ hb8)
        case s2_24 =>
          intro t9 w9 hT9 hV9 hO9 K9 hK9
          have p9_22 : t9[128]? = some ?v2_22 := hV9 22 128 rfl rfl (of_decide_eq_true (by kernel_rfl))
          have p9_23 : t9[129]? = some ?v2_23 := hV9 23 129 rfl rfl (of_decide_eq_true (by kernel_rfl))
          clear hV9 hO9
          go_simp
          exact hK9 _ (Grow.refl _)
        case s2_25 =>
          intro t9 w9 hT9 hV9 hO9 K9 hK9
          have p9_24 : t9[130]? = some ?v2_24 := hV9 24 130 rfl rfl (of_decide_eq_true (by kernel_rfl))
          clear hV9 hO9
          go_simp
          exact hK9 _ (Grow.refl _)
        intro w9 hb9
        simp only [putAll, Act.put, List.setIfInBounds_toArray, List.set_cons_succ, List.set_cons_zero, List.getD_cons_succ, List.getD_cons_zero, Nat.reduceAdd, Nat.zero_add]
        go_wp2_with fail
        go_ret
        exact ⟨rfl, below5 hb5 hb9⟩
      · have HLO := Lib.hid (nomeet_low hno)
        clear hno
        have hL3 : Labs w3 Ag (labels ps) := hL2.below hb3
        have hA3 := hA2.below hb3
        go_wp2_with fail
        refine (HCM.out _ _ _ hL3).mono ?_
        rintro e w4 ⟨z, rfl, hz, hb4⟩
        obtain rfl : z = -1 := hz.uniq F.out hip HLO.out
        clear hz
        have hL4 : Labs w4 Ag (labels ps) := hL3.below hb4
        have hA4 := hA3.below hb4
        have hil : i0 < (labels ps).length := by rw [HLL.out]; exact hip
        obtain ⟨bl, offl, rfl, m0, m1, m2⟩ := hL4.get hil
        rw [labAt_get hil] at m2
        clear m0 m1 hil
        generalize hdi : (labAt (labels ps) i0).2.2 = di at *
        clear hdi
        have t1 : (di != di) = false := by simp
        have t3 : decide ((ps.length : Int) ≤ -1) = false := decide_eq_false (by omega)
        go_wp2_with fail
        refine wp_reg_abs (some 71 :: some 72 :: some 73 :: some 74 :: some 75 :: some 76 :: some 77 :: some 78 :: some 79 :: some 80 :: some 81 :: some 82 :: some 83 :: some 84 :: some 85 :: some 86 :: some 87 :: some 88 :: some 89 :: some 90 :: some 91 :: some 92 :: some 93 :: some 94 :: some 95 :: some 96 :: some 97 :: []) (?v3_0 :: ?v3_1 :: ?v3_2 :: ?v3_3 :: ?v3_4 :: ?v3_5 :: ?v3_6 :: ?v3_7 :: ?v3_8 :: ?v3_9 :: ?v3_10 :: ?v3_11 :: ?v3_12 :: ?v3_13 :: ?v3_14 :: ?v3_15 :: ?v3_16 :: ?v3_17 :: ?v3_18 :: ?v3_19 :: ?v3_20 :: ?v3_21 :: ?v3_22 :: ?v3_23 :: ?v3_24 :: ?v3_25 :: ?v3_26 :: []) rfl (by kernel_rfl) rfl rfl ⟨?s3_0, ?s3_1, ?s3_2, ?s3_3, ?s3_4, ?s3_5, ?s3_6, ?s3_7, ?s3_8, ?s3_9, ?s3_10, ?s3_11, ?s3_12, ?s3_13, ?s3_14, ?s3_15, ?s3_16, ?s3_17, ?s3_18, ?s3_19, ?s3_20, ?s3_21, ?s3_22, ?s3_23, ?s3_24, ?s3_25, ?s3_26, trivial⟩ ?p3
        case s3_0 =>
          intro t9 w9 hT9 hV9 hO9 K9 hK9
          have o9_8 := hO9 8 _ (by kernel_rfl) rfl
          clear hV9 hO9
          go_simp
          exact hK9 _ (Grow.refl _)
        case s3_1 =>
          intro t9 w9 hT9 hV9 hO9 K9 hK9
          have p9_0 : t9[71]? = some ?v3_0 := hV9 0 71 rfl rfl (of_decide_eq_true (by kernel_rfl))
          clear hV9 hO9
          go_simp
          exact hK9 _ (Grow.refl _)
        case s3_2 =>
          intro t9 w9 hT9 hV9 hO9 K9 hK9
          have o9_7 := hO9 7 _ (by kernel_rfl) rfl
          clear hV9 hO9
          go_simp
          exact hK9 _ (Grow.refl _)
        case s3_3 =>
          intro t9 w9 hT9 hV9 hO9 K9 hK9
          have p9_1 : t9[72]? = some ?v3_1 := hV9 1 72 rfl rfl (of_decide_eq_true (by kernel_rfl))
          have p9_2 : t9[73]? = some ?v3_2 := hV9 2 73 rfl rfl (of_decide_eq_true (by kernel_rfl))
          clear hV9 hO9
          go_simp
          exact hK9 _ (Grow.refl _)
        case s3_4 =>
          intro t9 w9 hT9 hV9 hO9 K9 hK9
          have p9_3 : t9[74]? = some ?v3_3 := hV9 3 74 rfl rfl (of_decide_eq_true (by kernel_rfl))
          clear hV9 hO9
          go_simp
          exact hK9 _ (Grow.refl _)
        case s3_5 =>
          intro t9 w9 hT9 hV9 hO9 K9 hK9
          have p9_4 : t9[75]? = some ?v3_4 := hV9 4 75 rfl rfl (of_decide_eq_true (by kernel_rfl))
          have o9_8 := hO9 8 _ (by kernel_rfl) rfl
          clear hV9 hO9
          go_simp
          exact hK9 _ (Grow.refl _)
        case s3_6 =>
          intro t9 w9 hT9 hV9 hO9 K9 hK9
          have p9_4 : t9[75]? = some ?v3_4 := hV9 4 75 rfl rfl (of_decide_eq_true (by kernel_rfl))
          have o9_1 := hO9 1 _ (by kernel_rfl) rfl
          clear hV9 hO9
          go_simp
          exact hK9 _ (Grow.refl _)
        case s3_7 =>
          intro t9 w9 hT9 hV9 hO9 K9 hK9
          have p9_4 : t9[75]? = some ?v3_4 := hV9 4 75 rfl rfl (of_decide_eq_true (by kernel_rfl))
          have p9_5 : t9[76]? = some ?v3_5 := hV9 5 76 rfl rfl (of_decide_eq_true (by kernel_rfl))
          have p9_6 : t9[77]? = some ?v3_6 := hV9 6 77 rfl rfl (of_decide_eq_true (by kernel_rfl))
          clear hV9 hO9
          go_simp
          exact hK9 _ (Grow.refl _)
        case s3_8 =>
          intro t9 w9 hT9 hV9 hO9 K9 hK9
          have p9_4 : t9[75]? = some ?v3_4 := hV9 4 75 rfl rfl (of_decide_eq_true (by kernel_rfl))
          have p9_7 : t9[78]? = some ?v3_7 := hV9 7 78 rfl rfl (of_decide_eq_true (by kernel_rfl))
          clear hV9 hO9
          go_simp
          exact hK9 _ (Grow.refl _)
        case s3_9 =>
          intro t9 w9 hT9 hV9 hO9 K9 hK9
          have p9_4 : t9[75]? = some ?v3_4 := hV9 4 75 rfl rfl (of_decide_eq_true (by kernel_rfl))
          have p9_8 : t9[79]? = some ?v3_8 := hV9 8 79 rfl rfl (of_decide_eq_true (by kernel_rfl))
          clear hV9 hO9
          have d9_0 := grow_cell hT9 m2
          go_simp
          exact hK9 _ (Grow.refl _)
        case s3_10 =>
          intro t9 w9 hT9 hV9 hO9 K9 hK9
          have p9_4 : t9[75]? = some ?v3_4 := hV9 4 75 rfl rfl (of_decide_eq_true (by kernel_rfl))
          have o9_0 := hO9 0 _ (by kernel_rfl) rfl
          clear hV9 hO9
          go_simp
          exact hK9 _ (Grow.refl _)
        case s3_11 =>
          intro t9 w9 hT9 hV9 hO9 K9 hK9
          have p9_4 : t9[75]? = some ?v3_4 := hV9 4 75 rfl rfl (of_decide_eq_true (by kernel_rfl))
          have o9_1 := hO9 1 _ (by kernel_rfl) rfl
          clear hV9 hO9
          go_simp
          exact hK9 _ (Grow.refl _)
        case s3_12 =>
          intro t9 w9 hT9 hV9 hO9 K9 hK9
          have p9_4 : t9[75]? = some ?v3_4 := hV9 4 75 rfl rfl (of_decide_eq_true (by kernel_rfl))
          have p9_10 : t9[81]? = some ?v3_10 := hV9 10 81 rfl rfl (of_decide_eq_true (by kernel_rfl))
          have p9_11 : t9[82]? = some ?v3_11 := hV9 11 82 rfl rfl (of_decide_eq_true (by kernel_rfl))
          clear hV9 hO9
          go_simp
          first | exact hK9 _ (Grow.refl _) | (refine (HDe.out _ (hA4.below hT9.below)).mono ?_; rintro _ w8 ⟨rfl, hb8⟩; exact hK9 _ hb8)
        case s3_13 =>
          intro t9 w9 hT9 hV9 hO9 K9 hK9
          have p9_4 : t9[75]? = some ?v3_4 := hV9 4 75 rfl rfl (of_decide_eq_true (by kernel_rfl))
          have p9_9 : t9[80]? = some ?v3_9 := hV9 9 80 rfl rfl (of_decide_eq_true (by kernel_rfl))
          have p9_12 : t9[83]? = some ?v3_12 := hV9 12 83 rfl rfl (of_decide_eq_true (by kernel_rfl))
          clear hV9 hO9
          go_simp
          exact hK9 _ (Grow.refl _)
        case s3_14 =>
          intro t9 w9 hT9 hV9 hO9 K9 hK9
          have p9_4 : t9[75]? = some ?v3_4 := hV9 4 75 rfl rfl (of_decide_eq_true (by kernel_rfl))
          have p9_13 : t9[84]? = some ?v3_13 := hV9 13 84 rfl rfl (of_decide_eq_true (by kernel_rfl))
          clear hV9 hO9
          go_simp
          exact hK9 _ (Grow.refl _)
        case s3_15 =>
          intro t9 w9 hT9 hV9 hO9 K9 hK9
          have p9_14 : t9[85]? = some ?v3_14 := hV9 14 85 rfl rfl (of_decide_eq_true (by kernel_rfl))
          clear hV9 hO9
          go_simp
          exact hK9 _ (Grow.refl _)
        case s3_16 =>
          intro t9 w9 hT9 hV9 hO9 K9 hK9
          have p9_15 : t9[86]? = some ?v3_15 := hV9 15 86 rfl rfl (of_decide_eq_true (by kernel_rfl))
          have o9_15 := hO9 15 _ (by kernel_rfl) rfl
          clear hV9 hO9
          go_simp
          exact hK9 _ (Grow.refl _)
        case s3_17 =>
          intro t9 w9 hT9 hV9 hO9 K9 hK9
          have p9_15 : t9[86]? = some ?v3_15 := hV9 15 86 rfl rfl (of_decide_eq_true (by kernel_rfl))
          have p9_16 : t9[87]? = some ?v3_16 := hV9 16 87 rfl rfl (of_decide_eq_true (by kernel_rfl))
          clear hV9 hO9
          go_simp
          exact hK9 _ (Grow.refl _)
        case s3_18 =>
          intro t9 w9 hT9 hV9 hO9 K9 hK9
          have p9_15 : t9[86]? = some ?v3_15 := hV9 15 86 rfl rfl (of_decide_eq_true (by kernel_rfl))
          have o9_14 := hO9 14 _ (by kernel_rfl) rfl
          clear hV9 hO9
          go_simp
          exact hK9 _ (Grow.refl _)
        case s3_19 =>
          intro t9 w9 hT9 hV9 hO9 K9 hK9
          have p9_15 : t9[86]? = some ?v3_15 := hV9 15 86 rfl rfl (of_decide_eq_true (by kernel_rfl))
          have p9_18 : t9[89]? = some ?v3_18 := hV9 18 89 rfl rfl (of_decide_eq_true (by kernel_rfl))
          clear hV9 hO9
          go_simp
          exact hK9 _ (Grow.refl _)
        case s3_20 =>
          intro t9 w9 hT9 hV9 hO9 K9 hK9
          have p9_15 : t9[86]? = some ?v3_15 := hV9 15 86 rfl rfl (of_decide_eq_true (by kernel_rfl))
          have p9_17 : t9[88]? = some ?v3_17 := hV9 17 88 rfl rfl (of_decide_eq_true (by kernel_rfl))
          have p9_19 : t9[90]? = some ?v3_19 := hV9 19 90 rfl rfl (of_decide_eq_true (by kernel_rfl))
          clear hV9 hO9
          go_simp
          exact hK9 _ (Grow.refl _)
        case s3_21 =>
          intro t9 w9 hT9 hV9 hO9 K9 hK9
          have p9_15 : t9[86]? = some ?v3_15 := hV9 15 86 rfl rfl (of_decide_eq_true (by kernel_rfl))
          have p9_20 : t9[91]? = some ?v3_20 := hV9 20 91 rfl rfl (of_decide_eq_true (by kernel_rfl))
          clear hV9 hO9
          go_simp
          exact hK9 _ (Grow.refl _)
        case s3_22 =>
          intro t9 w9 hT9 hV9 hO9 K9 hK9
          have p9_21 : t9[92]? = some ?v3_21 := hV9 21 92 rfl rfl (of_decide_eq_true (by kernel_rfl))
          clear hV9 hO9
          go_simp
          exact hK9 _ (Grow.refl _)
        case s3_23 =>
          intro t9 w9 hT9 hV9 hO9 K9 hK9
          have p9_22 : t9[93]? = some ?v3_22 := hV9 22 93 rfl rfl (of_decide_eq_true (by kernel_rfl))
          have o9_15 := hO9 15 _ (by kernel_rfl) rfl
          clear hV9 hO9
          go_simp
          exact hK9 _ (Grow.refl _)
        case s3_24 =>
          intro t9 w9 hT9 hV9 hO9 K9 hK9
          have p9_22 : t9[93]? = some ?v3_22 := hV9 22 93 rfl rfl (of_decide_eq_true (by kernel_rfl))
          have o9_7 := hO9 7 _ (by kernel_rfl) rfl
          clear hV9 hO9
          go_simp
          exact hK9 _ (Grow.refl _)
        case s3_25 =>
          intro t9 w9 hT9 hV9 hO9 K9 hK9
          have p9_22 : t9[93]? = some ?v3_22 := hV9 22 93 rfl rfl (of_decide_eq_true (by kernel_rfl))
          have p9_23 : t9[94]? = some ?v3_23 := hV9 23 94 rfl rfl (of_decide_eq_true (by kernel_rfl))
          have p9_24 : t9[95]? = some ?v3_24 := hV9 24 95 rfl rfl (of_decide_eq_true (by kernel_rfl))
          clear hV9 hO9
          go_simp
          exact hK9 _ (Grow.refl _)
        case s3_26 =>
          intro t9 w9 hT9 hV9 hO9 K9 hK9
          have p9_22 : t9[93]? = some ?v3_22 := hV9 22 93 rfl rfl (of_decide_eq_true (by kernel_rfl))
          have p9_25 : t9[96]? = some ?v3_25 := hV9 25 96 rfl rfl (of_decide_eq_true (by kernel_rfl))
          clear hV9 hO9
          go_simp
          exact hK9 _ (Grow.refl _)
        intro w9 hb9
        simp only [putAll, Act.put, List.setIfInBounds_toArray, List.set_cons_succ, List.set_cons_zero, List.getD_cons_succ, List.getD_cons_zero, Nat.reduceAdd, Nat.zero_add]
        have hb5 := below5 (below5 (below5 (below5 hb1 hb2) hb3) hb4) hb9
        clear hb9
        go_wp2_with fail
        refine (awake_any _).mono ?_
        rintro e w5 ⟨rfl, hb6⟩
        go_wp2
        go_ret
        exact ⟨rfl, below5 hb5 hb6⟩
    · have hcb : ((chk ps).2 != 0) = true := by simpa using hc
      have HA : Hid (Calls Try.prog 11 #[.slice A ps.length c] w (fun e w' => e = .returned (.tuple #[.slice none 0 0, .int .i64 (chk ps).1, .int .i64 (chk ps).2]) ∧ Below w.heap.size w w')) := assign_bad A c ps w hA hx'.out hc
      clear hc
      go_enter Try.func10, Try.ntmps10
      go_wp2_with fail
      refine HA.out.mono ?_
      rintro e w1 ⟨rfl, hb1⟩
      go_wp2_with fail
      refine (HCk.out _ (hA.below hb1)).mono ?_
      rintro e w2 ⟨rfl, hb2⟩
      go_wp2_with fail
      refine (awake_any _).mono ?_
      rintro e w3 ⟨rfl, hb3⟩
      go_wp2
      go_ret
      exact ⟨rfl, below5 (below5 hb1 hb2) hb3⟩
  · have hcase : (40 < ps.length) ∨ (¬ 40 < ps.length ∧ i < 0) ∨ (¬ 40 < ps.length ∧ ¬ i < 0 ∧ (ps.length : Int) ≤ i) ∨ (¬ 40 < ps.length ∧ ¬ i < 0 ∧ ¬ (ps.length : Int) ≤ i ∧ j < 0) ∨ (¬ 40 < ps.length ∧ ¬ i < 0 ∧ ¬ (ps.length : Int) ≤ i ∧ ¬ j < 0 ∧ (ps.length : Int) ≤ j) := by omega
    clear hrange
    unfold maxLen at hx
    rcases hcase with h0 | ⟨h0, h1⟩ | ⟨h0, h1, h2⟩ | ⟨h0, h1, h2, h3⟩ | ⟨h0, h1, h2, h3, h4⟩
    all_goals
      go_enter Try.func10, Try.ntmps10
      go_wp2
      go_ret
      exact ⟨rfl, Below.refl _ _⟩
end Go.Proofs.Ytgimddboflhpaaa
