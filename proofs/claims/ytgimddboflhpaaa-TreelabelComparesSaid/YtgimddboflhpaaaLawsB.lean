/- The laws on Parents, on Parents behind Assign, and on the two relations: each returns true and leaves all memory as it was. -/
import Derived.Test.YtgimddboflhpaaaLawsA
namespace Go.Proofs.Ytgimddboflhpaaa
set_option linter.unusedSimpArgs false
set_option linter.unusedVariables false
set_option linter.unusedSectionVars false
open Go.RowKit Tr

theorem below2 {w w1 w2 : World} (h1 : Below w.heap.size w w1) (h2 : Below w1.heap.size w1 w2) : Below w.heap.size w w2 := h1.trans (h2.mono h1.size)

set_option maxHeartbeats 1000000 in
theorem law_parents (A : Option Addr) (c : Nat) (ls : List Lab) (w : World) (hA : Labs w A ls) (hx : ls.length ≤ maxLen) :
    Calls Try.prog 4 #[.slice A ls.length c] w (Holds w) := by
  have hx' := Lib.hid hx
  unfold maxLen at hx
  by_cases hl : 30 < ls.length
  · go_enter Try.func4, Try.ntmps4
    go_wp2
    go_ret
    exact ⟨rfl, Below.refl _ _⟩
  · have hl6 : ls.length ≤ 65536 := by omega
    obtain ⟨kc, hkc, hkk⟩ : ∃ kc : Int, (if 4096 < ls.length then (2 : Int) else 9) = kc ∧ (kc == kc) = true := ⟨_, rfl, by simp⟩
    go_enter Try.func4, Try.ntmps4
    go_wp2_with fail
    refine (parents_any A c ls w hA hx'.out).mono ?_
    rintro e w1 ⟨hb1, h1⟩
    rw [hkc] at h1
    have hA1 := hA.below hb1
    rcases h1 with ⟨ps, v, hF, rfl, hs⟩ | ⟨hno, rfl⟩
    · have hF' := Lib.hid hF
      go_wp2_with fail
      refine (own_any A c ls w1 hA1 hl6).mono ?_
      rintro e w2 ⟨v2, rfl, ⟨A2, c2, rfl, _, _, hL2⟩, hb2⟩
      go_wp2_with fail
      refine (rparents_any A2 c2 ls w2 hL2 hx'.out).mono ?_
      rintro e w3 ⟨hb3, ⟨qs, v3, hG, rfl, hs3⟩ | ⟨hno3, rfl⟩⟩
      · obtain rfl := isF_uniq hF'.out hG
        obtain ⟨A1, c1, rfl, _, _, hr1⟩ := (hs.below hb2).below hb3
        obtain ⟨A3, c3', rfl, _, _, hr3⟩ := hs3
        obtain ⟨hpl, F⟩ := facts hG
        have hpm : ps.length ≤ maxLen := by unfold maxLen; omega
        clear hs F hpl
        go_wp2_with fail
        refine (ints_any A1 A3 c1 c3' ps ps w3 hr1 hr3 hpm hpm).mono ?_
        rintro e w4 ⟨he4, hb4⟩
        have e4 : intsEq ps ps = true := decide_eq_true rfl
        rw [e4] at he4
        subst he4
        go_wp2_with fail
        refine (awake_any _).mono ?_
        rintro e w5 ⟨rfl, hb5⟩
        go_wp2
        go_ret
        exact ⟨rfl, below2 (below2 (below2 (below2 hb1 hb2) hb3) hb4) hb5⟩
      · exact absurd hF'.out (hno3 ps)
    · have hno' := Lib.hid hno
      go_wp2_with fail
      refine (own_any A c ls w1 hA1 hl6).mono ?_
      rintro e w2 ⟨v2, rfl, ⟨A2, c2, rfl, _, _, hL2⟩, hb2⟩
      go_wp2_with fail
      refine (rparents_any A2 c2 ls w2 hL2 hx'.out).mono ?_
      rintro e w3 ⟨hb3, h3⟩
      rw [hkc] at h3
      rcases h3 with ⟨qs, v3, hG, rfl, hs3⟩ | ⟨hno3, rfl⟩
      · exact absurd hG (hno'.out qs)
      · clear hkc
        have hno3' := Lib.hid hno3
        clear hno hno3
        go_wp2_with fail
        refine (ints_any none none 0 0 [] [] w3 (Rd.nil _ _) (Rd.nil _ _) (by simp [maxLen]) (by simp [maxLen])).mono ?_
        rintro e w4 ⟨he4, hb4⟩
        have e4 : intsEq [] [] = true := decide_eq_true rfl
        rw [e4] at he4
        subst he4
        go_wp2_with fail
        refine (awake_any _).mono ?_
        rintro e w5 ⟨rfl, hb5⟩
        go_wp2
        go_ret
        exact ⟨rfl, below2 (below2 (below2 (below2 hb1 hb2) hb3) hb4) hb5⟩

set_option maxHeartbeats 1000000 in
theorem law_back (A : Option Addr) (c : Nat) (ps : List Int) (w : World) (hA : Ints w A ps) (hx : ps.length ≤ maxLen) :
    Calls Try.prog 5 #[.slice A ps.length c] w (Holds w) := by
  have hx' := Lib.hid hx
  unfold maxLen at hx
  by_cases hl : 60 < ps.length
  · go_enter Try.func5, Try.ntmps5
    go_wp2
    go_ret
    exact ⟨rfl, Below.refl _ _⟩
  · by_cases hc : (chk ps).2 = 0
    · have hc0 : chk ps = (0, 0) := by
        obtain ⟨_, _, _, h1⟩ := chk_zero hc
        exact Prod.ext h1 hc
      obtain ⟨_, hv, ha, _⟩ := chk_zero hc
      have hll := labels_length hv ha
      have hF : Hid (IsF (labels ps) ps) := ⟨hc0, rfl⟩
      have hcall : Hid (∀ (A : Option Addr) (c : Nat) (w : World), Labs w A (labels ps) → Calls Try.prog 15 #[.slice A ps.length c] w (fun e w' => ∃ Ap cp, e = .returned (.tuple #[.slice Ap ps.length cp, .int .i64 0]) ∧ Ints w' Ap ps ∧ Below w.heap.size w w')) := by
        intro A c w h
        have := parents_any A c (labels ps) w h (by rw [hll]; exact hx'.out)
        rw [hll] at this
        refine this.mono ?_
        rintro e w' ⟨hb, ⟨qs, v, hG, rfl, ⟨Ap, cp, rfl, _, _, hr⟩⟩ | ⟨hno, _⟩⟩
        · obtain rfl := isF_uniq hF.out hG
          exact ⟨Ap, cp, rfl, hr, hb⟩
        · exact absurd hF.out (hno ps)
      have HA : Hid (Calls Try.prog 11 #[.slice A ps.length c] w (fun e w' => ∃ Ag cg, e = .returned (.tuple #[.slice Ag ps.length cg, .int .i64 0, .int .i64 0]) ∧ Labs w' Ag (labels ps) ∧ Below w.heap.size w w')) := by
        refine (assign_ok A c ps w hA hc0).mono ?_
        rintro e w' ⟨v, rfl, ⟨Ag, cg, rfl, _, _, hrd⟩, hb⟩
        exact ⟨Ag, cg, rfl, hrd, hb⟩
      clear hc hc0 hll hv ha
      go_enter Try.func5, Try.ntmps5
      go_wp2_with fail
      refine HA.out.mono ?_
      rintro e w1 ⟨Ag, cg, rfl, hL, hb1⟩
      go_wp2_with fail
      refine (hcall.out _ _ _ hL).mono ?_
      rintro e w2 ⟨Ap, cp, rfl, hI, hb2⟩
      go_wp2_with fail
      refine (ints_any Ap A cp c ps ps w2 hI ((hA.below hb1).below hb2) hx'.out hx'.out).mono ?_
      rintro e w4 ⟨he4, hb4⟩
      have e4 : intsEq ps ps = true := decide_eq_true rfl
      rw [e4] at he4
      subst he4
      go_wp2_with fail
      refine (awake_any _).mono ?_
      rintro e w5 ⟨rfl, hb5⟩
      go_wp2
      go_ret
      exact ⟨rfl, below2 (below2 (below2 hb1 hb2) hb4) hb5⟩
    · have hcb : ((chk ps).2 != 0) = true := by simpa using hc
      have HA : Hid (Calls Try.prog 11 #[.slice A ps.length c] w (fun e w' => e = .returned (.tuple #[.slice none 0 0, .int .i64 (chk ps).1, .int .i64 (chk ps).2]) ∧ Below w.heap.size w w')) := assign_bad A c ps w hA hx'.out hc
      clear hc
      go_enter Try.func5, Try.ntmps5
      go_wp2_with fail
      refine HA.out.mono ?_
      rintro e w1 ⟨rfl, hb1⟩
      go_wp2_with fail
      refine (awake_any _).mono ?_
      rintro e w5 ⟨rfl, hb5⟩
      go_wp2
      go_ret
      exact ⟨rfl, below2 hb1 hb5⟩

theorem own4_0 (w : World) (t : TypeId) (cs : List Value) (o1 o2 o3 : Obj) : Own (((((w.alloc (.cells cs.toArray t)).alloc o1).alloc o2).alloc o3).drew) w.heap.size t cs := (((Own.new w t cs).alloc o1).alloc o2).alloc o3
theorem own4_1 (w : World) (t : TypeId) (cs : List Value) (o0 o2 o3 : Obj) : Own (((((w.alloc o0).alloc (.cells cs.toArray t)).alloc o2).alloc o3).drew) (w.heap.size + 1) t cs := by
  have := Own.new (w.alloc o0) t cs
  rw [size1] at this
  exact (this.alloc o2).alloc o3
theorem own4_2 (w : World) (t : TypeId) (cs : List Value) (o0 o1 o3 : Obj) : Own (((((w.alloc o0).alloc o1).alloc (.cells cs.toArray t)).alloc o3).drew) (w.heap.size + 1 + 1) t cs := by
  have := Own.new ((w.alloc o0).alloc o1) t cs
  rw [size1, size1] at this
  exact this.alloc o3
theorem own4_3 (w : World) (t : TypeId) (cs : List Value) (o0 o1 o2 : Obj) : Own (((((w.alloc o0).alloc o1).alloc o2).alloc (.cells cs.toArray t)).drew) (w.heap.size + 1 + 1 + 1) t cs := by
  have := Own.new (((w.alloc o0).alloc o1).alloc o2) t cs
  rw [size1, size1, size1] at this
  exact this
theorem below_4 (w : World) (o0 o1 o2 o3 : Obj) : Below w.heap.size w (((((w.alloc o0).alloc o1).alloc o2).alloc o3).drew) :=
  (((((Below.refl _ _).alloc (Nat.le_refl _) o0).alloc (by rw [size1]; omega) o1).alloc (by rw [size1, size1]; omega) o2).alloc (by rw [size1, size1, size1]; omega) o3).drew

set_option maxRecDepth 100000 in
set_option maxHeartbeats 2000000 in
theorem law_compares (x y : Lab) (w : World) : Calls Try.prog 7 #[.agg #[.int .i64 x.1, .int .i64 x.2.1, .int .i64 x.2.2], .agg #[.int .i64 y.1, .int .i64 y.2.1, .int .i64 y.2.2]] w (Holds w) := by
  obtain ⟨d, hd⟩ : ∃ d, Dom x y = d := ⟨_, rfl⟩
  obtain ⟨p, hp⟩ : ∃ p, Prec x y = p := ⟨_, rfl⟩
  have H1 : Hid (∀ w, Calls Try.prog 20 #[.agg #[.int .i64 x.1, .int .i64 x.2.1, .int .i64 x.2.2], .agg #[.int .i64 y.1, .int .i64 y.2.1, .int .i64 y.2.2]] w fun e w' => e = .returned (.bool d) ∧ Below w.heap.size w w') := by
    intro w; have := dominates_any x y w; rw [hd] at this; exact this
  have H2 : Hid (∀ w, Calls Try.prog 22 #[.agg #[.int .i64 x.1, .int .i64 x.2.1, .int .i64 x.2.2], .agg #[.int .i64 y.1, .int .i64 y.2.1, .int .i64 y.2.2]] w fun e w' => e = .returned (.bool d) ∧ Below w.heap.size w w') := by
    intro w; have := rdominates_any x y w; rw [hd] at this; exact this
  have H3 : Hid (∀ w, Calls Try.prog 21 #[.agg #[.int .i64 x.1, .int .i64 x.2.1, .int .i64 x.2.2], .agg #[.int .i64 y.1, .int .i64 y.2.1, .int .i64 y.2.2]] w fun e w' => e = .returned (.bool p) ∧ Below w.heap.size w w') := by
    intro w; have := precedes_any x y w; rw [hp] at this; exact this
  have H4 : Hid (∀ w, Calls Try.prog 23 #[.agg #[.int .i64 x.1, .int .i64 x.2.1, .int .i64 x.2.2], .agg #[.int .i64 y.1, .int .i64 y.2.1, .int .i64 y.2.2]] w fun e w' => e = .returned (.bool p) ∧ Below w.heap.size w w') := by
    intro w; have := rprecedes_any x y w; rw [hp] at this; exact this
  clear hd hp
  obtain ⟨x0, x1, x2⟩ := x
  obtain ⟨y0, y1, y2⟩ := y
  dsimp only at H1 H2 H3 H4 ⊢
  go_enter Try.func7, Try.ntmps7
  go_upto_region 1 with (fail)
  go_cut [5, 6] (fun s5 s6 wx => ∃ g h, s5 = .pointer (some ⟨g, 0, none⟩) ∧ s6 = .pointer (some ⟨h, 0, none⟩) ∧ Own wx g 43 (c3 (x0, x1, x2)) ∧ Own wx h 43 (c3 (y0, y1, y2)) ∧ Own wx w.heap.size 41 (c3 (x0, x1, x2)) ∧ Own wx (w.heap.size + 1) 41 (c3 (y0, y1, y2)) ∧ Below w.heap.size w wx)
  case first =>
    go_region
    all_goals (go_wp2_with fail; go_meet)
    · exact ⟨_, _, rfl, rfl, own4_2 _ _ _ _ _ _, own4_3 _ _ _ _ _ _, own4_0 _ _ _ _ _ _, own4_1 _ _ _ _ _ _, below_4 _ _ _ _ _⟩
    · exact ⟨_, _, rfl, rfl, own4_3 _ _ _ _ _ _, own4_2 _ _ _ _ _ _, own4_0 _ _ _ _ _ _, own4_1 _ _ _ _ _ _, below_4 _ _ _ _ _⟩
  case rest =>
    obtain ⟨g, h, rfl, rfl, o1, o2, o3, o4, hb⟩ := hcut
    have a0 : wc.cell? ⟨g, 0, none⟩ = some (.int .i64 x0) := by rw [o1.cell]; rfl
    have a1 : wc.cell? ⟨g, 1, none⟩ = some (.int .i64 x1) := by rw [o1.cell]; rfl
    have a2 : wc.cell? ⟨g, 2, none⟩ = some (.int .i64 x2) := by rw [o1.cell]; rfl
    have b0 : wc.cell? ⟨h, 0, none⟩ = some (.int .i64 y0) := by rw [o2.cell]; rfl
    have b1 : wc.cell? ⟨h, 1, none⟩ = some (.int .i64 y1) := by rw [o2.cell]; rfl
    have b2 : wc.cell? ⟨h, 2, none⟩ = some (.int .i64 y2) := by rw [o2.cell]; rfl
    have c0 : wc.cell? ⟨w.heap.size, 0, none⟩ = some (.int .i64 x0) := by rw [o3.cell]; rfl
    have c1 : wc.cell? ⟨w.heap.size, 1, none⟩ = some (.int .i64 x1) := by rw [o3.cell]; rfl
    have c2 : wc.cell? ⟨w.heap.size, 2, none⟩ = some (.int .i64 x2) := by rw [o3.cell]; rfl
    have d0 : wc.cell? ⟨w.heap.size + 1, 0, none⟩ = some (.int .i64 y0) := by rw [o4.cell]; rfl
    have d1 : wc.cell? ⟨w.heap.size + 1, 1, none⟩ = some (.int .i64 y1) := by rw [o4.cell]; rfl
    have d2 : wc.cell? ⟨w.heap.size + 1, 2, none⟩ = some (.int .i64 y2) := by rw [o4.cell]; rfl
    go_wp2
    refine wp_reg_vals [some 9, some 10, some 11, some 12, some 13, some 14, some 15, some 16, some 17, some 18, some 19, some 20, some 21, some 22, some 23, some 24, some 25, some 26, some 27, some 4] [?v1_0, ?v1_1, ?v1_2, ?v1_3, ?v1_4, ?v1_5, ?v1_6, ?v1_7, ?v1_8, ?v1_9, ?v1_10, ?v1_11, ?v1_12, ?v1_13, ?v1_14, ?v1_15, ?v1_16, ?v1_17, ?v1_18, ?v1_19] rfl (by kernel_rfl) rfl rfl ⟨?s1_0, ?s1_1, ?s1_2, ?s1_3, ?s1_4, ?s1_5, ?s1_6, ?s1_7, ?s1_8, ?s1_9, ?s1_10, ?s1_11, ?s1_12, ?s1_13, ?s1_14, ?s1_15, ?s1_16, ?s1_17, ?s1_18, ?s1_19, trivial⟩ ?p1
    case s1_0 =>
      intro u9 w9 hT9 hV9 K9 hK9
      clear hV9
      simp only [putAll, Act.put, List.setIfInBounds_toArray, List.set_cons_succ, List.set_cons_zero, List.getD_cons_succ, List.getD_cons_zero, Nat.reduceAdd, Nat.zero_add] at hK9 ⊢
      have d9_0 := grow_cell hT9 a0
      have d9_1 := grow_cell hT9 a1
      have d9_2 := grow_cell hT9 a2
      have d9_3 := grow_cell hT9 b0
      have d9_4 := grow_cell hT9 b1
      have d9_5 := grow_cell hT9 b2
      have d9_6 := grow_cell hT9 c0
      have d9_7 := grow_cell hT9 c1
      have d9_8 := grow_cell hT9 c2
      have d9_9 := grow_cell hT9 d0
      have d9_10 := grow_cell hT9 d1
      have d9_11 := grow_cell hT9 d2
      go_simp
      exact hK9 _ (Grow.refl _)
    case s1_1 =>
      intro u9 w9 hT9 hV9 K9 hK9
      clear hV9
      simp only [putAll, Act.put, List.setIfInBounds_toArray, List.set_cons_succ, List.set_cons_zero, List.getD_cons_succ, List.getD_cons_zero, Nat.reduceAdd, Nat.zero_add] at hK9 ⊢
      have d9_0 := grow_cell hT9 a0
      have d9_1 := grow_cell hT9 a1
      have d9_2 := grow_cell hT9 a2
      have d9_3 := grow_cell hT9 b0
      have d9_4 := grow_cell hT9 b1
      have d9_5 := grow_cell hT9 b2
      have d9_6 := grow_cell hT9 c0
      have d9_7 := grow_cell hT9 c1
      have d9_8 := grow_cell hT9 c2
      have d9_9 := grow_cell hT9 d0
      have d9_10 := grow_cell hT9 d1
      have d9_11 := grow_cell hT9 d2
      go_simp
      exact hK9 _ (Grow.refl _)
    case s1_2 =>
      intro u9 w9 hT9 hV9 K9 hK9
      have p9_0 := hV9 0 rfl
      have p9_1 := hV9 1 rfl
      clear hV9
      simp only [putAll, Act.put, List.setIfInBounds_toArray, List.set_cons_succ, List.set_cons_zero, List.getD_cons_succ, List.getD_cons_zero, Nat.reduceAdd, Nat.zero_add] at p9_0 p9_1 hK9 ⊢
      simp only [p9_0, p9_1] at hK9 ⊢
      clear p9_0 p9_1
      go_simp
      first | exact hK9 _ (Grow.refl _) | (refine (H1.out _).mono ?_; rintro _ w8 ⟨rfl, hb8⟩; exact hK9 _ hb8)
    case s1_3 =>
      intro u9 w9 hT9 hV9 K9 hK9
      clear hV9
      simp only [putAll, Act.put, List.setIfInBounds_toArray, List.set_cons_succ, List.set_cons_zero, List.getD_cons_succ, List.getD_cons_zero, Nat.reduceAdd, Nat.zero_add] at hK9 ⊢
      have d9_0 := grow_cell hT9 a0
      have d9_1 := grow_cell hT9 a1
      have d9_2 := grow_cell hT9 a2
      have d9_3 := grow_cell hT9 b0
      have d9_4 := grow_cell hT9 b1
      have d9_5 := grow_cell hT9 b2
      have d9_6 := grow_cell hT9 c0
      have d9_7 := grow_cell hT9 c1
      have d9_8 := grow_cell hT9 c2
      have d9_9 := grow_cell hT9 d0
      have d9_10 := grow_cell hT9 d1
      have d9_11 := grow_cell hT9 d2
      go_simp
      exact hK9 _ (Grow.refl _)
    case s1_4 =>
      intro u9 w9 hT9 hV9 K9 hK9
      clear hV9
      simp only [putAll, Act.put, List.setIfInBounds_toArray, List.set_cons_succ, List.set_cons_zero, List.getD_cons_succ, List.getD_cons_zero, Nat.reduceAdd, Nat.zero_add] at hK9 ⊢
      have d9_0 := grow_cell hT9 a0
      have d9_1 := grow_cell hT9 a1
      have d9_2 := grow_cell hT9 a2
      have d9_3 := grow_cell hT9 b0
      have d9_4 := grow_cell hT9 b1
      have d9_5 := grow_cell hT9 b2
      have d9_6 := grow_cell hT9 c0
      have d9_7 := grow_cell hT9 c1
      have d9_8 := grow_cell hT9 c2
      have d9_9 := grow_cell hT9 d0
      have d9_10 := grow_cell hT9 d1
      have d9_11 := grow_cell hT9 d2
      go_simp
      exact hK9 _ (Grow.refl _)
    case s1_5 =>
      intro u9 w9 hT9 hV9 K9 hK9
      have p9_3 := hV9 3 rfl
      have p9_4 := hV9 4 rfl
      clear hV9
      simp only [putAll, Act.put, List.setIfInBounds_toArray, List.set_cons_succ, List.set_cons_zero, List.getD_cons_succ, List.getD_cons_zero, Nat.reduceAdd, Nat.zero_add] at p9_3 p9_4 hK9 ⊢
      simp only [p9_3, p9_4] at hK9 ⊢
      clear p9_3 p9_4
      go_simp
      first | exact hK9 _ (Grow.refl _) | (refine (H2.out _).mono ?_; rintro _ w8 ⟨rfl, hb8⟩; exact hK9 _ hb8)
    case s1_6 =>
      intro u9 w9 hT9 hV9 K9 hK9
      have p9_2 := hV9 2 rfl
      have p9_5 := hV9 5 rfl
      clear hV9
      simp only [putAll, Act.put, List.setIfInBounds_toArray, List.set_cons_succ, List.set_cons_zero, List.getD_cons_succ, List.getD_cons_zero, Nat.reduceAdd, Nat.zero_add] at p9_2 p9_5 hK9 ⊢
      simp only [p9_2, p9_5] at hK9 ⊢
      clear p9_2 p9_5
      go_simp
      exact hK9 _ (Grow.refl _)
    case s1_7 =>
      intro u9 w9 hT9 hV9 K9 hK9
      have p9_6 := hV9 6 rfl
      clear hV9
      simp only [putAll, Act.put, List.setIfInBounds_toArray, List.set_cons_succ, List.set_cons_zero, List.getD_cons_succ, List.getD_cons_zero, Nat.reduceAdd, Nat.zero_add] at p9_6 hK9 ⊢
      simp only [p9_6] at hK9 ⊢
      clear p9_6
      go_simp
      exact hK9 _ (Grow.refl _)
    case s1_8 =>
      intro u9 w9 hT9 hV9 K9 hK9
      have p9_7 := hV9 7 rfl
      clear hV9
      simp only [putAll, Act.put, List.setIfInBounds_toArray, List.set_cons_succ, List.set_cons_zero, List.getD_cons_succ, List.getD_cons_zero, Nat.reduceAdd, Nat.zero_add] at p9_7 hK9 ⊢
      simp only [p9_7] at hK9 ⊢
      clear p9_7
      have d9_0 := grow_cell hT9 a0
      have d9_1 := grow_cell hT9 a1
      have d9_2 := grow_cell hT9 a2
      have d9_3 := grow_cell hT9 b0
      have d9_4 := grow_cell hT9 b1
      have d9_5 := grow_cell hT9 b2
      have d9_6 := grow_cell hT9 c0
      have d9_7 := grow_cell hT9 c1
      have d9_8 := grow_cell hT9 c2
      have d9_9 := grow_cell hT9 d0
      have d9_10 := grow_cell hT9 d1
      have d9_11 := grow_cell hT9 d2
      go_simp
      exact hK9 _ (Grow.refl _)
    case s1_9 =>
      intro u9 w9 hT9 hV9 K9 hK9
      have p9_7 := hV9 7 rfl
      clear hV9
      simp only [putAll, Act.put, List.setIfInBounds_toArray, List.set_cons_succ, List.set_cons_zero, List.getD_cons_succ, List.getD_cons_zero, Nat.reduceAdd, Nat.zero_add] at p9_7 hK9 ⊢
      simp only [p9_7] at hK9 ⊢
      clear p9_7
      have d9_0 := grow_cell hT9 a0
      have d9_1 := grow_cell hT9 a1
      have d9_2 := grow_cell hT9 a2
      have d9_3 := grow_cell hT9 b0
      have d9_4 := grow_cell hT9 b1
      have d9_5 := grow_cell hT9 b2
      have d9_6 := grow_cell hT9 c0
      have d9_7 := grow_cell hT9 c1
      have d9_8 := grow_cell hT9 c2
      have d9_9 := grow_cell hT9 d0
      have d9_10 := grow_cell hT9 d1
      have d9_11 := grow_cell hT9 d2
      go_simp
      exact hK9 _ (Grow.refl _)
    case s1_10 =>
      intro u9 w9 hT9 hV9 K9 hK9
      have p9_7 := hV9 7 rfl
      have p9_8 := hV9 8 rfl
      have p9_9 := hV9 9 rfl
      clear hV9
      simp only [putAll, Act.put, List.setIfInBounds_toArray, List.set_cons_succ, List.set_cons_zero, List.getD_cons_succ, List.getD_cons_zero, Nat.reduceAdd, Nat.zero_add] at p9_7 p9_8 p9_9 hK9 ⊢
      simp only [p9_7, p9_8, p9_9] at hK9 ⊢
      clear p9_7 p9_8 p9_9
      go_simp
      first | exact hK9 _ (Grow.refl _) | (refine (H3.out _).mono ?_; rintro _ w8 ⟨rfl, hb8⟩; exact hK9 _ hb8)
    case s1_11 =>
      intro u9 w9 hT9 hV9 K9 hK9
      have p9_7 := hV9 7 rfl
      clear hV9
      simp only [putAll, Act.put, List.setIfInBounds_toArray, List.set_cons_succ, List.set_cons_zero, List.getD_cons_succ, List.getD_cons_zero, Nat.reduceAdd, Nat.zero_add] at p9_7 hK9 ⊢
      simp only [p9_7] at hK9 ⊢
      clear p9_7
      have d9_0 := grow_cell hT9 a0
      have d9_1 := grow_cell hT9 a1
      have d9_2 := grow_cell hT9 a2
      have d9_3 := grow_cell hT9 b0
      have d9_4 := grow_cell hT9 b1
      have d9_5 := grow_cell hT9 b2
      have d9_6 := grow_cell hT9 c0
      have d9_7 := grow_cell hT9 c1
      have d9_8 := grow_cell hT9 c2
      have d9_9 := grow_cell hT9 d0
      have d9_10 := grow_cell hT9 d1
      have d9_11 := grow_cell hT9 d2
      go_simp
      exact hK9 _ (Grow.refl _)
    case s1_12 =>
      intro u9 w9 hT9 hV9 K9 hK9
      have p9_7 := hV9 7 rfl
      clear hV9
      simp only [putAll, Act.put, List.setIfInBounds_toArray, List.set_cons_succ, List.set_cons_zero, List.getD_cons_succ, List.getD_cons_zero, Nat.reduceAdd, Nat.zero_add] at p9_7 hK9 ⊢
      simp only [p9_7] at hK9 ⊢
      clear p9_7
      have d9_0 := grow_cell hT9 a0
      have d9_1 := grow_cell hT9 a1
      have d9_2 := grow_cell hT9 a2
      have d9_3 := grow_cell hT9 b0
      have d9_4 := grow_cell hT9 b1
      have d9_5 := grow_cell hT9 b2
      have d9_6 := grow_cell hT9 c0
      have d9_7 := grow_cell hT9 c1
      have d9_8 := grow_cell hT9 c2
      have d9_9 := grow_cell hT9 d0
      have d9_10 := grow_cell hT9 d1
      have d9_11 := grow_cell hT9 d2
      go_simp
      exact hK9 _ (Grow.refl _)
    case s1_13 =>
      intro u9 w9 hT9 hV9 K9 hK9
      have p9_7 := hV9 7 rfl
      have p9_11 := hV9 11 rfl
      have p9_12 := hV9 12 rfl
      clear hV9
      simp only [putAll, Act.put, List.setIfInBounds_toArray, List.set_cons_succ, List.set_cons_zero, List.getD_cons_succ, List.getD_cons_zero, Nat.reduceAdd, Nat.zero_add] at p9_7 p9_11 p9_12 hK9 ⊢
      simp only [p9_7, p9_11, p9_12] at hK9 ⊢
      clear p9_7 p9_11 p9_12
      go_simp
      first | exact hK9 _ (Grow.refl _) | (refine (H4.out _).mono ?_; rintro _ w8 ⟨rfl, hb8⟩; exact hK9 _ hb8)
    case s1_14 =>
      intro u9 w9 hT9 hV9 K9 hK9
      have p9_7 := hV9 7 rfl
      have p9_10 := hV9 10 rfl
      have p9_13 := hV9 13 rfl
      clear hV9
      simp only [putAll, Act.put, List.setIfInBounds_toArray, List.set_cons_succ, List.set_cons_zero, List.getD_cons_succ, List.getD_cons_zero, Nat.reduceAdd, Nat.zero_add] at p9_7 p9_10 p9_13 hK9 ⊢
      simp only [p9_7, p9_10, p9_13] at hK9 ⊢
      clear p9_7 p9_10 p9_13
      go_simp
      exact hK9 _ (Grow.refl _)
    case s1_15 =>
      intro u9 w9 hT9 hV9 K9 hK9
      have p9_7 := hV9 7 rfl
      have p9_14 := hV9 14 rfl
      clear hV9
      simp only [putAll, Act.put, List.setIfInBounds_toArray, List.set_cons_succ, List.set_cons_zero, List.getD_cons_succ, List.getD_cons_zero, Nat.reduceAdd, Nat.zero_add] at p9_7 p9_14 hK9 ⊢
      simp only [p9_7, p9_14] at hK9 ⊢
      clear p9_7 p9_14
      go_simp
      exact hK9 _ (Grow.refl _)
    case s1_16 =>
      intro u9 w9 hT9 hV9 K9 hK9
      have p9_15 := hV9 15 rfl
      clear hV9
      simp only [putAll, Act.put, List.setIfInBounds_toArray, List.set_cons_succ, List.set_cons_zero, List.getD_cons_succ, List.getD_cons_zero, Nat.reduceAdd, Nat.zero_add] at p9_15 hK9 ⊢
      simp only [p9_15] at hK9 ⊢
      clear p9_15
      go_simp
      exact hK9 _ (Grow.refl _)
    case s1_17 =>
      intro u9 w9 hT9 hV9 K9 hK9
      have p9_16 := hV9 16 rfl
      clear hV9
      simp only [putAll, Act.put, List.setIfInBounds_toArray, List.set_cons_succ, List.set_cons_zero, List.getD_cons_succ, List.getD_cons_zero, Nat.reduceAdd, Nat.zero_add] at p9_16 hK9 ⊢
      simp only [p9_16] at hK9 ⊢
      clear p9_16
      go_simp
      first | exact hK9 _ (Grow.refl _) | (refine (awake_any _).mono ?_; rintro _ w8 ⟨rfl, hb8⟩; exact hK9 _ hb8)
    case s1_18 =>
      intro u9 w9 hT9 hV9 K9 hK9
      have p9_16 := hV9 16 rfl
      have p9_17 := hV9 17 rfl
      clear hV9
      simp only [putAll, Act.put, List.setIfInBounds_toArray, List.set_cons_succ, List.set_cons_zero, List.getD_cons_succ, List.getD_cons_zero, Nat.reduceAdd, Nat.zero_add] at p9_16 p9_17 hK9 ⊢
      simp only [p9_16, p9_17] at hK9 ⊢
      clear p9_16 p9_17
      go_simp
      exact hK9 _ (Grow.refl _)
    case s1_19 =>
      intro u9 w9 hT9 hV9 K9 hK9
      have p9_18 := hV9 18 rfl
      clear hV9
      simp only [putAll, Act.put, List.setIfInBounds_toArray, List.set_cons_succ, List.set_cons_zero, List.getD_cons_succ, List.getD_cons_zero, Nat.reduceAdd, Nat.zero_add] at p9_18 hK9 ⊢
      simp only [p9_18] at hK9 ⊢
      clear p9_18
      go_simp
      exact hK9 _ (Grow.refl _)
    intro w9 hb9
    simp only [putAll, Act.put, List.setIfInBounds_toArray, List.set_cons_succ, List.set_cons_zero, List.getD_cons_succ, List.getD_cons_zero, Nat.reduceAdd, Nat.zero_add]
    go_wp2
    go_ret
    exact ⟨rfl, below2 hb hb9⟩
end Go.Proofs.Ytgimddboflhpaaa
