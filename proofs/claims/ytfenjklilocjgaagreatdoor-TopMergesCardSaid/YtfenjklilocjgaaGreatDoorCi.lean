/- Parts of the proof: Ci. No condition of its own. -/
import Derived.Test.YtfenjklilocjgaaGreatDoorCh
set_option linter.unusedSimpArgs false
set_option linter.unusedVariables false
set_option linter.unusedSectionVars false
namespace Go.Proofs.YtfenjklilocjgaaGreatDoor
set_option linter.unusedSimpArgs false
set_option linter.unusedVariables false
set_option linter.unusedSectionVars false
open Go.RowKit

/-- y covers the begin of x; x and y cross. -/
def covP (x y : Spn) : Bool := decide (y.lo ≤ x.lo) && decide (x.lo < y.hi)
def crsP (x y : Spn) : Bool := decide (y.name = x.name) && (decide (y.lo < x.hi) && (decide (x.lo < y.hi) && (!(decide (y.lo ≤ x.lo) && decide (x.hi ≤ y.hi)) && !(decide (x.lo ≤ y.lo) && decide (y.hi ≤ x.hi)))))
/-- The first j regions are right. -/
structure RegsTo (l T : List Spn) (j : Nat) : Prop where
  name : ∀ i (h : i < l.length), i < j → NameOK l[i].name
  inT : ∀ i (h : i < l.length), i < j → T.any (wiP l[i].lo l[i].hi) = true
  keys : ∀ i (h : i < l.length), i < j → PairsOK l[i].keys
  asc : ∀ i (h : i + 1 < l.length), i + 1 < j → cmpG l[i] l[i + 1] ≤ 0
  cross : ∀ i k (h : i < l.length) (h' : k < l.length), k < i → i < j → crsP l[i] l[k] = false
  deep : ∀ i (h : i < l.length), i < j → ((l.take (i + 1)).countP (covP l[i])) ≤ 40
theorem RegsTo.zero (l T : List Spn) : RegsTo l T 0 :=
  ⟨fun _ _ h => absurd h (Nat.not_lt_zero _), fun _ _ h => absurd h (Nat.not_lt_zero _), fun _ _ h => absurd h (Nat.not_lt_zero _), fun _ _ h => absurd h (Nat.not_lt_zero _), fun _ _ _ _ _ h => absurd h (Nat.not_lt_zero _), fun _ _ h => absurd h (Nat.not_lt_zero _)⟩
theorem RegsTo.step {l T : List Spn} {j : Nat} (H : RegsTo l T j) (hj : j < l.length) {t : Spn} (ht : t = l[j]) (h1 : NameOK t.name) (h2 : T.any (wiP t.lo t.hi) = true) (h3 : PairsOK t.keys)
    (h4 : ∀ (_ : 0 < j) (h : j - 1 < l.length), cmpG l[j - 1] t ≤ 0) (h5 : ∀ k (h : k < l.length), k < j → crsP t l[k] = false) (h6 : (l.take (j + 1)).countP (covP t) ≤ 40) : RegsTo l T (j + 1) := by
  subst ht
  refine ⟨fun i h hi => ?_, fun i h hi => ?_, fun i h hi => ?_, fun i h hi => ?_, fun i k h h' hk hi => ?_, fun i h hi => ?_⟩
  · by_cases e : i = j
    · subst e; exact h1
    · exact H.name i h (by omega)
  · by_cases e : i = j
    · subst e; exact h2
    · exact H.inT i h (by omega)
  · by_cases e : i = j
    · subst e; exact h3
    · exact H.keys i h (by omega)
  · by_cases e : i + 1 = j
    · subst e; exact h4 (by omega) (by omega)
    · exact H.asc i h (by omega)
  · by_cases e : i = j
    · subst e; exact h5 k h' hk
    · exact H.cross i k h h' hk (by omega)
  · by_cases e : i = j
    · subst e; exact h6
    · exact H.deep i h (by omega)
structure RegsOK (C : Cor) : Prop where
  few : C.regs.length ≤ 1024
  all : RegsTo C.regs C.texts C.regs.length
theorem count_step {l : List Spn} {p : Spn → Bool} {k : Nat} (hk : k < l.length) : (l.take (k + 1)).countP p = (l.take k).countP p + if p l[k] = true then 1 else 0 := by
  rw [List.take_succ_eq_append_getElem hk, List.countP_append, List.countP_singleton]
theorem count_le9 (l : List Spn) (p : Spn → Bool) (k : Nat) : (l.take k).countP p ≤ l.length := Nat.le_trans List.countP_le_length (by rw [List.length_take]; omega)
set_option maxRecDepth 100000 in
set_option maxHeartbeats 4000000 in
theorem regions6_any {S : Nat → Prop} {a t x r n h s : Value} {C : Cor} (w : World) (q : CorC S w a t x r n h s C) :
    Calls Tryz.prog 52 #[.agg #[a, t, x, r, n, h, s]] w fun e w' => RetII (RegsOK C) e ∧ Below w.heap.size w w' := by
  obtain ⟨A0, c0, rfl, u1, u2, -⟩ := EO.form q.x
  obtain ⟨A, c, rfl, h1, h2, -⟩ := EO.form q.r
  obtain ⟨o_c, hbw⟩ := new1 w [a, t, .slice A0 C.texts.length c0, .slice A C.regs.length c, n, h, s] 30
  have q' := q.below hbw
  have hsz : (w.alloc (.cells #[a, t, .slice A0 C.texts.length c0, .slice A C.regs.length c, n, h, s] 30)).heap.size = w.heap.size + 1 := by simp
  go_enter Tryz.func52, Tryz.ntmps52
  go_upto_region 1 with (fail)
  generalize (w.alloc (.cells #[a, t, .slice A0 C.texts.length c0, .slice A C.regs.length c, n, h, s] 30)) = wb at o_c hbw hsz q' ⊢
  obtain ⟨B, hB⟩ : ∃ B, B = w.heap.size := ⟨_, rfl⟩
  rw [← hB] at o_c hsz hbw ⊢
  have HB := Lib.hid hB
  clear hB
  clear q
  unfold maxLen at h2 u2
  have c_3 : wb.cell? ⟨B, 3, none⟩ = some (.slice A C.regs.length c) := o_c.cell 3
  by_cases h8 : 1024 < C.regs.length
  · skip
    have d1 : decide ((1024 : Int) < (C.regs.length : Int)) = true := decide_eq_true (by omega)
    have d1n : decide (1024 < C.regs.length) = true := decide_eq_true (by omega)
    go_wp2
    go_ret2
    exact ⟨RetII.no (by decide), HB.out ▸ hbw⟩
  · skip
    have d1 : decide ((1024 : Int) < (C.regs.length : Int)) = false := decide_eq_false (by omega)
    have d1n : decide (1024 < C.regs.length) = false := decide_eq_false (by omega)
    go_wp2_with fail
    clear d1 d1n c_3
    go_loopg [17] (C.regs.length + 1) (fun q v wr => ∃ j : Nat, q = C.regs.length + 1 - j ∧ j ≤ C.regs.length ∧ v = .int .i64 (j : Int) ∧ Hid (RegsTo C.regs C.texts j) ∧ Below wb.heap.size wb wr)
    case atStart => exact ⟨0, rfl, Nat.zero_le _, rfl, RegsTo.zero _ _, Below.refl _ _⟩
    case round =>
      obtain ⟨j, rfl, hj, rfl, HE, hbr⟩ := hrel
      have hwr := hbr.size
      have hbB := hbw.trans (hbr.mono (by omega))
      have o_c' := o_c.below hbr (by omega)
      by_cases hlt : j < C.regs.length
      · skip
        have qr := q'.below hbr
        obtain ⟨b, off, m, rfl, -, k0, k1, k2, k3, hm, sn, z1, z2⟩ := SpnsO.get qr.r hlt
        obtain ⟨tx, htx⟩ : ∃ tx, tx = C.regs[j] := ⟨_, rfl⟩
        rw [← htx] at k0 k1 k2 hm sn z1 z2
        have HT := Lib.hid htx
        obtain ⟨nm, l0, h0, ks⟩ := tx
        clear htx
        dsimp only at k0 k1 k2 hm sn z1 z2
        obtain ⟨Am, cm, rfl, g1, g2, hm⟩ := EO.form hm
        unfold I64 at z1 z2
        obtain ⟨o_t, hbt⟩ := new1 wr [.string nm, .int .i64 l0, .int .i64 h0, .slice Am ks.length cm] 69
        have hbB2 := belowB hbB (by omega) hbt
        have hbr2 := belowB hbr (by omega) hbt
        have o_c2 := o_c'.below hbt (by omega)
        have hgt := o_t.lt
        have hmt := hm.below hbt
        have qt := qr.below hbt
        go_upto_region 6 with (fail)
        generalize (wr.alloc (.cells #[.string nm, .int .i64 l0, .int .i64 h0, .slice Am ks.length cm] 69)) = wt at o_t hbB2 hbr2 o_c2 hgt hmt qt ⊢
        clear k0 k1 k2 k3 hm hbt o_c' hbr hbB qr
        generalize wr.heap.size = g at o_t hgt hwr ⊢
        have t0 : wt.cell? ⟨g, 0, none⟩ = some (.string nm) := o_t.cell 0
        have t1 : wt.cell? ⟨g, 1, none⟩ = some (.int .i64 l0) := o_t.cell 1
        have t2 : wt.cell? ⟨g, 2, none⟩ = some (.int .i64 h0) := o_t.cell 2
        have t3 : wt.cell? ⟨g, 3, none⟩ = some (.slice Am ks.length cm) := o_t.cell 3
        have HN := Lib.hid (validName4_any nm sn wt)
        go_wp2_with fail
        refine HN.out.mono ?_
        rintro e w9 ⟨⟨bn, rfl, hbn⟩, rfl⟩
        have HBN := Lib.hid hbn
        clear hbn HN
        cases bn
        · go_wp2
          go_ret2
          exact ⟨RetII.no (by decide), HB.out ▸ hbB2⟩
        · skip
          have c_0 : w9.cell? ⟨B, 0, none⟩ = some (a) := o_c2.cell 0
          have c_1 : w9.cell? ⟨B, 1, none⟩ = some (t) := o_c2.cell 1
          have c_2 : w9.cell? ⟨B, 2, none⟩ = some (.slice A0 C.texts.length c0) := o_c2.cell 2
          have c_3 : w9.cell? ⟨B, 3, none⟩ = some (.slice (some ⟨b, off, none⟩) C.regs.length c) := o_c2.cell 3
          have c_4 : w9.cell? ⟨B, 4, none⟩ = some (n) := o_c2.cell 4
          have c_5 : w9.cell? ⟨B, 5, none⟩ = some (h) := o_c2.cell 5
          have c_6 : w9.cell? ⟨B, 6, none⟩ = some (s) := o_c2.cell 6
          go_wp2_with fail
          refine (within_any _ qt l0 h0).mono ?_
          rintro e w7 ⟨rfl, hb7⟩
          replace o_t := o_t.below hb7 hgt
          replace o_c2 := o_c2.below hb7 (by omega)
          replace hbB2 := belowB hbB2 (by omega) hb7
          replace hbr2 := belowB hbr2 (by omega) hb7
          have hs7 := hb7.size
          replace hmt := hmt.below hb7
          replace qt := qt.below hb7
          clear hb7 t0 t1 t2 t3 c_0 c_1 c_2 c_3 c_4 c_5 c_6
          obtain ⟨wn, hwn⟩ : ∃ wn, wn = C.texts.any (wiP l0 h0) := ⟨_, rfl⟩
          rw [← hwn]
          have HW := Lib.hid hwn
          clear hwn
          cases wn
          · go_wp2
            go_ret2
            exact ⟨RetII.no (by decide), HB.out ▸ hbB2⟩
          · have t3 : w7.cell? ⟨g, 3, none⟩ = some (.slice Am ks.length cm) := o_t.cell 3
            go_wp2_with fail
            refine (pairs6_any _ hmt).mono ?_
            rintro e w6 ⟨⟨kk, rfl, hkk⟩, hb6⟩
            replace o_t := o_t.below hb6 (by omega)
            replace o_c2 := o_c2.below hb6 (by omega)
            replace hbB2 := belowB hbB2 (by omega) hb6
            replace hbr2 := belowB hbr2 (by omega) hb6
            have hs6 := hb6.size
            replace hmt := hmt.below hb6
            replace qt := qt.below hb6
            clear hb6 t3
            by_cases hk0 : kk = 0
            · subst hk0
              have HVO := Lib.hid (hkk rfl)
              clear hkk
              go_upto_region 13 with (fail)
              have c_3 : w6.cell? ⟨B, 3, none⟩ = some (.slice (some ⟨b, off, none⟩) C.regs.length c) := o_c2.cell 3
              have t0 : w6.cell? ⟨g, 0, none⟩ = some (.string nm) := o_t.cell 0
              have t1 : w6.cell? ⟨g, 1, none⟩ = some (.int .i64 l0) := o_t.cell 1
              have t2 : w6.cell? ⟨g, 2, none⟩ = some (.int .i64 h0) := o_t.cell 2
              have t3 : w6.cell? ⟨g, 3, none⟩ = some (.slice Am ks.length cm) := o_t.cell 3
              have hsw := hbB2.size
              go_cut [56] (fun s56 wx => ∃ bb : Bool, s56 = .bool bb ∧ Hid (bb = false → ∀ (_ : 0 < j) (h : j - 1 < C.regs.length), cmpG C.regs[j - 1] ⟨nm, l0, h0, ks⟩ ≤ 0) ∧ Below w6.heap.size w6 wx)
              case first =>
                rcases Nat.eq_zero_or_pos j with hj0 | hj0
                · have HASC : Hid (false = false → ∀ (_ : 0 < j) (h : j - 1 < C.regs.length), cmpG C.regs[j - 1] ⟨nm, l0, h0, ks⟩ ≤ 0) := fun _ h => absurd h (by omega)
                  have dj : decide ((0 : Int) < (j : Int)) = false := decide_eq_false (by omega)
                  have djn : decide (0 < j) = false := decide_eq_false (by omega)
                  clear hj0
                  refine wp_reg_f [some 44, some 45, some 46, some 47, some 48, some 49, some 50, some 51, some 52, some 53, some 54, some 55, some 56] [?v1_0, ?v1_1, ?v1_2, ?v1_3, ?v1_4, ?v1_5, ?v1_6, ?v1_7, ?v1_8, ?v1_9, ?v1_10, ?v1_11, ?v1_12] [[], [0], [1], [2], [2, 3], [2], [2, 5], [2, 4, 6], [2, 7], [2], [2, 8, 9], [2, 10], [2, 11]] [(1, _), (4, _), (5, _)] ⟨rfl, rfl, rfl, trivial⟩ rfl (by kernel_rfl) rfl rfl (by kernel_rfl) (by kernel_rfl) ⟨?s1_0, ?s1_1, ?s1_2, ?s1_3, ?s1_4, ?s1_5, ?s1_6, ?s1_7, ?s1_8, ?s1_9, ?s1_10, ?s1_11, ?s1_12, trivial⟩ ?p1
                  all_goals try (intro t9 w9 hT9 K9 hK9; simp only [OV, FV, List.getD_cons_succ, List.getD_cons_zero, Option.getD_some]; intros)
                  case s1_0 | s1_1 | s1_2 | s1_3 | s1_4 | s1_5 | s1_6 | s1_7 | s1_8 | s1_9 | s1_10 | s1_11 | s1_12 =>
                    have d9_0 := grow_cell hT9 c_3; have d9_1 := grow_cell hT9 t0; have d9_2 := grow_cell hT9 t1; have d9_3 := grow_cell hT9 t2; have d9_4 := grow_cell hT9 t3
                    go_simp
                    exact hK9 _ (Grow.refl _)
                  intro w9 hb9
                  simp only [putL, Act.put, List.setIfInBounds_toArray, List.set_cons_succ, List.set_cons_zero]
                  go_wp2_with fail
                  go_meet
                  exact ⟨false, rfl, (fun _ => HASC.out (by trivial)), hb9⟩
                · skip
                  have dj : decide ((0 : Int) < (j : Int)) = true := decide_eq_true (by omega)
                  have djn : decide (0 < j) = true := decide_eq_true (by omega)
                  have hj1 : j - 1 < C.regs.length := by omega
                  obtain ⟨b', off', m', ee, -, v0, v1, v2, v3, hm', -, -, -⟩ := SpnsO.get qt.r hj1
                  injection ee with ee
                  injection ee with e1 e2
                  subst e1 e2
                  obtain ⟨V, hV⟩ : ∃ V, V = C.regs[j - 1]'hj1 := ⟨_, rfl⟩
                  rw [← hV] at v0 v1 v2 hm'
                  have HVV := Lib.hid hV
                  obtain ⟨p1, p2, p3, p4⟩ := V
                  clear hV
                  dsimp only at v0 v1 v2 hm'
                  obtain ⟨A5, c5, rfl, -, -, hm'⟩ := EO.form hm'
                  have zj1 : IntKind.i64.wrap ((j : Int) - 1) = ((j - 1 : Nat) : Int) := (IntWalk.i64_in ((j : Int) - 1) (by omega)).trans (by omega)
                  have HCMP := Lib.hid (fun (W : World) (h1 : PairsO S W (.slice A5 p4.length c5) p4) (h2 : PairsO S W (.slice Am ks.length cm) ks) => cmpRegions6_any W p1 nm p2 p3 l0 h0 p4 ks h1 h2)
                  obtain ⟨cm9, hcm9⟩ : ∃ cm9, cm9 = cmpG ⟨p1, p2, p3, p4⟩ ⟨nm, l0, h0, ks⟩ := ⟨_, rfl⟩
                  rw [← hcm9] at HCMP
                  have HC9 := Lib.hid hcm9
                  clear hcm9
                  have HP1 := Lib.hid hm'
                  have HP2 := Lib.hid hmt
                  rcases hgt9 : decide (0 < cm9) with _ | _
                  · have HASC : Hid (false = false → ∀ (_ : 0 < j) (h : j - 1 < C.regs.length), cmpG C.regs[j - 1] ⟨nm, l0, h0, ks⟩ ≤ 0) := fun _ _ h => by rw [← HVV.out, ← HC9.out]; have := of_decide_eq_false hgt9; omega
                    refine wp_reg_f [some 44, some 45, some 46, some 47, some 48, some 49, some 50, some 51, some 52, some 53, some 54, some 55, some 56] [?v2_0, ?v2_1, ?v2_2, ?v2_3, ?v2_4, ?v2_5, ?v2_6, ?v2_7, ?v2_8, ?v2_9, ?v2_10, ?v2_11, ?v2_12] [[], [0], [1], [2], [2, 3], [2], [2, 5], [2, 4, 6], [2, 7], [2], [2, 8, 9], [2, 10], [2, 11]] [(1, _), (4, _), (5, _)] ⟨rfl, rfl, rfl, trivial⟩ rfl (by kernel_rfl) rfl rfl (by kernel_rfl) (by kernel_rfl) ⟨?s2_0, ?s2_1, ?s2_2, ?s2_3, ?s2_4, ?s2_5, ?s2_6, ?s2_7, ?s2_8, ?s2_9, ?s2_10, ?s2_11, ?s2_12, trivial⟩ ?p2
                    all_goals try (intro t9 w9 hT9 K9 hK9; simp only [OV, FV, List.getD_cons_succ, List.getD_cons_zero, Option.getD_some]; intros)
                    case s2_0 | s2_1 | s2_2 | s2_3 | s2_4 | s2_5 | s2_6 | s2_7 | s2_8 | s2_9 =>
                      have d9_0 := grow_cell hT9 c_3; have d9_1 := grow_cell hT9 t0; have d9_2 := grow_cell hT9 t1; have d9_3 := grow_cell hT9 t2; have d9_4 := grow_cell hT9 t3; have d9_5 := grow_cell hT9 v0; have d9_6 := grow_cell hT9 v1; have d9_7 := grow_cell hT9 v2; have d9_8 := grow_cell hT9 v3
                      go_simp
                      exact hK9 _ (Grow.refl _)
                    case s2_10 =>
                      go_simp
                      first | exact hK9 _ (Grow.refl _) | (refine (HCMP.out _ (HP1.out.below hT9.of_drew) (HP2.out.below hT9.of_drew)).mono ?_; rintro _ w8 ⟨rfl, hb8⟩; exact hK9 _ hb8)
                    case s2_11 | s2_12 =>
                      have d9_0 := grow_cell hT9 c_3; have d9_1 := grow_cell hT9 t0; have d9_2 := grow_cell hT9 t1; have d9_3 := grow_cell hT9 t2; have d9_4 := grow_cell hT9 t3; have d9_5 := grow_cell hT9 v0; have d9_6 := grow_cell hT9 v1; have d9_7 := grow_cell hT9 v2; have d9_8 := grow_cell hT9 v3
                      go_simp
                      exact hK9 _ (Grow.refl _)
                    intro w9 hb9
                    simp only [putL, Act.put, List.setIfInBounds_toArray, List.set_cons_succ, List.set_cons_zero]
                    go_wp2_with fail
                    go_meet
                    exact ⟨false, rfl, (fun _ => HASC.out (by trivial)), hb9⟩
                  · skip
                    refine wp_reg_f [some 44, some 45, some 46, some 47, some 48, some 49, some 50, some 51, some 52, some 53, some 54, some 55, some 56] [?v3_0, ?v3_1, ?v3_2, ?v3_3, ?v3_4, ?v3_5, ?v3_6, ?v3_7, ?v3_8, ?v3_9, ?v3_10, ?v3_11, ?v3_12] [[], [0], [1], [2], [2, 3], [2], [2, 5], [2, 4, 6], [2, 7], [2], [2, 8, 9], [2, 10], [2, 11]] [(1, _), (4, _), (5, _)] ⟨rfl, rfl, rfl, trivial⟩ rfl (by kernel_rfl) rfl rfl (by kernel_rfl) (by kernel_rfl) ⟨?s3_0, ?s3_1, ?s3_2, ?s3_3, ?s3_4, ?s3_5, ?s3_6, ?s3_7, ?s3_8, ?s3_9, ?s3_10, ?s3_11, ?s3_12, trivial⟩ ?p3
                    all_goals try (intro t9 w9 hT9 K9 hK9; simp only [OV, FV, List.getD_cons_succ, List.getD_cons_zero, Option.getD_some]; intros)
                    case s3_0 | s3_1 | s3_2 | s3_3 | s3_4 | s3_5 | s3_6 | s3_7 | s3_8 | s3_9 =>
                      have d9_0 := grow_cell hT9 c_3; have d9_1 := grow_cell hT9 t0; have d9_2 := grow_cell hT9 t1; have d9_3 := grow_cell hT9 t2; have d9_4 := grow_cell hT9 t3; have d9_5 := grow_cell hT9 v0; have d9_6 := grow_cell hT9 v1; have d9_7 := grow_cell hT9 v2; have d9_8 := grow_cell hT9 v3
                      go_simp
                      exact hK9 _ (Grow.refl _)
                    case s3_10 =>
                      go_simp
                      first | exact hK9 _ (Grow.refl _) | (refine (HCMP.out _ (HP1.out.below hT9.of_drew) (HP2.out.below hT9.of_drew)).mono ?_; rintro _ w8 ⟨rfl, hb8⟩; exact hK9 _ hb8)
                    case s3_11 | s3_12 =>
                      have d9_0 := grow_cell hT9 c_3; have d9_1 := grow_cell hT9 t0; have d9_2 := grow_cell hT9 t1; have d9_3 := grow_cell hT9 t2; have d9_4 := grow_cell hT9 t3; have d9_5 := grow_cell hT9 v0; have d9_6 := grow_cell hT9 v1; have d9_7 := grow_cell hT9 v2; have d9_8 := grow_cell hT9 v3
                      go_simp
                      exact hK9 _ (Grow.refl _)
                    intro w9 hb9
                    simp only [putL, Act.put, List.setIfInBounds_toArray, List.set_cons_succ, List.set_cons_zero]
                    go_wp2_with fail
                    go_meet
                    exact ⟨true, rfl, (fun h => nomatch h), hb9⟩
              case rest =>
                obtain ⟨bb, rfl, HASC, hb9⟩ := hcut
                replace o_t := o_t.below hb9 (by omega)
                replace o_c2 := o_c2.below hb9 (by omega)
                replace hbB2 := belowB hbB2 (by omega) hb9
                replace hbr2 := belowB hbr2 (by omega) hb9
                have hs9 := hb9.size
                replace qt := qt.below hb9
                clear hb9 hmt c_3 t0 t1 t2 t3
                obtain ⟨wp, hwp⟩ : ∃ wp : World, wp = wc := ⟨_, rfl⟩
                rw [← hwp] at o_t o_c2 hbB2 hbr2 hs9 qt ⊢
                clear hwp
                cases bb
                · skip
                  have c_3 : wp.cell? ⟨B, 3, none⟩ = some (.slice (some ⟨b, off, none⟩) C.regs.length c) := o_c2.cell 3
                  have zj : IntKind.i64.wrap ((j : Int) + 1) = ((j + 1 : Nat) : Int) := (IntWalk.i64_in ((j : Int) + 1) (by omega)).trans (by omega)
                  have hjc : j + 1 ≤ c := by omega
                  go_upto_block 17 with (fail)
                  clear c_3 zj hjc
                  go_loopg [7, 64] (j + 2) (fun q v7 v wx => ∃ k d : Nat, q = j + 2 - k ∧ k ≤ j + 1 ∧ v = .int .i64 (k : Int) ∧ v7 = .int .i64 (d : Int) ∧ d ≤ C.regs.length ∧ Hid (d = (C.regs.take k).countP (covP ⟨nm, l0, h0, ks⟩)) ∧ Hid (∀ i (h : i < C.regs.length), i < k → i < j → crsP ⟨nm, l0, h0, ks⟩ C.regs[i] = false) ∧ Below wp.heap.size wp wx)
                  case atStart => exact ⟨0, 0, rfl, Nat.zero_le _, rfl, rfl, Nat.zero_le _, by show _ = _; simp, fun _ _ h => absurd h (Nat.not_lt_zero _), Below.refl _ _⟩
                  case round =>
                    obtain ⟨k, d, rfl, hk, rfl, rfl, hd, HD, HK, hbx⟩ := hrel
                    have hwx := hbx.size
                    have o_x := o_t.below hbx (by omega)
                    have hbB3 := belowB hbB2 (by omega) hbx
                    by_cases hkl : k < j + 1
                    · skip
                      have qx := qt.below hbx
                      obtain ⟨b', off', m', ee, -, y0, y1, y2, y3, hm', -, z3, z4⟩ := SpnsO.get qx.r (show k < C.regs.length by omega)
                      injection ee with ee
                      injection ee with e1 e2
                      subst e1 e2
                      obtain ⟨Q, hQ⟩ : ∃ Q, Q = C.regs[k]'(by omega) := ⟨_, rfl⟩
                      rw [← hQ] at y0 y1 y2 hm' z3 z4
                      have HQ := Lib.hid hQ
                      obtain ⟨q1, q2, q3, q4⟩ := Q
                      clear hQ
                      dsimp only at y0 y1 y2 hm' z3 z4
                      obtain ⟨A4, c4, rfl, -, -, -⟩ := EO.form hm'
                      unfold I64 at z3 z4
                      have HDS := Lib.hid (count_step (p := covP ⟨nm, l0, h0, ks⟩) (show k < C.regs.length by omega))
                      have HDL := Lib.hid (count_le9 C.regs (covP ⟨nm, l0, h0, ks⟩) (k + 1))
                      obtain ⟨o_y, hby⟩ := new1 wr [.string q1, .int .i64 q2, .int .i64 q3, .slice A4 q4.length c4] 69
                      have hbB4 := belowB hbB3 (by omega) hby
                      have hbx2 := belowB hbx (by omega) hby
                      have o_x2 := o_x.below hby (by omega)
                      go_upto_region 19 with (fail)
                      generalize (wr.alloc (.cells #[.string q1, .int .i64 q2, .int .i64 q3, .slice A4 q4.length c4] 69)) = wy at o_y hbB4 hbx2 o_x2 ⊢
                      generalize wr.heap.size = g2 at o_y ⊢
                      clear y0 y1 y2 y3 hbx hbB3 o_x qx hby hm'
                      have y0 : wy.cell? ⟨g2, 0, none⟩ = some (.string q1) := o_y.cell 0
                      have y1 : wy.cell? ⟨g2, 1, none⟩ = some (.int .i64 q2) := o_y.cell 1
                      have y2 : wy.cell? ⟨g2, 2, none⟩ = some (.int .i64 q3) := o_y.cell 2
                      have y3 : wy.cell? ⟨g2, 3, none⟩ = some (.slice A4 q4.length c4) := o_y.cell 3
                      have x0 : wy.cell? ⟨g, 0, none⟩ = some (.string nm) := o_x2.cell 0
                      have x1 : wy.cell? ⟨g, 1, none⟩ = some (.int .i64 l0) := o_x2.cell 1
                      have x2 : wy.cell? ⟨g, 2, none⟩ = some (.int .i64 h0) := o_x2.cell 2
                      have x3 : wy.cell? ⟨g, 3, none⟩ = some (.slice Am ks.length cm) := o_x2.cell 3
                      clear o_y o_x2
                      go_cut [80] (fun s80 wx => ∃ cv : Bool, s80 = .bool cv ∧ Hid (covP ⟨nm, l0, h0, ks⟩ ⟨q1, q2, q3, q4⟩ = cv) ∧ wx = wy)
                      case first =>
                        by_cases hc_b1 : q2 ≤ l0
                        · skip
                          have b1 : decide (q2 ≤ l0) = true := decide_eq_true (by omega)
                          by_cases hc_a4 : l0 < q3
                          · skip
                            have a4 : decide (l0 < q3) = true := decide_eq_true (by omega)
                            have HCV : Hid (covP ⟨nm, l0, h0, ks⟩ ⟨q1, q2, q3, q4⟩ = true) := by show _ = _; simp only [covP, b1, a4]; rfl
                            clear hc_b1 hc_a4
                            go_wp2_with fail
                            go_meet
                            exact ⟨_, rfl, HCV, rfl⟩
                          · skip
                            have a4 : decide (l0 < q3) = false := decide_eq_false (by omega)
                            have HCV : Hid (covP ⟨nm, l0, h0, ks⟩ ⟨q1, q2, q3, q4⟩ = false) := by show _ = _; simp only [covP, b1, a4]; rfl
                            clear hc_b1 hc_a4
                            go_wp2_with fail
                            go_meet
                            exact ⟨_, rfl, HCV, rfl⟩
                        · skip
                          have b1 : decide (q2 ≤ l0) = false := decide_eq_false (by omega)
                          have HCV : Hid (covP ⟨nm, l0, h0, ks⟩ ⟨q1, q2, q3, q4⟩ = false) := by show _ = _; simp only [covP, b1]; rfl
                          clear hc_b1
                          go_wp2_with fail
                          go_meet
                          exact ⟨_, rfl, HCV, rfl⟩
                      case rest =>
                        obtain ⟨cv, rfl, HCV, rfl⟩ := hcut
                        go_upto_if 80 with (fail)
                        go_cut [7] (fun s7 wx => ∃ d' : Nat, s7 = .int .i64 (d' : Int) ∧ d' ≤ C.regs.length ∧ Hid (d' = (C.regs.take (k + 1)).countP (covP ⟨nm, l0, h0, ks⟩)) ∧ wx = wc)
                        case first =>
                          have HD1 : Hid ((C.regs.take (k + 1)).countP (covP ⟨nm, l0, h0, ks⟩) = d + if cv = true then 1 else 0) := by
                            have e1 := HDS.out
                            rw [← HQ.out, HCV.out, ← HD.out] at e1
                            exact e1
                          have hd1 : d + (if cv = true then 1 else 0) ≤ C.regs.length := by rw [← HD1.out]; exact HDL.out
                          cases cv
                          · go_wp2_with fail
                            go_meet
                            exact ⟨d, rfl, hd, by show _ = _; rw [HD1.out]; rfl, rfl⟩
                          · have hd2 : d + 1 ≤ C.regs.length := hd1
                            clear hd1
                            have zd : IntKind.i64.wrap ((d : Int) + 1) = ((d + 1 : Nat) : Int) := (IntWalk.i64_in ((d : Int) + 1) (by omega)).trans (by omega)
                            go_wp2_with fail
                            go_meet
                            exact ⟨d + 1, rfl, hd2, by show _ = _; rw [HD1.out]; rfl, rfl⟩
                        case rest =>
                          obtain ⟨d', rfl, hd', HD', rfl⟩ := hcut
                          clear HD hd HCV HDS HDL
                          go_upto_region 21 with (fail)
                          go_cut [136] (fun s136 wx => ∃ bb : Bool, s136 = .bool bb ∧ Hid (bb = false → k < j → crsP ⟨nm, l0, h0, ks⟩ ⟨q1, q2, q3, q4⟩ = false) ∧ wx = wc)
                          case first =>
                            by_cases hc_a1 : k < j
                            · skip
                              have a1 : decide ((k : Int) < (j : Int)) = true := decide_eq_true (by omega)
                              have a1n : decide (k < j) = true := decide_eq_true (by omega)
                              by_cases hc_a2 : q1 = nm
                              · skip
                                have a2 : (q1.toList == nm.toList) = true := by rw [str_beq]; exact decide_eq_true hc_a2
                                by_cases hc_a3 : q2 < h0
                                · skip
                                  have a3 : decide (q2 < h0) = true := decide_eq_true (by omega)
                                  by_cases hc_a4 : l0 < q3
                                  · skip
                                    have a4 : decide (l0 < q3) = true := decide_eq_true (by omega)
                                    by_cases hc_b1 : q2 ≤ l0
                                    · skip
                                      have b1 : decide (q2 ≤ l0) = true := decide_eq_true (by omega)
                                      by_cases hc_b2 : h0 ≤ q3
                                      · skip
                                        have b2 : decide (h0 ≤ q3) = true := decide_eq_true (by omega)
                                        have HCR : Hid (false = false → k < j → crsP ⟨nm, l0, h0, ks⟩ ⟨q1, q2, q3, q4⟩ = false) := by
                                          intro _ _
                                          simp [crsP, a3, a4, b1, b2]
                                        clear hc_a1 hc_a2 hc_a3 hc_a4 hc_b1 hc_b2
                                        go_wp2_with fail
                                        go_meet
                                        exact ⟨false, rfl, (fun _ => HCR.out (by trivial)), rfl⟩
                                      · skip
                                        have b2 : decide (h0 ≤ q3) = false := decide_eq_false (by omega)
                                        by_cases hc_c1 : l0 ≤ q2
                                        · skip
                                          have c1 : decide (l0 ≤ q2) = true := decide_eq_true (by omega)
                                          by_cases hc_c2 : q3 ≤ h0
                                          · skip
                                            have c2 : decide (q3 ≤ h0) = true := decide_eq_true (by omega)
                                            have HCR : Hid (false = false → k < j → crsP ⟨nm, l0, h0, ks⟩ ⟨q1, q2, q3, q4⟩ = false) := by
                                              intro _ _
                                              simp [crsP, a3, a4, b1, b2, c1, c2]
                                            clear hc_a1 hc_a2 hc_a3 hc_a4 hc_b1 hc_b2 hc_c1 hc_c2
                                            go_wp2_with fail
                                            go_meet
                                            exact ⟨false, rfl, (fun _ => HCR.out (by trivial)), rfl⟩
                                          · skip
                                            have c2 : decide (q3 ≤ h0) = false := decide_eq_false (by omega)
                                            clear hc_a1 hc_a2 hc_a3 hc_a4 hc_b1 hc_b2 hc_c1 hc_c2
                                            go_wp2_with fail
                                            go_meet
                                            exact ⟨true, rfl, (fun h => nomatch h), rfl⟩
                                        · skip
                                          have c1 : decide (l0 ≤ q2) = false := decide_eq_false (by omega)
                                          clear hc_a1 hc_a2 hc_a3 hc_a4 hc_b1 hc_b2 hc_c1
                                          go_wp2_with fail
                                          go_meet
                                          exact ⟨true, rfl, (fun h => nomatch h), rfl⟩
                                    · skip
                                      have b1 : decide (q2 ≤ l0) = false := decide_eq_false (by omega)
                                      by_cases hc_c1 : l0 ≤ q2
                                      · skip
                                        have c1 : decide (l0 ≤ q2) = true := decide_eq_true (by omega)
                                        by_cases hc_c2 : q3 ≤ h0
                                        · skip
                                          have c2 : decide (q3 ≤ h0) = true := decide_eq_true (by omega)
                                          have HCR : Hid (false = false → k < j → crsP ⟨nm, l0, h0, ks⟩ ⟨q1, q2, q3, q4⟩ = false) := by
                                            intro _ _
                                            simp [crsP, a3, a4, b1, c1, c2]
                                          clear hc_a1 hc_a2 hc_a3 hc_a4 hc_b1 hc_c1 hc_c2
                                          go_wp2_with fail
                                          go_meet
                                          exact ⟨false, rfl, (fun _ => HCR.out (by trivial)), rfl⟩
                                        · skip
                                          have c2 : decide (q3 ≤ h0) = false := decide_eq_false (by omega)
                                          clear hc_a1 hc_a2 hc_a3 hc_a4 hc_b1 hc_c1 hc_c2
                                          go_wp2_with fail
                                          go_meet
                                          exact ⟨true, rfl, (fun h => nomatch h), rfl⟩
                                      · skip
                                        have c1 : decide (l0 ≤ q2) = false := decide_eq_false (by omega)
                                        clear hc_a1 hc_a2 hc_a3 hc_a4 hc_b1 hc_c1
                                        go_wp2_with fail
                                        go_meet
                                        exact ⟨true, rfl, (fun h => nomatch h), rfl⟩
                                  · skip
                                    have a4 : decide (l0 < q3) = false := decide_eq_false (by omega)
                                    have HCR : Hid (false = false → k < j → crsP ⟨nm, l0, h0, ks⟩ ⟨q1, q2, q3, q4⟩ = false) := by
                                      intro _ _
                                      simp [crsP, a3, a4]
                                    clear hc_a1 hc_a2 hc_a3 hc_a4
                                    go_wp2_with fail
                                    go_meet
                                    exact ⟨false, rfl, (fun _ => HCR.out (by trivial)), rfl⟩
                                · skip
                                  have a3 : decide (q2 < h0) = false := decide_eq_false (by omega)
                                  have HCR : Hid (false = false → k < j → crsP ⟨nm, l0, h0, ks⟩ ⟨q1, q2, q3, q4⟩ = false) := by
                                    intro _ _
                                    simp [crsP, a3]
                                  clear hc_a1 hc_a2 hc_a3
                                  go_wp2_with fail
                                  go_meet
                                  exact ⟨false, rfl, (fun _ => HCR.out (by trivial)), rfl⟩
                              · skip
                                have a2 : (q1.toList == nm.toList) = false := by rw [str_beq]; exact decide_eq_false hc_a2
                                have HCR : Hid (false = false → k < j → crsP ⟨nm, l0, h0, ks⟩ ⟨q1, q2, q3, q4⟩ = false) := by
                                  intro _ _
                                  simp only [crsP, decide_eq_false hc_a2, Bool.false_and]
                                clear hc_a1 hc_a2
                                go_wp2_with fail
                                go_meet
                                exact ⟨false, rfl, (fun _ => HCR.out (by trivial)), rfl⟩
                            · skip
                              have a1 : decide ((k : Int) < (j : Int)) = false := decide_eq_false (by omega)
                              have a1n : decide (k < j) = false := decide_eq_false (by omega)
                              have HCR : Hid (false = false → k < j → crsP ⟨nm, l0, h0, ks⟩ ⟨q1, q2, q3, q4⟩ = false) := fun _ h => absurd h hc_a1
                              clear hc_a1
                              go_wp2_with fail
                              go_meet
                              exact ⟨false, rfl, (fun _ => HCR.out (by trivial)), rfl⟩
                          case rest =>
                            obtain ⟨bb, rfl, HCR, rfl⟩ := hcut
                            clear y0 y1 y2 y3 x0 x1 x2 x3
                            cases bb
                            · go_wp2
                              go_roundg (j + 2 - (k + 1))
                              case measure => omega
                              case rel => exact ⟨k + 1, d', rfl, by omega, by go_num, by go_num, hd', HD', fun i h hi hij => if e : i = k then by subst e; rw [← HQ.out]; exact HCR.out (by trivial) hij else HK.out i h (by omega) hij, hbx2⟩
                            · go_wp2
                              go_ret2
                              exact ⟨RetII.no (by decide), HB.out ▸ hbB4⟩
                    · obtain rfl : k = j + 1 := by omega
                      by_cases h40 : 40 < d
                      · skip
                        have d40 : decide ((40 : Int) < (d : Int)) = true := decide_eq_true (by omega)
                        have d40n : decide (40 < d) = true := decide_eq_true (by omega)
                        go_wp2
                        go_ret2
                        exact ⟨RetII.no (by decide), HB.out ▸ hbB3⟩
                      · skip
                        have d40 : decide ((40 : Int) < (d : Int)) = false := decide_eq_false (by omega)
                        have d40n : decide (40 < d) = false := decide_eq_false (by omega)
                        go_wp2
                        go_roundg (C.regs.length + 1 - (j + 1))
                        case measure => omega
                        case rel => exact ⟨j + 1, rfl, by omega, by go_num, HE.out.step hlt HT.out (HBN.out.1 (by trivial)) HW.out.symm HVO.out (HASC.out (by trivial)) (fun k h hk => HK.out k h (by omega) hk) (by rw [← HD.out]; omega), hbr2.trans (hbx.mono (by omega))⟩
                · go_wp2
                  go_ret2
                  exact ⟨RetII.no (by decide), HB.out ▸ hbB2⟩
            · obtain ⟨d1, d2⟩ := ne0 hk0
              have HKK := Lib.hid hk0
              clear hkk hk0
              go_wp2
              go_ret2
              exact ⟨RetII.no HKK.out, HB.out ▸ hbB2⟩
      · go_wp2
        go_ret2
        exact ⟨RetII.yes ⟨by omega, (show j = C.regs.length by omega) ▸ HE.out⟩, HB.out ▸ hbB⟩
end Go.Proofs.YtfenjklilocjgaaGreatDoor
