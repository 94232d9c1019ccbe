/- Parts of the proof: Ch. No condition of its own. -/
import Derived.Test.YtfenjklilocjgaaGreatDoorCg
set_option linter.unusedSimpArgs false
set_option linter.unusedVariables false
set_option linter.unusedSectionVars false
namespace Go.Proofs.YtfenjklilocjgaaGreatDoor
set_option linter.unusedSimpArgs false
set_option linter.unusedVariables false
set_option linter.unusedSectionVars false
open Go.RowKit

theorem RetI.no {P : Prop} {k : Int} (hk : k ≠ 0) : RetI P (.returned (.int .i64 k)) := ⟨k, rfl, fun h => absurd h hk⟩
theorem RetI.yes {P : Prop} (h : P) : RetI P (.returned (.int .i64 0)) := ⟨0, rfl, fun _ => h⟩
def RetII (P : Prop) (e : Ending) : Prop := ∃ i k : Int, e = .returned (.tuple #[.int .i64 i, .int .i64 k]) ∧ (k = 0 → P)
theorem RetII.no {P : Prop} {i k : Int} (hk : k ≠ 0) : RetII P (.returned (.tuple #[.int .i64 i, .int .i64 k])) := ⟨i, k, rfl, fun h => absurd h hk⟩
theorem RetII.yes {P : Prop} {i : Int} (h : P) : RetII P (.returned (.tuple #[.int .i64 i, .int .i64 0])) := ⟨i, 0, rfl, fun _ => h⟩
/-- A test on an error. -/
theorem ne0 {k : Int} (h : k ≠ 0) : (k == 0) = false ∧ (k != 0) = true := ⟨beq_eq_false_iff_ne.2 h, by rw [bne_iff_ne]; exact h⟩
/-- Keys with values, in order. -/
structure PairsOK (l : List (ByteArray × ByteArray)) : Prop where
  few : l.length ≤ 8
  each : ∀ i (h : i < l.length), NameOK l[i].1 ∧ ValueOK l[i].2
  asc : ∀ i (h : i + 1 < l.length), ltS l[i].1 l[i + 1].1 = true
set_option maxRecDepth 100000 in
set_option maxHeartbeats 4000000 in
theorem pairs6_any {S : Nat → Prop} (w : World) {v : Value} {l : List (ByteArray × ByteArray)} (hv : PairsO S w v l) :
    Calls Tryz.prog 93 #[v] w fun e w' => RetI (PairsOK l) e ∧ Below w.heap.size w w' := by
  obtain ⟨A, c, rfl, h1, h2, hv⟩ := EO.form hv
  unfold maxLen at h2
  by_cases h8 : 8 < l.length
  · have d1 : decide (8 < l.length) = true := decide_eq_true h8
    have d2 : decide ((8 : Int) < (l.length : Int)) = true := decide_eq_true (by omega)
    go_enter Tryz.func93, Tryz.ntmps93
    go_wp2
    go_ret
    exact ⟨RetI.no (by decide), Below.refl _ _⟩
  · have d1 : decide (8 < l.length) = false := decide_eq_false h8
    have d2 : decide ((8 : Int) < (l.length : Int)) = false := decide_eq_false (by omega)
    go_enter Tryz.func93, Tryz.ntmps93
    go_wp2_with fail
    clear d1 d2
    go_loopg [11] (l.length + 1) (fun q v wr => ∃ j : Nat, q = l.length + 1 - j ∧ j ≤ l.length ∧ v = .int .i64 (j : Int) ∧ Hid (∀ i (h : i < l.length), i < j → NameOK l[i].1 ∧ ValueOK l[i].2) ∧ Hid (∀ i (h : i + 1 < l.length), i + 1 < j → ltS l[i].1 l[i + 1].1 = true) ∧ Below w.heap.size w wr)
    case atStart => exact ⟨0, rfl, Nat.zero_le _, rfl, fun _ _ h => absurd h (Nat.not_lt_zero _), fun _ _ h => absurd h (Nat.not_lt_zero _), Below.refl _ _⟩
    case round =>
      obtain ⟨j, rfl, hj, rfl, HE, HA, hbr⟩ := hrel
      have hwr := hbr.size
      by_cases hlt : j < l.length
      · have hvr := hv.below hbr
        obtain ⟨b, off, rfl, -, c0, c1, m1, m2⟩ := PairsO.get hvr hlt
        obtain ⟨P, hP⟩ : ∃ P, P = l[j] := ⟨_, rfl⟩
        rw [← hP] at c0 c1 m1 m2
        have HPE := Lib.hid hP
        obtain ⟨p1, p2⟩ := P
        clear hP
        dsimp only at c0 c1 m1 m2
        obtain ⟨o_t, hbt⟩ := new1 wr [.string p1, .string p2] 105
        have hb2 := belowB hbr hwr hbt
        have hgt := o_t.lt
        go_upto_region 6 with (fail)
        generalize (wr.alloc (.cells #[.string p1, .string p2] 105)) = wt at o_t hb2 hbt hgt ⊢
        have hvt := hvr.below hbt
        clear c0 c1 hbr hbt hvr
        generalize wr.heap.size = g at o_t hgt hwr ⊢
        have t0 : wt.cell? ⟨g, 0, none⟩ = some (.string p1) := o_t.cell 0
        have t1 : wt.cell? ⟨g, 1, none⟩ = some (.string p2) := o_t.cell 1
        have HN := Lib.hid (validName4_any p1 m1 wt)
        have HV := Lib.hid (fun W => validValue4_any p2 m2 W)
        go_wp2_with fail
        refine HN.out.mono ?_
        rintro e w9 ⟨⟨bn, rfl, hbn⟩, rfl⟩
        have HBN := Lib.hid hbn
        clear hbn HN
        cases bn
        · go_wp2
          go_ret
          exact ⟨RetI.no (by decide), hb2⟩
        · go_upto_region 8 with (fail)
          rcases Nat.eq_zero_or_pos j with rfl | hj0
          · skip
            refine wp_reg_f [some 22, some 23, some 24, some 25, some 26, some 27, some 28, some 29, some 30, some 31, some 32, some 33, some 34, some 21] [?v1_0, ?v1_1, ?v1_2, ?v1_3, ?v1_4, ?v1_5, ?v1_6, ?v1_7, ?v1_8, ?v1_9, ?v1_10, ?v1_11, ?v1_12, ?v1_13] [[], [0], [1], [2], [2], [2, 4], [2, 3, 5], [2, 6], [2, 7], [2], [2, 9], [2, 8, 10], [2, 11], [12]] [(0, _), (3, _), (4, _)] ⟨rfl, rfl, rfl, trivial⟩ rfl (by kernel_rfl) rfl rfl (by kernel_rfl) (by kernel_rfl) ⟨?s1_0, ?s1_1, ?s1_2, ?s1_3, ?s1_4, ?s1_5, ?s1_6, ?s1_7, ?s1_8, ?s1_9, ?s1_10, ?s1_11, ?s1_12, ?s1_13, trivial⟩ ?p1
            all_goals try (intro t9 w9 hT9 K9 hK9; simp only [OV, FV, List.getD_cons_succ, List.getD_cons_zero, Option.getD_some]; intros)
            case s1_0 | s1_1 | s1_2 | s1_3 | s1_4 | s1_5 | s1_6 | s1_7 | s1_8 | s1_9 | s1_10 | s1_11 | s1_12 | s1_13 =>
              have d9_0 := grow_cell hT9 t0; have d9_1 := grow_cell hT9 t1
              go_simp
              exact hK9 _ (Grow.refl _)
            intro w9 hb9
            simp only [putL, Act.put, List.setIfInBounds_toArray, List.set_cons_succ, List.set_cons_zero]
            replace o_t := o_t.below hb9 hgt
            replace hb2 := belowB hb2 (by omega) hb9
            clear t0 t1 hb9
            have t0 : w9.cell? ⟨g, 0, none⟩ = some (.string p1) := o_t.cell 0
            have t1 : w9.cell? ⟨g, 1, none⟩ = some (.string p2) := o_t.cell 1
            go_wp2_with fail
            refine (HV.out _).mono ?_
            rintro e w8 ⟨⟨k, rfl, hk⟩, hb8⟩
            have hb3 := belowB hb2 (by have := hb2.size; omega) hb8
            clear hb2 hb8 o_t t0 t1
            by_cases hk0 : k = 0
            · subst hk0
              have HVO := Lib.hid (hk.1 rfl)
              clear hk
              go_wp2
              go_roundg (l.length + 1 - (0 + 1))
              case measure => omega
              case rel => exact ⟨1, rfl, by omega, by go_num, fun i h hi => by obtain rfl : i = 0 := by omega
                                                                               rw [← HPE.out]; exact ⟨HBN.out.1 (by trivial), HVO.out⟩, fun i h hi => by omega, hb3⟩
            · obtain ⟨d1, d2⟩ := ne0 hk0
              have HK := Lib.hid hk0
              clear hk hk0
              go_wp2
              go_ret
              exact ⟨RetI.no HK.out, hb3⟩
          · have hj1 : j - 1 < l.length := by omega
            obtain ⟨b', off', ee, -, k0, -, -, -⟩ := PairsO.get hvt hj1
            injection ee with ee
            injection ee with e1 e2
            subst e1 e2
            have z1 : IntKind.i64.wrap ((j : Int) - 1) = ((j - 1 : Nat) : Int) := (IntWalk.i64_in ((j : Int) - 1) (by omega)).trans (by omega)
            have d4 : decide ((0 : Int) < (j : Int)) = true := decide_eq_true (by omega)
            have d4' : decide (0 < j) = true := decide_eq_true (by omega)
            obtain ⟨P0, hP0⟩ : ∃ P0, P0 = l[j - 1].1 := ⟨_, rfl⟩
            rw [← hP0] at k0
            have HP0 := Lib.hid hP0
            clear hP0
            rcases hlt9 : Op.bytesLess P0.toList p1.toList with _ | _
            · skip
              refine wp_reg_f [some 22, some 23, some 24, some 25, some 26, some 27, some 28, some 29, some 30, some 31, some 32, some 33, some 34, some 21] [?v2_0, ?v2_1, ?v2_2, ?v2_3, ?v2_4, ?v2_5, ?v2_6, ?v2_7, ?v2_8, ?v2_9, ?v2_10, ?v2_11, ?v2_12, ?v2_13] [[], [0], [1], [2], [2], [2, 4], [2, 3, 5], [2, 6], [2, 7], [2], [2, 9], [2, 8, 10], [2, 11], [12]] [(0, _), (3, _), (4, _)] ⟨rfl, rfl, rfl, trivial⟩ rfl (by kernel_rfl) rfl rfl (by kernel_rfl) (by kernel_rfl) ⟨?s2_0, ?s2_1, ?s2_2, ?s2_3, ?s2_4, ?s2_5, ?s2_6, ?s2_7, ?s2_8, ?s2_9, ?s2_10, ?s2_11, ?s2_12, ?s2_13, trivial⟩ ?p2
              all_goals try (intro t9 w9 hT9 K9 hK9; simp only [OV, FV, List.getD_cons_succ, List.getD_cons_zero, Option.getD_some]; intros)
              case s2_0 | s2_1 | s2_2 | s2_3 | s2_4 | s2_5 | s2_6 | s2_7 | s2_8 | s2_9 | s2_10 | s2_11 | s2_12 | s2_13 =>
                have d9_0 := grow_cell hT9 t0; have d9_1 := grow_cell hT9 t1; have d9_2 := grow_cell hT9 k0
                go_simp
                exact hK9 _ (Grow.refl _)
              intro w9 hb9
              simp only [putL, Act.put, List.setIfInBounds_toArray, List.set_cons_succ, List.set_cons_zero]
              replace hb2 := belowB hb2 (by omega) hb9
              go_wp2
              go_ret
              exact ⟨RetI.no (by decide), hb2⟩
            · have HLT : Hid (ltS P0 p1 = true) := hlt9
              refine wp_reg_f [some 22, some 23, some 24, some 25, some 26, some 27, some 28, some 29, some 30, some 31, some 32, some 33, some 34, some 21] [?v3_0, ?v3_1, ?v3_2, ?v3_3, ?v3_4, ?v3_5, ?v3_6, ?v3_7, ?v3_8, ?v3_9, ?v3_10, ?v3_11, ?v3_12, ?v3_13] [[], [0], [1], [2], [2], [2, 4], [2, 3, 5], [2, 6], [2, 7], [2], [2, 9], [2, 8, 10], [2, 11], [12]] [(0, _), (3, _), (4, _)] ⟨rfl, rfl, rfl, trivial⟩ rfl (by kernel_rfl) rfl rfl (by kernel_rfl) (by kernel_rfl) ⟨?s3_0, ?s3_1, ?s3_2, ?s3_3, ?s3_4, ?s3_5, ?s3_6, ?s3_7, ?s3_8, ?s3_9, ?s3_10, ?s3_11, ?s3_12, ?s3_13, trivial⟩ ?p3
              all_goals try (intro t9 w9 hT9 K9 hK9; simp only [OV, FV, List.getD_cons_succ, List.getD_cons_zero, Option.getD_some]; intros)
              case s3_0 | s3_1 | s3_2 | s3_3 | s3_4 | s3_5 | s3_6 | s3_7 | s3_8 | s3_9 | s3_10 | s3_11 | s3_12 | s3_13 =>
                have d9_0 := grow_cell hT9 t0; have d9_1 := grow_cell hT9 t1; have d9_2 := grow_cell hT9 k0
                go_simp
                exact hK9 _ (Grow.refl _)
              intro w9 hb9
              simp only [putL, Act.put, List.setIfInBounds_toArray, List.set_cons_succ, List.set_cons_zero]
              replace o_t := o_t.below hb9 hgt
              replace hb2 := belowB hb2 (by omega) hb9
              clear t0 t1 hb9 hlt9 k0 z1 d4 d4'
              have t0 : w9.cell? ⟨g, 0, none⟩ = some (.string p1) := o_t.cell 0
              have t1 : w9.cell? ⟨g, 1, none⟩ = some (.string p2) := o_t.cell 1
              go_wp2_with fail
              refine (HV.out _).mono ?_
              rintro e w8 ⟨⟨k, rfl, hk⟩, hb8⟩
              have hb3 := belowB hb2 (by have := hb2.size; omega) hb8
              clear hb2 hb8 o_t t0 t1
              by_cases hk0 : k = 0
              · subst hk0
                have HVO := Lib.hid (hk.1 rfl)
                clear hk
                have z2 : IntKind.i64.wrap ((j : Int) + 1) = (j : Int) + 1 := IntWalk.i64_in _ (by omega)
                go_wp2
                go_roundg (l.length + 1 - (j + 1))
                case measure => omega
                case rel =>
                  refine ⟨j + 1, rfl, by omega, by go_num, fun i h hi => ?_, fun i h hi => ?_, hb3⟩
                  · by_cases e : i = j
                    · subst e; rw [← HPE.out]; exact ⟨HBN.out.1 (by trivial), HVO.out⟩
                    · exact HE.out i h (by omega)
                  · by_cases e : i + 1 = j
                    · subst e
                      have e1 := HP0.out
                      have e2 := HPE.out
                      rw [← e2]
                      simp only [Nat.add_sub_cancel] at e1
                      rw [← e1]; exact HLT.out
                    · exact HA.out i h (by omega)
              · obtain ⟨d1, d2⟩ := ne0 hk0
                have HK := Lib.hid hk0
                clear hk hk0
                go_wp2
                go_ret
                exact ⟨RetI.no HK.out, hb3⟩
      · go_wp2
        go_ret
        exact ⟨RetI.yes ⟨by omega, fun i h => HE.out i h (by omega), fun i h => HA.out i h (by omega)⟩, hbr⟩
set_option maxRecDepth 100000 in
set_option maxHeartbeats 4000000 in
theorem value6_any (nm z : ByteArray) (st : Bool) (hz : z.size ≤ maxLen) (w : World) :
    Calls Tryz.prog 92 #[.agg #[.string nm, .bool st], .string z] w fun e w' => RetI (ValueOK z) e ∧ Below w.heap.size w w' := by
  obtain ⟨o_a, hbw⟩ := new1 w [.string nm, .bool st] 64
  have hsz : (w.alloc (.cells #[.string nm, .bool st] 64)).heap.size = w.heap.size + 1 := by simp
  go_enter Tryz.func92, Tryz.ntmps92
  go_upto_region 1 with (fail)
  generalize (w.alloc (.cells #[.string nm, .bool st] 64)) = wb at o_a hbw hsz  ⊢
  obtain ⟨B, hB⟩ : ∃ B, B = w.heap.size := ⟨_, rfl⟩
  rw [← hB] at o_a hsz hbw ⊢
  have HB := Lib.hid hB
  clear hB
  have a_0 : wb.cell? ⟨B, 0, none⟩ = some (.string nm) := o_a.cell 0
  have a_1 : wb.cell? ⟨B, 1, none⟩ = some (.bool st) := o_a.cell 1
  cases st
  · go_wp2_with fail
    refine (validValue4_any z hz _).mono ?_
    rintro e w1 ⟨⟨k, rfl, hk⟩, hb1⟩
    go_wp2
    go_ret
    exact ⟨⟨k, rfl, hk.1⟩, HB.out ▸ belowB hbw (by omega) hb1⟩
  · go_wp2_with fail
    refine (parse05_any z hz _).mono ?_
    rintro e w1 ⟨⟨v, k, rfl, hk⟩, hb1⟩
    go_wp2
    go_ret
    exact ⟨⟨k, rfl, hk⟩, HB.out ▸ belowB hbw (by omega) hb1⟩
/-- Attributes with names, no two alike. -/
structure AttrsOK (l : List (ByteArray × Bool)) : Prop where
  one : 1 ≤ l.length
  few : l.length ≤ 8
  each : ∀ i (h : i < l.length), NameOK l[i].1
  diff : ∀ i k (h : i < l.length) (h' : k < l.length), i < k → l[i].1 ≠ l[k].1
set_option maxRecDepth 100000 in
set_option maxHeartbeats 4000000 in
theorem attrs6_any {S : Nat → Prop} (w : World) {v : Value} {l : List (ByteArray × Bool)} (hv : AttrsO S w v l) :
    Calls Tryz.prog 49 #[v] w fun e w' => RetII (AttrsOK l) e ∧ Below w.heap.size w w' := by
  obtain ⟨A, c, rfl, h1, h2, hv⟩ := EO.form hv
  unfold maxLen at h2
  rcases (show l.length = 0 ∨ 8 < l.length ∨ (1 ≤ l.length ∧ l.length ≤ 8) by omega) with h8 | h8 | ⟨h7, h8⟩
  · have d1 : (l.length == 0) = true := beq_iff_eq.2 h8
    have d2 : ((l.length : Int) == 0) = true := beq_iff_eq.2 (by omega)
    clear h8
    go_enter Tryz.func49, Tryz.ntmps49
    go_wp2
    all_goals
      go_ret2
      exact ⟨RetII.no (by decide), Below.refl _ _⟩
  · have d1 : (l.length == 0) = false := beq_eq_false_iff_ne.2 (by omega)
    have d2 : ((l.length : Int) == 0) = false := beq_eq_false_iff_ne.2 (by omega)
    have d3 : decide (8 < l.length) = true := decide_eq_true h8
    have d4 : decide ((8 : Int) < (l.length : Int)) = true := decide_eq_true (by omega)
    go_enter Tryz.func49, Tryz.ntmps49
    go_wp2
    go_ret2
    exact ⟨RetII.no (by decide), Below.refl _ _⟩
  · have d1 : (l.length == 0) = false := beq_eq_false_iff_ne.2 (by omega)
    have d2 : ((l.length : Int) == 0) = false := beq_eq_false_iff_ne.2 (by omega)
    have d3 : decide (8 < l.length) = false := decide_eq_false (by omega)
    have d4 : decide ((8 : Int) < (l.length : Int)) = false := decide_eq_false (by omega)
    go_enter Tryz.func49, Tryz.ntmps49
    go_wp2_with fail
    clear d1 d2 d3 d4
    go_loopg [16] (l.length + 1) (fun q v wr => ∃ j : Nat, q = l.length + 1 - j ∧ j ≤ l.length ∧ v = .int .i64 (j : Int) ∧ Hid (∀ i (h : i < l.length), i < j → NameOK l[i].1) ∧ Hid (∀ i k (h : i < l.length) (h' : k < l.length), i < k → k < j → l[i].1 ≠ l[k].1) ∧ Below w.heap.size w wr)
    case atStart => exact ⟨0, rfl, Nat.zero_le _, rfl, fun _ _ h => absurd h (Nat.not_lt_zero _), fun _ _ _ _ _ h => absurd h (Nat.not_lt_zero _), Below.refl _ _⟩
    case round =>
      obtain ⟨j, rfl, hj, rfl, HE, HA, hbr⟩ := hrel
      have hwr := hbr.size
      by_cases hlt : j < l.length
      · have hvr := hv.below hbr
        obtain ⟨b, off, rfl, -, c0, c1, m1⟩ := AttrsO.get hvr hlt
        obtain ⟨P, hP⟩ : ∃ P, P = l[j] := ⟨_, rfl⟩
        rw [← hP] at c0 c1 m1
        have HPE := Lib.hid hP
        obtain ⟨p1, p2⟩ := P
        clear hP
        dsimp only at c0 c1 m1
        obtain ⟨o_t, hbt⟩ := new1 wr [.string p1, .bool p2] 64
        have hb2 := belowB hbr hwr hbt
        have hgt := o_t.lt
        go_upto_region 8 with (fail)
        generalize (wr.alloc (.cells #[.string p1, .bool p2] 64)) = wt at o_t hb2 hbt hgt ⊢
        have hvt := hvr.below hbt
        clear c0 c1 hbr hbt hvr
        generalize wr.heap.size = g at o_t hgt hwr ⊢
        have t0 : wt.cell? ⟨g, 0, none⟩ = some (.string p1) := o_t.cell 0
        have HN := Lib.hid (validName4_any p1 m1 wt)
        go_wp2_with fail
        refine HN.out.mono ?_
        rintro e w9 ⟨⟨bn, rfl, hbn⟩, rfl⟩
        have HBN := Lib.hid hbn
        clear hbn HN
        cases bn
        · go_wp2
          go_ret2
          exact ⟨RetII.no (by decide), hb2⟩
        · go_wp2_with fail
          go_loopg [30] (j + 1) (fun q v wx => ∃ k : Nat, q = j + 1 - k ∧ k ≤ j ∧ v = .int .i64 (k : Int) ∧ Hid (∀ i (h : i < l.length), i < k → l[i].1 ≠ p1) ∧ Below w9.heap.size w9 wx)
          case atStart => exact ⟨0, rfl, Nat.zero_le _, rfl, fun _ _ h => absurd h (Nat.not_lt_zero _), Below.refl _ _⟩
          case round =>
            obtain ⟨k, rfl, hk, rfl, HK, hbx⟩ := hrel
            have hwx := hbx.size
            have o_x := o_t.below hbx hgt
            have x0 : wr.cell? ⟨g, 0, none⟩ = some (.string p1) := o_x.cell 0
            have hbB := belowB hb2 (by have := hb2.size; omega) hbx
            by_cases hkl : k < j
            · have hvx := hvt.below hbx
              obtain ⟨b', off', ee, -, k0, k1, -⟩ := AttrsO.get hvx (show k < l.length by omega)
              injection ee with ee
              injection ee with e1 e2
              subst e1 e2
              obtain ⟨Q, hQ⟩ : ∃ Q, Q = l[k]'(by omega) := ⟨_, rfl⟩
              rw [← hQ] at k0 k1
              have HQ := Lib.hid hQ
              obtain ⟨q1, q2⟩ := Q
              clear hQ
              dsimp only at k0 k1
              obtain ⟨o_y, hby⟩ := new1 wr [.string q1, .bool q2] 64
              have hbB2 := belowB hbB (by omega) hby
              have hbx2 := belowB hbx (by omega) hby
              have o_x2 := o_x.below hby (by omega)
              go_upto_region 13 with (fail)
              generalize (wr.alloc (.cells #[.string q1, .bool q2] 64)) = wy at o_y hbB2 hbx2 o_x2 ⊢
              generalize wr.heap.size = g2 at o_y ⊢
              clear k0 k1 hbx hbB o_x x0 hvx hby
              have y0 : wy.cell? ⟨g2, 0, none⟩ = some (.string q1) := o_y.cell 0
              have x0 : wy.cell? ⟨g, 0, none⟩ = some (.string p1) := o_x2.cell 0
              clear o_y o_x2
              by_cases he : p1 = q1
              · have d1 : (p1.toList == q1.toList) = true := by rw [str_beq]; exact decide_eq_true he
                clear he
                go_wp2
                go_ret2
                exact ⟨RetII.no (by decide), hbB2⟩
              · have d1 : (p1.toList == q1.toList) = false := by rw [str_beq]; exact decide_eq_false he
                have HNE : Hid (q1 ≠ p1) := fun e => he e.symm
                clear he
                go_wp2
                go_roundg (j + 1 - (k + 1))
                case measure => omega
                case rel => exact ⟨k + 1, rfl, by omega, by go_num, fun i h hi => if e : i = k then by subst e; rw [← HQ.out]; exact HNE.out else HK.out i h (by omega), hbx2⟩
            · obtain rfl : k = j := by omega
              go_wp2
              go_roundg (l.length + 1 - (k + 1))
              case measure => omega
              case rel =>
                refine ⟨k + 1, rfl, by omega, by go_num, fun i h hi => ?_, fun i k' h h' hi hk' => ?_, hbB⟩
                · by_cases e : i = k
                  · subst e; rw [← HPE.out]; exact HBN.out.1 (by trivial)
                  · exact HE.out i h (by omega)
                · by_cases e : k' = k
                  · subst e; rw [← HPE.out]; exact HK.out i h hi
                  · exact HA.out i k' h h' hi (by omega)
      · go_wp2
        go_ret2
        exact ⟨RetII.yes ⟨h7, h8, fun i h => HE.out i h (by omega), fun i k h h' hik => HA.out i k h h' hik (by omega)⟩, hbr⟩
/-- Tokens with a value for each attribute. -/
structure ToksOK (C : Cor) : Prop where
  few : C.toks.length ≤ 4096
  each : ∀ i (h : i < C.toks.length), C.toks[i].length = C.attrs.length ∧ ∀ z ∈ C.toks[i], ValueOK z
set_option maxRecDepth 100000 in
set_option maxHeartbeats 4000000 in
theorem tokens6_any {S : Nat → Prop} {a t x r n h s : Value} {C : Cor} (w : World) (q : CorC S w a t x r n h s C) :
    Calls Tryz.prog 50 #[.agg #[a, t, x, r, n, h, s]] w fun e w' => RetII (ToksOK C) e ∧ Below w.heap.size w w' := by
  obtain ⟨A1, c1, rfl, u1, u2, -⟩ := EO.form q.a
  obtain ⟨A, c, rfl, h1, h2, -⟩ := EO.form q.t
  obtain ⟨o_c, hbw⟩ := new1 w [.slice A1 C.attrs.length c1, .slice A C.toks.length c, x, r, n, h, s] 30
  have q' := q.below hbw
  have hsz : (w.alloc (.cells #[.slice A1 C.attrs.length c1, .slice A C.toks.length c, x, r, n, h, s] 30)).heap.size = w.heap.size + 1 := by simp
  go_enter Tryz.func50, Tryz.ntmps50
  go_upto_region 1 with (fail)
  generalize (w.alloc (.cells #[.slice A1 C.attrs.length c1, .slice A C.toks.length c, x, r, n, h, s] 30)) = wb at o_c hbw hsz q' ⊢
  obtain ⟨B, hB⟩ : ∃ B, B = w.heap.size := ⟨_, rfl⟩
  rw [← hB] at o_c hsz hbw ⊢
  have HB := Lib.hid hB
  clear hB
  clear q
  unfold maxLen at h2 u2
  have c_0 : wb.cell? ⟨B, 0, none⟩ = some (.slice A1 C.attrs.length c1) := o_c.cell 0
  have c_1 : wb.cell? ⟨B, 1, none⟩ = some (.slice A C.toks.length c) := o_c.cell 1
  by_cases h8 : 4096 < C.toks.length
  · have d1 : decide (4096 < C.toks.length) = true := decide_eq_true h8
    have d2 : decide ((4096 : Int) < (C.toks.length : Int)) = true := decide_eq_true (by omega)
    go_wp2
    go_ret2
    exact ⟨RetII.no (by decide), HB.out ▸ hbw⟩
  · have d1 : decide (4096 < C.toks.length) = false := decide_eq_false h8
    have d2 : decide ((4096 : Int) < (C.toks.length : Int)) = false := decide_eq_false (by omega)
    go_wp2_with fail
    clear d1 d2 c_0 c_1
    go_loopg [16] (C.toks.length + 1) (fun q v wr => ∃ j : Nat, q = C.toks.length + 1 - j ∧ j ≤ C.toks.length ∧ v = .int .i64 (j : Int) ∧ Hid (∀ i (h : i < C.toks.length), i < j → C.toks[i].length = C.attrs.length ∧ ∀ z ∈ C.toks[i], ValueOK z) ∧ Below wb.heap.size wb wr)
    case atStart => exact ⟨0, rfl, Nat.zero_le _, rfl, fun _ _ h => absurd h (Nat.not_lt_zero _), Below.refl _ _⟩
    case round =>
      obtain ⟨j, rfl, hj, rfl, HE, hbr⟩ := hrel
      have hwr := hbr.size
      have hbB := hbw.trans (hbr.mono (by omega))
      have o_c' := o_c.below hbr (by omega)
      have c_0 : wr.cell? ⟨B, 0, none⟩ = some (.slice A1 C.attrs.length c1) := o_c'.cell 0
      by_cases hlt : j < C.toks.length
      · have qr := q'.below hbr
        obtain ⟨b, off, rv, rfl, -, k0, hrow⟩ := RowsO.get qr.t hlt
        obtain ⟨A2, c2, rfl, g1, g2, hrow⟩ := EO.form hrow
        unfold maxLen at g2
        obtain ⟨R, hR⟩ : ∃ R, R = C.toks[j] := ⟨_, rfl⟩
        rw [← hR] at k0 hrow g1
        have HR := Lib.hid hR
        clear hR
        by_cases hlen : R.length = C.attrs.length
        · have d1 : ((R.length : Int) == (C.attrs.length : Int)) = true := beq_iff_eq.2 (by omega)
          have d2 : (R.length == C.attrs.length) = true := beq_iff_eq.2 hlen
          have d3 : ((R.length : Int) != (C.attrs.length : Int)) = false := by rw [bne_eq_false_iff_eq]; omega
          have d4 : (R.length != C.attrs.length) = false := by rw [bne_eq_false_iff_eq]; exact hlen
          have HL := Lib.hid hlen
          have hlen' : R.length ≤ C.attrs.length := by omega
          clear hlen
          go_wp2_with fail
          clear d1 d2 d3 d4 k0 c_0
          go_loopg [30] (R.length + 1) (fun q v wx => ∃ k : Nat, q = R.length + 1 - k ∧ k ≤ R.length ∧ v = .int .i64 (k : Int) ∧ Hid (∀ i (h : i < R.length), i < k → ValueOK R[i]) ∧ Below wr.heap.size wr wx)
          case atStart => exact ⟨0, rfl, Nat.zero_le _, rfl, fun _ _ h => absurd h (Nat.not_lt_zero _), Below.refl _ _⟩
          case round =>
            obtain ⟨k, rfl, hk, rfl, HK, hbx⟩ := hrel
            have hwx := hbx.size
            have hbB2 := hbB.trans (hbx.mono (by omega))
            have o_x := o_c'.below hbx (by omega)
            by_cases hkl : k < R.length
            · have qx := qr.below hbx
              have hrx := hrow.below hbx
              obtain ⟨b2, off2, rfl, -, s0, hsz⟩ := StrsO.get hrx hkl
              obtain ⟨b3, off3, rfl, -, a0, a1, -⟩ := AttrsO.get qx.a (show k < C.attrs.length by omega)
              have c_0 : wr.cell? ⟨B, 0, none⟩ = some (.slice (some ⟨b3, off3, none⟩) C.attrs.length c1) := o_x.cell 0
              obtain ⟨z, hz⟩ : ∃ z, z = R[k] := ⟨_, rfl⟩
              rw [← hz] at s0 hsz
              have HZ := Lib.hid hz
              clear hz
              generalize (C.attrs[k]'(by omega)).1 = an at a0
              generalize (C.attrs[k]'(by omega)).2 = ab at a1
              have HV := Lib.hid (fun W => value6_any an z ab hsz W)
              have dka : decide ((k : Int) < (C.attrs.length : Int)) = true := decide_eq_true (by omega)
              clear hrx qx
              go_wp2_with fail
              refine (HV.out _).mono ?_
              rintro e w8 ⟨⟨kk, rfl, hkk⟩, hb8⟩
              have hbB3 := belowB hbB2 (by omega) hb8
              have hbx2 := belowB hbx (by omega) hb8
              clear hb8 HV s0 a0 a1 c_0 dka
              by_cases hk0 : kk = 0
              · subst hk0
                have HVO := Lib.hid (hkk rfl)
                clear hkk
                go_wp2
                go_roundg (R.length + 1 - (k + 1))
                case measure => omega
                case rel => exact ⟨k + 1, rfl, by omega, by go_num, fun i h hi => if e : i = k then by subst e; rw [← HZ.out]; exact HVO.out else HK.out i h (by omega), hbx2⟩
              · obtain ⟨d1, d2⟩ := ne0 hk0
                have HKK := Lib.hid hk0
                clear hkk hk0
                go_wp2
                go_ret2
                exact ⟨RetII.no HKK.out, HB.out ▸ hbB3⟩
            · obtain rfl : k = R.length := by omega
              go_wp2
              go_roundg (C.toks.length + 1 - (j + 1))
              case measure => omega
              case rel =>
                refine ⟨j + 1, rfl, by omega, by go_num, fun i h hi => ?_, hbr.trans (hbx.mono hwr)⟩
                by_cases e : i = j
                · subst e
                  rw [← HR.out]
                  refine ⟨HL.out, fun z hz => ?_⟩
                  obtain ⟨m, hm, rfl⟩ := List.mem_iff_getElem.1 hz
                  exact HK.out m hm hm
                · exact HE.out i h (by omega)
        · have d1 : ((R.length : Int) == (C.attrs.length : Int)) = false := beq_eq_false_iff_ne.2 (by omega)
          have d2 : (R.length == C.attrs.length) = false := beq_eq_false_iff_ne.2 hlen
          have d3 : ((R.length : Int) != (C.attrs.length : Int)) = true := by rw [bne_iff_ne]; omega
          have d4 : (R.length != C.attrs.length) = true := by rw [bne_iff_ne]; exact hlen
          clear hlen
          go_wp2
          go_ret2
          exact ⟨RetII.no (by decide), HB.out ▸ hbB⟩
      · go_wp2
        go_ret2
        exact ⟨RetII.yes ⟨by omega, fun i h => HE.out i h (by omega)⟩, HB.out ▸ hbB⟩
/-- The first j texts are right and end at z. -/
structure TextsTo (l : List Spn) (n : Nat) (j : Nat) (z : Int) : Prop where
  name : ∀ i (h : i < l.length), i < j → NameOK l[i].name
  diff : ∀ i k (h : i < l.length) (h' : k < l.length), i < k → k < j → l[i].name ≠ l[k].name
  keys : ∀ i (h : i < l.length), i < j → PairsOK l[i].keys
  span : ∀ i (h : i < l.length), i < j → 0 ≤ l[i].lo ∧ l[i].lo < l[i].hi ∧ l[i].hi ≤ z ∧ z ≤ n ∧ (i + 1 = l.length → l[i].hi = (n : Int))
  next : ∀ i (h : i + 1 < l.length), i + 1 < j → l[i + 1].lo = l[i].hi
  frst : ∀ (h : 0 < l.length), 0 < j → l[0].lo = 0
  last : (j = 0 → z = 0) ∧ ∀ (h : j - 1 < l.length), 0 < j → z = l[j - 1].hi
theorem TextsTo.zero (l : List Spn) (n : Nat) : TextsTo l n 0 0 :=
  ⟨fun _ _ h => absurd h (Nat.not_lt_zero _), fun _ _ _ _ _ h => absurd h (Nat.not_lt_zero _), fun _ _ h => absurd h (Nat.not_lt_zero _), fun _ _ h => absurd h (Nat.not_lt_zero _), fun _ _ h => absurd h (Nat.not_lt_zero _), fun _ h => absurd h (Nat.not_lt_zero _), ⟨fun _ => rfl, fun _ h => absurd h (Nat.not_lt_zero _)⟩⟩
theorem TextsTo.step {l : List Spn} {n j : Nat} {z : Int} (H : TextsTo l n j z) (hj : j < l.length) {t : Spn} (ht : t = l[j]) (hn : NameOK t.name) (hd : ∀ i (h : i < l.length), i < j → l[i].name ≠ t.name) (hz : t.lo = z) (h1 : t.lo < t.hi) (h2 : t.hi ≤ (n : Int)) (h3 : j + 1 = l.length → t.hi = (n : Int)) (hk : PairsOK t.keys) : TextsTo l n (j + 1) t.hi := by
  subst ht
  have hz0 : 0 ≤ z := by
    rcases Nat.eq_zero_or_pos j with e | e
    · rw [H.last.1 e]; exact Int.le_refl _
    · have h4 := H.last.2 (by omega) e
      have h5 := H.span (j - 1) (by omega) (by omega)
      omega
  refine ⟨fun i h hi => ?_, fun i k h h' hik hk' => ?_, fun i h hi => ?_, fun i h hi => ?_, fun i h hi => ?_, fun h _ => ?_, ⟨fun h => absurd h (by omega), fun _ _ => by simp⟩⟩
  · by_cases e : i = j
    · subst e; exact hn
    · exact H.name i h (by omega)
  · by_cases e : k = j
    · subst e; exact hd i h hik
    · exact H.diff i k h h' hik (by omega)
  · by_cases e : i = j
    · subst e; exact hk
    · exact H.keys i h (by omega)
  · by_cases e : i = j
    · subst e; exact ⟨by omega, h1, Int.le_refl _, h2, h3⟩
    · have := H.span i h (by omega)
      exact ⟨this.1, this.2.1, by omega, h2, fun e2 => by omega⟩
  · by_cases e : i + 1 = j
    · subst e
      have := H.last.2 (by omega) (by omega)
      simp only [Nat.add_sub_cancel] at this
      rw [hz]; exact this
    · exact H.next i h (by omega)
  · rcases Nat.eq_zero_or_pos j with e | e
    · subst e; rw [hz]; exact H.last.1 rfl
    · exact H.frst h e
/-- Texts that share the tokens out. -/
structure TextsOK (C : Cor) : Prop where
  few : C.texts.length ≤ 64
  none : C.texts.length = 0 ↔ C.toks.length = 0
  all : ∃ z, TextsTo C.texts C.toks.length C.texts.length z
set_option maxRecDepth 100000 in
set_option maxHeartbeats 4000000 in
theorem texts6_any {S : Nat → Prop} {a t x r n h s : Value} {C : Cor} (w : World) (q : CorC S w a t x r n h s C) :
    Calls Tryz.prog 51 #[.agg #[a, t, x, r, n, h, s]] w fun e w' => RetII (TextsOK C) e ∧ Below w.heap.size w w' := by
  obtain ⟨A0, c0, rfl, u1, u2, -⟩ := EO.form q.t
  obtain ⟨A, c, rfl, h1, h2, -⟩ := EO.form q.x
  obtain ⟨o_c, hbw⟩ := new1 w [a, .slice A0 C.toks.length c0, .slice A C.texts.length c, r, n, h, s] 30
  have q' := q.below hbw
  have hsz : (w.alloc (.cells #[a, .slice A0 C.toks.length c0, .slice A C.texts.length c, r, n, h, s] 30)).heap.size = w.heap.size + 1 := by simp
  go_enter Tryz.func51, Tryz.ntmps51
  go_upto_region 1 with (fail)
  generalize (w.alloc (.cells #[a, .slice A0 C.toks.length c0, .slice A C.texts.length c, r, n, h, s] 30)) = wb at o_c hbw hsz q' ⊢
  obtain ⟨B, hB⟩ : ∃ B, B = w.heap.size := ⟨_, rfl⟩
  rw [← hB] at o_c hsz hbw ⊢
  have HB := Lib.hid hB
  clear hB
  clear q
  unfold maxLen at h2 u2
  have c_1 : wb.cell? ⟨B, 1, none⟩ = some (.slice A0 C.toks.length c0) := o_c.cell 1
  have c_2 : wb.cell? ⟨B, 2, none⟩ = some (.slice A C.texts.length c) := o_c.cell 2
  rcases (show 64 < C.texts.length ∨ (C.texts.length ≤ 64 ∧ C.texts.length = 0 ∧ C.toks.length ≠ 0) ∨ (C.texts.length ≤ 64 ∧ C.texts.length ≠ 0 ∧ C.toks.length = 0) ∨ (C.texts.length ≤ 64 ∧ (C.texts.length = 0 ↔ C.toks.length = 0)) by omega) with h8 | h8 | h8 | ⟨h8, h9⟩
  · skip
    have d1 : decide ((64 : Int) < (C.texts.length : Int)) = true := decide_eq_true (by omega)
    have d1n : decide (64 < C.texts.length) = true := decide_eq_true (by omega)
    go_wp2
    go_ret2
    exact ⟨RetII.no (by decide), HB.out ▸ hbw⟩
  · skip
    have d1 : decide ((64 : Int) < (C.texts.length : Int)) = false := decide_eq_false (by omega)
    have d1n : decide (64 < C.texts.length) = false := decide_eq_false (by omega)
    have e1e : (((C.texts.length : Int) : Int) == (0 : Int)) = true := beq_iff_eq.2 (by omega)
    have e1d : (((C.texts.length : Int) : Int) != (0 : Int)) = false := by rw [bne_eq_false_iff_eq]; omega
    have e1ne : ((C.texts.length : Nat) == (0 : Nat)) = true := beq_iff_eq.2 (by omega)
    have e1nd : ((C.texts.length : Nat) != (0 : Nat)) = false := by rw [bne_eq_false_iff_eq]; omega
    have e2e : (((C.toks.length : Int) : Int) == (0 : Int)) = false := beq_eq_false_iff_ne.2 (by omega)
    have e2d : (((C.toks.length : Int) : Int) != (0 : Int)) = true := by rw [bne_iff_ne]; omega
    have e2ne : ((C.toks.length : Nat) == (0 : Nat)) = false := beq_eq_false_iff_ne.2 (by omega)
    have e2nd : ((C.toks.length : Nat) != (0 : Nat)) = true := by rw [bne_iff_ne]; omega
    clear h8
    go_wp2
    all_goals
      go_ret2
      exact ⟨RetII.no (by decide), HB.out ▸ hbw⟩
  · skip
    have d1 : decide ((64 : Int) < (C.texts.length : Int)) = false := decide_eq_false (by omega)
    have d1n : decide (64 < C.texts.length) = false := decide_eq_false (by omega)
    have e1e : (((C.texts.length : Int) : Int) == (0 : Int)) = false := beq_eq_false_iff_ne.2 (by omega)
    have e1d : (((C.texts.length : Int) : Int) != (0 : Int)) = true := by rw [bne_iff_ne]; omega
    have e1ne : ((C.texts.length : Nat) == (0 : Nat)) = false := beq_eq_false_iff_ne.2 (by omega)
    have e1nd : ((C.texts.length : Nat) != (0 : Nat)) = true := by rw [bne_iff_ne]; omega
    have e2e : (((C.toks.length : Int) : Int) == (0 : Int)) = true := beq_iff_eq.2 (by omega)
    have e2d : (((C.toks.length : Int) : Int) != (0 : Int)) = false := by rw [bne_eq_false_iff_eq]; omega
    have e2ne : ((C.toks.length : Nat) == (0 : Nat)) = true := beq_iff_eq.2 (by omega)
    have e2nd : ((C.toks.length : Nat) != (0 : Nat)) = false := by rw [bne_eq_false_iff_eq]; omega
    clear h8
    go_wp2
    all_goals
      go_ret2
      exact ⟨RetII.no (by decide), HB.out ▸ hbw⟩
  · have H9 := Lib.hid h9
    have d1 : decide ((64 : Int) < (C.texts.length : Int)) = false := decide_eq_false (by omega)
    have d1n : decide (64 < C.texts.length) = false := decide_eq_false (by omega)
    obtain ⟨bz, hbz⟩ : ∃ bz, bz = (C.texts.length == 0) := ⟨_, rfl⟩
    have e1 : ((C.texts.length : Int) == 0) = bz := by rw [hbz, Bool.eq_iff_iff, beq_iff_eq, beq_iff_eq]; omega
    have e1n : (C.texts.length == 0) = bz := hbz.symm
    have e2 : ((C.toks.length : Int) == 0) = bz := by rw [hbz, Bool.eq_iff_iff, beq_iff_eq, beq_iff_eq]; omega
    have e2n : (C.toks.length == 0) = bz := by rw [hbz, Bool.eq_iff_iff, beq_iff_eq, beq_iff_eq]; omega
    clear hbz h9
    have e3 : (bz != bz) = false := by cases bz <;> rfl
    go_upto_block 8 with (fail)
    clear e1 e1n e2 e2n e3 d1 d1n c_1 c_2
    go_loopg [5, 28] (C.texts.length + 1) (fun q v5 v wr => ∃ (j : Nat) (z : Int), q = C.texts.length + 1 - j ∧ j ≤ C.texts.length ∧ v = .int .i64 (j : Int) ∧ v5 = .int .i64 z ∧ I64 z ∧ Hid (TextsTo C.texts C.toks.length j z) ∧ Below wb.heap.size wb wr)
    case atStart => exact ⟨0, 0, rfl, Nat.zero_le _, rfl, rfl, ⟨by decide, by decide⟩, TextsTo.zero _ _, Below.refl _ _⟩
    case round =>
      obtain ⟨j, z, rfl, hj, rfl, rfl, hz, HE, hbr⟩ := hrel
      have hwr := hbr.size
      have hbB := hbw.trans (hbr.mono (by omega))
      have o_c' := o_c.below hbr (by omega)
      have c_2 : wr.cell? ⟨B, 2, none⟩ = some (.slice A C.texts.length c) := o_c'.cell 2
      unfold I64 at hz
      by_cases hlt : j < C.texts.length
      · skip
        have qr := q'.below hbr
        obtain ⟨b, off, m, rfl, -, k0, k1, k2, k3, hm, sn, z1, z2⟩ := SpnsO.get qr.x hlt
        obtain ⟨tx, htx⟩ : ∃ tx, tx = C.texts[j] := ⟨_, rfl⟩
        rw [← htx] at k0 k1 k2 hm sn z1 z2
        have HT := Lib.hid htx
        obtain ⟨nm, l0, h0, ks⟩ := tx
        clear htx
        dsimp only at k0 k1 k2 hm sn z1 z2
        obtain ⟨Am, cm, rfl, g1, g2, hm⟩ := EO.form hm
        unfold I64 at z1 z2
        obtain ⟨o_t, hbt⟩ := new1 wr [.string nm, .int .i64 l0, .int .i64 h0, .slice Am ks.length cm] 71
        have hbB2 := belowB hbB (by omega) hbt
        have hbr2 := belowB hbr (by omega) hbt
        have o_c2 := o_c'.below hbt (by omega)
        have hgt := o_t.lt
        have hmt := hm.below hbt
        have qt := qr.below hbt
        go_upto_region 10 with (fail)
        generalize (wr.alloc (.cells #[.string nm, .int .i64 l0, .int .i64 h0, .slice Am ks.length cm] 71)) = wt at o_t hbB2 hbr2 o_c2 hgt hmt qt ⊢
        clear k0 k1 k2 k3 hm hbt o_c' c_2 hbr hbB qr
        generalize wr.heap.size = g at o_t hgt hwr ⊢
        have t0 : wt.cell? ⟨g, 0, none⟩ = some (.string nm) := o_t.cell 0
        have t1 : wt.cell? ⟨g, 1, none⟩ = some (.int .i64 l0) := o_t.cell 1
        have t2 : wt.cell? ⟨g, 2, none⟩ = some (.int .i64 h0) := o_t.cell 2
        have t3 : wt.cell? ⟨g, 3, none⟩ = some (.slice Am ks.length cm) := o_t.cell 3
        have HN := Lib.hid (validName4_any nm sn wt)
        go_wp2_with fail
        refine HN.out.mono ?_
        rintro e w9 ⟨⟨bn, rfl, hbn⟩, rfl⟩
        have HBN := Lib.hid hbn
        clear hbn HN
        cases bn
        · go_wp2
          go_ret2
          exact ⟨RetII.no (by decide), HB.out ▸ hbB2⟩
        · have c_2 : w9.cell? ⟨B, 2, none⟩ = some (.slice (some ⟨b, off, none⟩) C.texts.length c) := o_c2.cell 2
          go_wp2_with fail
          clear t0 t1 t2 t3 c_2
          go_loopg [43] (j + 1) (fun q v wx => ∃ k : Nat, q = j + 1 - k ∧ k ≤ j ∧ v = .int .i64 (k : Int) ∧ Hid (∀ i (h : i < C.texts.length), i < k → C.texts[i].name ≠ nm) ∧ Below w9.heap.size w9 wx)
          case atStart => exact ⟨0, rfl, Nat.zero_le _, rfl, fun _ _ h => absurd h (Nat.not_lt_zero _), Below.refl _ _⟩
          case round =>
            obtain ⟨k, rfl, hk, rfl, HK, hbx⟩ := hrel
            have hwx := hbx.size
            have o_x := o_t.below hbx hgt
            have o_cx := o_c2.below hbx (by omega)
            have hbB3 := belowB hbB2 (by omega) hbx
            by_cases hkl : k < j
            · have qx := qt.below hbx
              obtain ⟨b', off', m', ee, -, y0, y1, y2, y3, hm', -, -, -⟩ := SpnsO.get qx.x (show k < C.texts.length by omega)
              injection ee with ee
              injection ee with e1 e2
              subst e1 e2
              obtain ⟨Q, hQ⟩ : ∃ Q, Q = C.texts[k]'(by omega) := ⟨_, rfl⟩
              rw [← hQ] at y0 y1 y2 hm'
              have HQ := Lib.hid hQ
              obtain ⟨q1, q2, q3, q4⟩ := Q
              clear hQ
              dsimp only at y0 y1 y2 hm'
              obtain ⟨A4, c4, rfl, -, -, -⟩ := EO.form hm'
              obtain ⟨o_y, hby⟩ := new1 wr [.string q1, .int .i64 q2, .int .i64 q3, .slice A4 q4.length c4] 71
              have hbB4 := belowB hbB3 (by omega) hby
              have hbx2 := belowB hbx (by omega) hby
              have o_x2 := o_x.below hby (by omega)
              go_upto_region 15 with (fail)
              generalize (wr.alloc (.cells #[.string q1, .int .i64 q2, .int .i64 q3, .slice A4 q4.length c4] 71)) = wy at o_y hbB4 hbx2 o_x2 ⊢
              generalize wr.heap.size = g2 at o_y ⊢
              clear y0 y1 y2 y3 hbx hbB3 o_x qx hby hm'
              have y0 : wy.cell? ⟨g2, 0, none⟩ = some (.string q1) := o_y.cell 0
              have x0 : wy.cell? ⟨g, 0, none⟩ = some (.string nm) := o_x2.cell 0
              clear o_y o_x2
              by_cases he : q1 = nm
              · have d1 : (q1.toList == nm.toList) = true := by rw [str_beq]; exact decide_eq_true he
                clear he
                go_wp2
                go_ret2
                exact ⟨RetII.no (by decide), HB.out ▸ hbB4⟩
              · have d1 : (q1.toList == nm.toList) = false := by rw [str_beq]; exact decide_eq_false he
                have HNE : Hid (q1 ≠ nm) := he
                clear he
                go_wp2
                go_roundg (j + 1 - (k + 1))
                case measure => omega
                case rel => exact ⟨k + 1, rfl, by omega, by go_num, fun i h hi => if e : i = k then by subst e; rw [← HQ.out]; exact HNE.out else HK.out i h (by omega), hbx2⟩
            · obtain rfl : k = j := by omega
              have t0 : wr.cell? ⟨g, 0, none⟩ = some (.string nm) := o_x.cell 0
              have t1 : wr.cell? ⟨g, 1, none⟩ = some (.int .i64 l0) := o_x.cell 1
              have t2 : wr.cell? ⟨g, 2, none⟩ = some (.int .i64 h0) := o_x.cell 2
              have t3 : wr.cell? ⟨g, 3, none⟩ = some (.slice Am ks.length cm) := o_x.cell 3
              have c_2 : wr.cell? ⟨B, 2, none⟩ = some (.slice (some ⟨b, off, none⟩) C.texts.length c) := o_cx.cell 2
              have zl : IntKind.i64.wrap ((C.texts.length : Int) - 1) = ((C.texts.length - 1 : Nat) : Int) := (IntWalk.i64_in ((C.texts.length : Int) - 1) (by omega)).trans (by omega)
              have hmx := hmt.below hbx
              rcases (show l0 ≠ z ∨ (l0 = z ∧ h0 ≤ l0) ∨ (l0 = z ∧ l0 < h0 ∧ (C.toks.length : Int) < h0) ∨ (l0 = z ∧ l0 < h0 ∧ h0 ≤ (C.toks.length : Int) ∧ k + 1 = C.texts.length ∧ h0 ≠ (C.toks.length : Int)) ∨ (l0 = z ∧ l0 < h0 ∧ h0 ≤ (C.toks.length : Int) ∧ k + 1 = C.texts.length ∧ h0 = (C.toks.length : Int)) ∨ (l0 = z ∧ l0 < h0 ∧ h0 ≤ (C.toks.length : Int) ∧ k + 1 ≠ C.texts.length) by omega) with hc | hc | hc | hc | hc | hc
              · skip
                have ae : ((l0 : Int) == (z : Int)) = false := beq_eq_false_iff_ne.2 (by omega)
                have ad : ((l0 : Int) != (z : Int)) = true := by rw [bne_iff_ne]; omega
                clear hc
                clear hmx
                go_wp2
                go_ret2
                exact ⟨RetII.no (by decide), HB.out ▸ hbB3⟩
              · skip
                have ae : ((l0 : Int) == (z : Int)) = true := beq_iff_eq.2 (by omega)
                have ad : ((l0 : Int) != (z : Int)) = false := by rw [bne_eq_false_iff_eq]; omega
                have b1 : decide (h0 ≤ l0) = true := decide_eq_true (by omega)
                clear hc
                clear hmx
                go_wp2
                go_ret2
                exact ⟨RetII.no (by decide), HB.out ▸ hbB3⟩
              · skip
                have ae : ((l0 : Int) == (z : Int)) = true := beq_iff_eq.2 (by omega)
                have ad : ((l0 : Int) != (z : Int)) = false := by rw [bne_eq_false_iff_eq]; omega
                have b1 : decide (h0 ≤ l0) = false := decide_eq_false (by omega)
                have b2 : decide ((C.toks.length : Int) < h0) = true := decide_eq_true (by omega)
                clear hc
                clear hmx
                go_wp2
                go_ret2
                exact ⟨RetII.no (by decide), HB.out ▸ hbB3⟩
              · skip
                have ae : ((l0 : Int) == (z : Int)) = true := beq_iff_eq.2 (by omega)
                have ad : ((l0 : Int) != (z : Int)) = false := by rw [bne_eq_false_iff_eq]; omega
                have b1 : decide (h0 ≤ l0) = false := decide_eq_false (by omega)
                have b2 : decide ((C.toks.length : Int) < h0) = false := decide_eq_false (by omega)
                have c5e : (((k : Int) : Int) == (((C.texts.length - 1 : Nat) : Int) : Int)) = true := beq_iff_eq.2 (by omega)
                have c5d : (((k : Int) : Int) != (((C.texts.length - 1 : Nat) : Int) : Int)) = false := by rw [bne_eq_false_iff_eq]; omega
                have c5ne : ((k : Nat) == (C.texts.length - 1 : Nat)) = true := beq_iff_eq.2 (by omega)
                have c5nd : ((k : Nat) != (C.texts.length - 1 : Nat)) = false := by rw [bne_eq_false_iff_eq]; omega
                have c6e : ((h0 : Int) == ((C.toks.length : Int) : Int)) = false := beq_eq_false_iff_ne.2 (by omega)
                have c6d : ((h0 : Int) != ((C.toks.length : Int) : Int)) = true := by rw [bne_iff_ne]; omega
                clear hc
                clear hmx
                go_wp2
                go_ret2
                exact ⟨RetII.no (by decide), HB.out ▸ hbB3⟩
              · skip
                have HC : Hid (l0 = z ∧ l0 < h0 ∧ h0 ≤ (C.toks.length : Int) ∧ (k + 1 = C.texts.length → h0 = (C.toks.length : Int))) := ⟨hc.1, hc.2.1, hc.2.2.1, fun h => by omega⟩
                have ae : ((l0 : Int) == (z : Int)) = true := beq_iff_eq.2 (by omega)
                have ad : ((l0 : Int) != (z : Int)) = false := by rw [bne_eq_false_iff_eq]; omega
                have b1 : decide (h0 ≤ l0) = false := decide_eq_false (by omega)
                have b2 : decide ((C.toks.length : Int) < h0) = false := decide_eq_false (by omega)
                have c5e : (((k : Int) : Int) == (((C.texts.length - 1 : Nat) : Int) : Int)) = true := beq_iff_eq.2 (by omega)
                have c5d : (((k : Int) : Int) != (((C.texts.length - 1 : Nat) : Int) : Int)) = false := by rw [bne_eq_false_iff_eq]; omega
                have c5ne : ((k : Nat) == (C.texts.length - 1 : Nat)) = true := beq_iff_eq.2 (by omega)
                have c5nd : ((k : Nat) != (C.texts.length - 1 : Nat)) = false := by rw [bne_eq_false_iff_eq]; omega
                have c6e : ((h0 : Int) == ((C.toks.length : Int) : Int)) = true := beq_iff_eq.2 (by omega)
                have c6d : ((h0 : Int) != ((C.toks.length : Int) : Int)) = false := by rw [bne_eq_false_iff_eq]; omega
                clear hc
                go_wp2_with fail
                refine (pairs6_any _ hmx).mono ?_
                rintro e w8 ⟨⟨kk, rfl, hkk⟩, hb8⟩
                have hbB5 := belowB hbB3 (by omega) hb8
                have hbr5 := belowB (hbr2.trans (hbx.mono (by omega))) (by omega) hb8
                have o_t8 := o_x.below hb8 (by omega)
                clear hmx t0 t1 t2 t3 c_2 zl
                have t2 : w8.cell? ⟨g, 2, none⟩ = some (.int .i64 h0) := o_t8.cell 2
                clear o_t8 hb8
                by_cases hk0 : kk = 0
                · subst hk0
                  have HVO := Lib.hid (hkk rfl)
                  clear hkk
                  go_wp2
                  go_roundg (C.texts.length + 1 - (k + 1))
                  case measure => omega
                  case rel => exact ⟨k + 1, h0, rfl, by omega, by go_num, rfl, z2, HE.out.step hlt HT.out (HBN.out.1 (by trivial)) (fun i h hi => HK.out i h hi) HC.out.1 HC.out.2.1 HC.out.2.2.1 HC.out.2.2.2 HVO.out, hbr5⟩
                · obtain ⟨d1, d2⟩ := ne0 hk0
                  have HKK := Lib.hid hk0
                  clear hkk hk0
                  go_wp2
                  go_ret2
                  exact ⟨RetII.no HKK.out, HB.out ▸ hbB5⟩
              · skip
                have HC : Hid (l0 = z ∧ l0 < h0 ∧ h0 ≤ (C.toks.length : Int) ∧ (k + 1 = C.texts.length → h0 = (C.toks.length : Int))) := ⟨hc.1, hc.2.1, hc.2.2.1, fun h => by omega⟩
                have ae : ((l0 : Int) == (z : Int)) = true := beq_iff_eq.2 (by omega)
                have ad : ((l0 : Int) != (z : Int)) = false := by rw [bne_eq_false_iff_eq]; omega
                have b1 : decide (h0 ≤ l0) = false := decide_eq_false (by omega)
                have b2 : decide ((C.toks.length : Int) < h0) = false := decide_eq_false (by omega)
                have c5e : (((k : Int) : Int) == (((C.texts.length - 1 : Nat) : Int) : Int)) = false := beq_eq_false_iff_ne.2 (by omega)
                have c5d : (((k : Int) : Int) != (((C.texts.length - 1 : Nat) : Int) : Int)) = true := by rw [bne_iff_ne]; omega
                have c5ne : ((k : Nat) == (C.texts.length - 1 : Nat)) = false := beq_eq_false_iff_ne.2 (by omega)
                have c5nd : ((k : Nat) != (C.texts.length - 1 : Nat)) = true := by rw [bne_iff_ne]; omega
                clear hc
                go_wp2_with fail
                refine (pairs6_any _ hmx).mono ?_
                rintro e w8 ⟨⟨kk, rfl, hkk⟩, hb8⟩
                have hbB5 := belowB hbB3 (by omega) hb8
                have hbr5 := belowB (hbr2.trans (hbx.mono (by omega))) (by omega) hb8
                have o_t8 := o_x.below hb8 (by omega)
                clear hmx t0 t1 t2 t3 c_2 zl
                have t2 : w8.cell? ⟨g, 2, none⟩ = some (.int .i64 h0) := o_t8.cell 2
                clear o_t8 hb8
                by_cases hk0 : kk = 0
                · subst hk0
                  have HVO := Lib.hid (hkk rfl)
                  clear hkk
                  go_wp2
                  go_roundg (C.texts.length + 1 - (k + 1))
                  case measure => omega
                  case rel => exact ⟨k + 1, h0, rfl, by omega, by go_num, rfl, z2, HE.out.step hlt HT.out (HBN.out.1 (by trivial)) (fun i h hi => HK.out i h hi) HC.out.1 HC.out.2.1 HC.out.2.2.1 HC.out.2.2.2 HVO.out, hbr5⟩
                · obtain ⟨d1, d2⟩ := ne0 hk0
                  have HKK := Lib.hid hk0
                  clear hkk hk0
                  go_wp2
                  go_ret2
                  exact ⟨RetII.no HKK.out, HB.out ▸ hbB5⟩
      · go_wp2
        go_ret2
        exact ⟨RetII.yes ⟨h8, H9.out, (show j = C.texts.length by omega) ▸ ⟨z, HE.out⟩⟩, HB.out ▸ hbB⟩
end Go.Proofs.YtfenjklilocjgaaGreatDoor
