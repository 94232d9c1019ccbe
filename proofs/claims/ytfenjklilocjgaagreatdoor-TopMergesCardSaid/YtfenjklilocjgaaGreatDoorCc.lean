/- Parts of the proof: Cc. No condition of its own. -/
import Derived.Test.YtfenjklilocjgaaGreatDoorCb
import Derived.Test.YtfenjklilocjgaaGreatDoorReg
set_option linter.unusedSimpArgs false
set_option linter.unusedVariables false
set_option linter.unusedSectionVars false
namespace Go.Proofs.YtfenjklilocjgaaGreatDoor
set_option linter.unusedSimpArgs false
set_option linter.unusedVariables false
set_option linter.unusedSectionVars false
open Go.RowKit

/-- Bytewise less. -/
def ltS (a b : ByteArray) : Bool := Op.bytesLess a.toList b.toList
theorem bytesLess_iff : ∀ (x y : List UInt8), Op.bytesLess x y = decide (x < y)
  | [], [] => by simp [Op.bytesLess]
  | [], _ :: _ => by simp [Op.bytesLess]
  | _ :: _, [] => by simp [Op.bytesLess]
  | a :: x, b :: y => by
    have ih := bytesLess_iff x y
    rw [Bool.eq_iff_iff, decide_eq_true_iff, List.cons_lt_cons_iff]
    simp only [Op.bytesLess]
    rw [ih]
    simp
theorem ltS_iff {a b : ByteArray} : ltS a b = true ↔ a.data.toList < b.data.toList := by
  unfold ltS
  rw [bytesLess_iff, decide_eq_true_iff, ByteArray.toList_eq, ByteArray.toList_eq]
theorem ltS_irrefl (a : ByteArray) : ltS a a = false := by
  rw [Bool.eq_false_iff, ne_eq, ltS_iff]
  exact List.lt_irrefl _
theorem ltS_trans {a b c : ByteArray} (h : ltS a b = true) (h' : ltS b c = true) : ltS a c = true := by
  rw [ltS_iff] at *
  exact List.lt_trans h h'
theorem bytes_ext {s t : ByteArray} (h : s.data.toList = t.data.toList) : s = t := by
  cases s; cases t
  simp only [ByteArray.mk.injEq]
  exact Array.toList_inj.1 h
theorem ltS_total (a b : ByteArray) : ltS a b = true ∨ a = b ∨ ltS b a = true := by
  rw [ltS_iff, ltS_iff]
  rcases Decidable.em (a.data.toList < b.data.toList) with h | h
  · exact .inl h
  rcases Decidable.em (b.data.toList < a.data.toList) with h2 | h2
  · exact .inr (.inr h2)
  · exact .inr (.inl (bytes_ext (List.le_antisymm (List.not_lt.1 h2) (List.not_lt.1 h))))
theorem ltS_asymm {a b : ByteArray} (h : ltS a b = true) : ltS b a = false := by
  cases h2 : ltS b a with
  | false => rfl
  | true => have := ltS_trans h h2; rw [ltS_irrefl] at this; cases this
theorem drop_nil9 {α : Type} {l : List α} {j : Nat} (h : l.length ≤ j) : l.drop j = [] := List.drop_eq_nil_of_le h
def cmpS (a b : ByteArray) : Int := if ltS a b = true then -1 else if a = b then 0 else 1
def sgB (b : Bool) : Int := if b then -1 else 1
def cmpK : List (ByteArray × ByteArray) → List (ByteArray × ByteArray) → Int
  | [], [] => 0
  | [], _ :: _ => -1
  | _ :: _, [] => 1
  | p :: ps, q :: qs => if p.1 = q.1 then (if p.2 = q.2 then cmpK ps qs else cmpS p.2 q.2) else cmpS p.1 q.1
def cmpG (x y : Spn) : Int := if x.lo = y.lo then (if x.hi = y.hi then (if x.name = y.name then cmpK x.keys y.keys else cmpS x.name y.name) else sgB (decide (y.hi < x.hi))) else sgB (decide (x.lo < y.lo))
theorem sign6_any (b : Bool) (w : World) : Calls Tryz.prog 133 #[.bool b] w fun e w' => e = .returned (.int .i64 (sgB b)) ∧ w' = w := by
  cases b
  all_goals
    go_enter Tryz.func133, Tryz.ntmps133
    go_wp2
    go_ret
    exact ⟨rfl, rfl⟩
theorem compare6_any (a b : ByteArray) (w : World) : Calls Tryz.prog 134 #[.string a, .string b] w fun e w' => e = .returned (.int .i64 (cmpS a b)) ∧ w' = w := by
  rcases ltS_total a b with h | h | h
  · have H : Hid (cmpS a b = -1) := if_pos h
    have d1 : Op.bytesLess a.toList b.toList = true := h
    go_enter Tryz.func134, Tryz.ntmps134
    go_wp2
    go_ret
    exact ⟨by rw [H.out]; rfl, rfl⟩
  · subst h
    have d1 : Op.bytesLess a.toList a.toList = false := ltS_irrefl a
    have H : Hid (cmpS a a = 0) := by show _ = _; unfold cmpS; rw [ltS_irrefl]; simp
    go_enter Tryz.func134, Tryz.ntmps134
    go_wp2
    go_ret
    exact ⟨by rw [H.out]; rfl, rfl⟩
  · have d1 : Op.bytesLess a.toList b.toList = false := ltS_asymm h
    have hne : a ≠ b := fun e => by rw [e, ltS_irrefl] at h; cases h
    have d2 : (a.toList == b.toList) = false := by rw [str_beq]; exact decide_eq_false hne
    have H : Hid (cmpS a b = 1) := by show _ = _; unfold cmpS; rw [ltS_asymm h, if_neg (by decide), if_neg hne]
    clear hne h
    go_enter Tryz.func134, Tryz.ntmps134
    go_wp2
    go_ret
    exact ⟨by rw [H.out]; rfl, rfl⟩
theorem compare6_grow (a b : ByteArray) (w : World) : Calls Tryz.prog 134 #[.string a, .string b] w fun e w' => e = .returned (.int .i64 (cmpS a b)) ∧ Below w.heap.size w w' := by
  refine (compare6_any a b w).mono ?_
  rintro e w' ⟨rfl, rfl⟩
  exact ⟨rfl, Below.refl _ _⟩
set_option maxRecDepth 100000 in
set_option maxHeartbeats 4000000 in
theorem cmpRegions6_any {S : Nat → Prop} (w : World) (x1 y1 : ByteArray) (x2 x3 y2 y3 : Int) (k1 k2 : List (ByteArray × ByteArray)) {m1 m2 : Value} (hk1 : PairsO S w m1 k1) (hk2 : PairsO S w m2 k2) :
    Calls Tryz.prog 95 #[.agg #[.string x1, .int .i64 x2, .int .i64 x3, m1], .agg #[.string y1, .int .i64 y2, .int .i64 y3, m2]] w fun e w' => e = .returned (.int .i64 (cmpG ⟨x1, x2, x3, k1⟩ ⟨y1, y2, y3, k2⟩)) ∧ Below w.heap.size w w' := by
  obtain ⟨A1, c1, rfl, u1, u2, hk1⟩ := EO.form hk1
  obtain ⟨A2, c2, rfl, u3, u4, hk2⟩ := EO.form hk2
  obtain ⟨o_x, o_y, hbw⟩ := new2 w [.string x1, .int .i64 x2, .int .i64 x3, .slice A1 k1.length c1] [.string y1, .int .i64 y2, .int .i64 y3, .slice A2 k2.length c2] 69 69
  have hk1' := hk1.below hbw
  have hk2' := hk2.below hbw
  have hsz : ((w.alloc (.cells #[.string x1, .int .i64 x2, .int .i64 x3, .slice A1 k1.length c1] 69)).alloc (.cells #[.string y1, .int .i64 y2, .int .i64 y3, .slice A2 k2.length c2] 69)).heap.size = w.heap.size + 1 + 1 := by simp
  go_enter Tryz.func95, Tryz.ntmps95
  go_upto_region 1 with (fail)
  generalize ((w.alloc (.cells #[.string x1, .int .i64 x2, .int .i64 x3, .slice A1 k1.length c1] 69)).alloc (.cells #[.string y1, .int .i64 y2, .int .i64 y3, .slice A2 k2.length c2] 69)) = wb at o_x o_y hbw hsz hk1' hk2' ⊢
  obtain ⟨B, hB⟩ : ∃ B, B = w.heap.size := ⟨_, rfl⟩
  rw [← hB] at o_x o_y hsz hbw ⊢
  have HB := Lib.hid hB
  clear hB
  clear hk1 hk2
  unfold maxLen at u2 u4
  have x_0 : wb.cell? ⟨B, 0, none⟩ = some (.string x1) := o_x.cell 0
  have x_1 : wb.cell? ⟨B, 1, none⟩ = some (.int .i64 x2) := o_x.cell 1
  have x_2 : wb.cell? ⟨B, 2, none⟩ = some (.int .i64 x3) := o_x.cell 2
  have x_3 : wb.cell? ⟨B, 3, none⟩ = some (.slice A1 k1.length c1) := o_x.cell 3
  have y_0 : wb.cell? ⟨B + 1, 0, none⟩ = some (.string y1) := o_y.cell 0
  have y_1 : wb.cell? ⟨B + 1, 1, none⟩ = some (.int .i64 y2) := o_y.cell 1
  have y_2 : wb.cell? ⟨B + 1, 2, none⟩ = some (.int .i64 y3) := o_y.cell 2
  have y_3 : wb.cell? ⟨B + 1, 3, none⟩ = some (.slice A2 k2.length c2) := o_y.cell 3
  by_cases e1 : x2 = y2
  · subst e1
    by_cases e2 : x3 = y3
    · subst e2
      by_cases e3 : x1 = y1
      · subst e3
        have HK : Hid (cmpG ⟨x1, x2, x3, k1⟩ ⟨x1, x2, x3, k2⟩ = cmpK k1 k2) := by show _ = _; simp [cmpG]
        go_wp2_with fail
        clear x_0 x_1 x_2 x_3 y_0 y_1 y_2 y_3
        go_loopg [5] (k1.length + 1) (fun q v wr => ∃ j : Nat, q = k1.length + 1 - j ∧ j ≤ k1.length ∧ j ≤ k2.length ∧ v = .int .i64 (j : Int) ∧ Hid (cmpK k1 k2 = cmpK (k1.drop j) (k2.drop j)) ∧ Below wb.heap.size wb wr)
        case atStart => exact ⟨0, rfl, Nat.zero_le _, Nat.zero_le _, rfl, rfl, Below.refl _ _⟩
        case round =>
          obtain ⟨j, rfl, hj, hj2, rfl, HF, hbr⟩ := hrel
          have hbB : Below B w wr := hbw.trans (hbr.mono (by omega))
          have hwr := hbr.size
          have o_x' := o_x.below hbr (by omega)
          have o_y' := o_y.below hbr (by omega)
          have p1 := hk1'.below hbr
          have p2 := hk2'.below hbr
          have x_0 : wr.cell? ⟨B, 0, none⟩ = some (.string x1) := o_x'.cell 0
          have x_1 : wr.cell? ⟨B, 1, none⟩ = some (.int .i64 x2) := o_x'.cell 1
          have x_2 : wr.cell? ⟨B, 2, none⟩ = some (.int .i64 x3) := o_x'.cell 2
          have x_3 : wr.cell? ⟨B, 3, none⟩ = some (.slice A1 k1.length c1) := o_x'.cell 3
          have y_0 : wr.cell? ⟨B + 1, 0, none⟩ = some (.string x1) := o_y'.cell 0
          have y_1 : wr.cell? ⟨B + 1, 1, none⟩ = some (.int .i64 x2) := o_y'.cell 1
          have y_2 : wr.cell? ⟨B + 1, 2, none⟩ = some (.int .i64 x3) := o_y'.cell 2
          have y_3 : wr.cell? ⟨B + 1, 3, none⟩ = some (.slice A2 k2.length c2) := o_y'.cell 3
          by_cases hlt : j < k1.length ∧ j < k2.length
          · obtain ⟨hl1, hl2⟩ := hlt
            obtain ⟨b1, f1, rfl, -, a1, a2, -, -⟩ := PairsO.get p1 hl1
            obtain ⟨b2, f2, rfl, -, a3, a4, -, -⟩ := PairsO.get p2 hl2
            have HD : Hid (cmpK (k1.drop j) (k2.drop j) = if k1[j].1 = k2[j].1 then (if k1[j].2 = k2[j].2 then cmpK (k1.drop (j + 1)) (k2.drop (j + 1)) else cmpS k1[j].2 k2[j].2) else cmpS k1[j].1 k2[j].1) := by
              show _ = _
              rw [List.drop_eq_getElem_cons hl1, List.drop_eq_getElem_cons hl2]
              rfl
            have d1 : decide ((j : Int) < (k1.length : Int)) = true := decide_eq_true (by omega)
            have d2 : decide ((j : Int) < (k2.length : Int)) = true := decide_eq_true (by omega)
            generalize k1[j] = P at a1 a2 HD
            generalize k2[j] = Q at a3 a4 HD
            obtain ⟨P1, P2⟩ := P
            obtain ⟨Q1, Q2⟩ := Q
            clear p1 p2
            dsimp only at a1 a2 a3 a4 HD
            go_upto_region 10 with (fail)
            rcases Decidable.em (P1 = Q1) with e4 | e4
            · subst e4
              have d3 : (P1.toList == P1.toList) = true := by rw [str_beq]; exact decide_eq_true rfl
              refine wp_reg_f [some 55, some 56, some 57, some 58, some 59, some 60, some 61, some 62, some 63, some 64, some 65, some 66, some 67] [?v1_0, ?v1_1, ?v1_2, ?v1_3, ?v1_4, ?v1_5, ?v1_6, ?v1_7, ?v1_8, ?v1_9, ?v1_10, ?v1_11, ?v1_12] [[], [0], [], [1, 2], [3], [4], [], [6], [], [7, 8], [9], [10], [5, 11]] [(2, _), (3, _), (5, _)] ⟨rfl, rfl, rfl, trivial⟩ rfl (by kernel_rfl) rfl rfl (by kernel_rfl) (by kernel_rfl) ⟨?s1_0, ?s1_1, ?s1_2, ?s1_3, ?s1_4, ?s1_5, ?s1_6, ?s1_7, ?s1_8, ?s1_9, ?s1_10, ?s1_11, ?s1_12, trivial⟩ ?p1
              all_goals try (intro t9 w9 hT9 K9 hK9; simp only [OV, FV, List.getD_cons_succ, List.getD_cons_zero, Option.getD_some]; intros)
              case s1_0 | s1_1 | s1_2 | s1_3 | s1_4 | s1_5 | s1_6 | s1_7 | s1_8 | s1_9 | s1_10 | s1_11 | s1_12 =>
                have d9_0 := grow_cell hT9 x_3; have d9_1 := grow_cell hT9 y_3; have d9_2 := grow_cell hT9 a1; have d9_3 := grow_cell hT9 a2; have d9_4 := grow_cell hT9 a3; have d9_5 := grow_cell hT9 a4
                go_simp
                exact hK9 _ (Grow.refl _)
              intro w9 hb9
              simp only [putL, Act.put, List.setIfInBounds_toArray, List.set_cons_succ, List.set_cons_zero]
              clear d3
              replace o_x' := o_x'.below hb9 o_x'.lt
              replace o_y' := o_y'.below hb9 o_y'.lt
              replace hbB := belowB hbB (by omega) hb9
              replace hbr := belowB hbr (by omega) hb9
              replace a1 := below_cell hb9 a1
              replace a2 := below_cell hb9 a2
              replace a3 := below_cell hb9 a3
              replace a4 := below_cell hb9 a4
              have hw9 := hb9.size
              clear hb9 x_0 x_1 x_2 x_3 y_0 y_1 y_2 y_3
              obtain ⟨wq, hwq⟩ : ∃ x : World, x = w9 := ⟨_, rfl⟩
              rw [← hwq] at o_x' o_y' hbB hbr a1 a2 a3 a4 hw9 ⊢
              clear hwq w9
              have x_0 : wq.cell? ⟨B, 0, none⟩ = some (.string x1) := o_x'.cell 0
              have x_1 : wq.cell? ⟨B, 1, none⟩ = some (.int .i64 x2) := o_x'.cell 1
              have x_2 : wq.cell? ⟨B, 2, none⟩ = some (.int .i64 x3) := o_x'.cell 2
              have x_3 : wq.cell? ⟨B, 3, none⟩ = some (.slice (some ⟨b1, f1, none⟩) k1.length c1) := o_x'.cell 3
              have y_0 : wq.cell? ⟨B + 1, 0, none⟩ = some (.string x1) := o_y'.cell 0
              have y_1 : wq.cell? ⟨B + 1, 1, none⟩ = some (.int .i64 x2) := o_y'.cell 1
              have y_2 : wq.cell? ⟨B + 1, 2, none⟩ = some (.int .i64 x3) := o_y'.cell 2
              have y_3 : wq.cell? ⟨B + 1, 3, none⟩ = some (.slice (some ⟨b2, f2, none⟩) k2.length c2) := o_y'.cell 3
              go_upto_region 12 with (fail)
              rcases Decidable.em (P2 = Q2) with e5 | e5
              · subst e5
                have d3 : (P2.toList == P2.toList) = true := by rw [str_beq]; exact decide_eq_true rfl
                refine wp_reg_f [some 81, some 82, some 83, some 84, some 85, some 86, some 87, some 88, some 89, some 90, some 91, some 92, some 93] [?v2_0, ?v2_1, ?v2_2, ?v2_3, ?v2_4, ?v2_5, ?v2_6, ?v2_7, ?v2_8, ?v2_9, ?v2_10, ?v2_11, ?v2_12] [[], [0], [], [1, 2], [3], [4], [], [6], [], [7, 8], [9], [10], [5, 11]] [(2, _), (3, _), (5, _)] ⟨rfl, rfl, rfl, trivial⟩ rfl (by kernel_rfl) rfl rfl (by kernel_rfl) (by kernel_rfl) ⟨?s2_0, ?s2_1, ?s2_2, ?s2_3, ?s2_4, ?s2_5, ?s2_6, ?s2_7, ?s2_8, ?s2_9, ?s2_10, ?s2_11, ?s2_12, trivial⟩ ?p2
                all_goals try (intro t9 w9 hT9 K9 hK9; simp only [OV, FV, List.getD_cons_succ, List.getD_cons_zero, Option.getD_some]; intros)
                case s2_0 | s2_1 | s2_2 | s2_3 | s2_4 | s2_5 | s2_6 | s2_7 | s2_8 | s2_9 | s2_10 | s2_11 | s2_12 =>
                  have d9_0 := grow_cell hT9 x_3; have d9_1 := grow_cell hT9 y_3; have d9_2 := grow_cell hT9 a1; have d9_3 := grow_cell hT9 a2; have d9_4 := grow_cell hT9 a3; have d9_5 := grow_cell hT9 a4
                  go_simp
                  exact hK9 _ (Grow.refl _)
                intro w9 hb9
                simp only [putL, Act.put, List.setIfInBounds_toArray, List.set_cons_succ, List.set_cons_zero]
                clear d3
                replace hbB := belowB hbB (by omega) hb9
                replace hbr := belowB hbr (by omega) hb9
                have z1 : IntKind.i64.wrap ((j : Int) + 1) = (j : Int) + 1 := IntWalk.i64_in _ (by omega)
                go_wp2
                go_roundg (k1.length + 1 - (j + 1))
                case measure => omega
                case rel => exact ⟨j + 1, rfl, by omega, by omega, by go_num, by show _ = _; rw [HF.out, HD.out]; simp, hbr⟩
              · have d3 : (P2.toList == Q2.toList) = false := by rw [str_beq]; exact decide_eq_false e5
                have HR : Hid (cmpK k1 k2 = cmpS P2 Q2) := by show _ = _; rw [HF.out, HD.out]; simp [e5]
                clear e5
                refine wp_reg_f [some 81, some 82, some 83, some 84, some 85, some 86, some 87, some 88, some 89, some 90, some 91, some 92, some 93] [?v3_0, ?v3_1, ?v3_2, ?v3_3, ?v3_4, ?v3_5, ?v3_6, ?v3_7, ?v3_8, ?v3_9, ?v3_10, ?v3_11, ?v3_12] [[], [0], [], [1, 2], [3], [4], [], [6], [], [7, 8], [9], [10], [5, 11]] [(2, _), (3, _), (5, _)] ⟨rfl, rfl, rfl, trivial⟩ rfl (by kernel_rfl) rfl rfl (by kernel_rfl) (by kernel_rfl) ⟨?s3_0, ?s3_1, ?s3_2, ?s3_3, ?s3_4, ?s3_5, ?s3_6, ?s3_7, ?s3_8, ?s3_9, ?s3_10, ?s3_11, ?s3_12, trivial⟩ ?p3
                all_goals try (intro t9 w9 hT9 K9 hK9; simp only [OV, FV, List.getD_cons_succ, List.getD_cons_zero, Option.getD_some]; intros)
                case s3_0 | s3_1 | s3_2 | s3_3 | s3_4 | s3_5 | s3_6 | s3_7 | s3_8 | s3_9 | s3_10 | s3_11 | s3_12 =>
                  have d9_0 := grow_cell hT9 x_3; have d9_1 := grow_cell hT9 y_3; have d9_2 := grow_cell hT9 a1; have d9_3 := grow_cell hT9 a2; have d9_4 := grow_cell hT9 a3; have d9_5 := grow_cell hT9 a4
                  go_simp
                  exact hK9 _ (Grow.refl _)
                intro w9 hb9
                simp only [putL, Act.put, List.setIfInBounds_toArray, List.set_cons_succ, List.set_cons_zero]
                clear d3
                replace o_x' := o_x'.below hb9 o_x'.lt
                replace o_y' := o_y'.below hb9 o_y'.lt
                replace hbB := belowB hbB (by omega) hb9
                replace hbr := belowB hbr (by omega) hb9
                replace a1 := below_cell hb9 a1
                replace a2 := below_cell hb9 a2
                replace a3 := below_cell hb9 a3
                replace a4 := below_cell hb9 a4
                have hw9 := hb9.size
                clear hb9 x_0 x_1 x_2 x_3 y_0 y_1 y_2 y_3
                obtain ⟨wq, hwq⟩ : ∃ x : World, x = w9 := ⟨_, rfl⟩
                rw [← hwq] at o_x' o_y' hbB hbr a1 a2 a3 a4 hw9 ⊢
                clear hwq w9
                have x_0 : wq.cell? ⟨B, 0, none⟩ = some (.string x1) := o_x'.cell 0
                have x_1 : wq.cell? ⟨B, 1, none⟩ = some (.int .i64 x2) := o_x'.cell 1
                have x_2 : wq.cell? ⟨B, 2, none⟩ = some (.int .i64 x3) := o_x'.cell 2
                have x_3 : wq.cell? ⟨B, 3, none⟩ = some (.slice (some ⟨b1, f1, none⟩) k1.length c1) := o_x'.cell 3
                have y_0 : wq.cell? ⟨B + 1, 0, none⟩ = some (.string x1) := o_y'.cell 0
                have y_1 : wq.cell? ⟨B + 1, 1, none⟩ = some (.int .i64 x2) := o_y'.cell 1
                have y_2 : wq.cell? ⟨B + 1, 2, none⟩ = some (.int .i64 x3) := o_y'.cell 2
                have y_3 : wq.cell? ⟨B + 1, 3, none⟩ = some (.slice (some ⟨b2, f2, none⟩) k2.length c2) := o_y'.cell 3
                go_upto_region 13 with (fail)
                refine wp_reg_f [some 94, some 95, some 96, some 97, some 98, some 99, some 100, some 101, some 102, some 103, some 104, some 105, some 106, some 4] [?v4_0, ?v4_1, ?v4_2, ?v4_3, ?v4_4, ?v4_5, ?v4_6, ?v4_7, ?v4_8, ?v4_9, ?v4_10, ?v4_11, ?v4_12, ?v4_13] [[], [0], [], [1, 2], [3], [4], [], [6], [], [7, 8], [9], [10], [5, 11], [12]] [(2, _), (3, _), (5, _)] ⟨rfl, rfl, rfl, trivial⟩ rfl (by kernel_rfl) rfl rfl (by kernel_rfl) (by kernel_rfl) ⟨?s4_0, ?s4_1, ?s4_2, ?s4_3, ?s4_4, ?s4_5, ?s4_6, ?s4_7, ?s4_8, ?s4_9, ?s4_10, ?s4_11, ?s4_12, ?s4_13, trivial⟩ ?p4
                all_goals try (intro t9 w9 hT9 K9 hK9; simp only [OV, FV, List.getD_cons_succ, List.getD_cons_zero, Option.getD_some]; intros)
                case s4_0 | s4_1 | s4_2 | s4_3 | s4_4 | s4_5 | s4_6 | s4_7 | s4_8 | s4_9 | s4_10 | s4_11 =>
                  have d9_0 := grow_cell hT9 x_3; have d9_1 := grow_cell hT9 y_3; have d9_2 := grow_cell hT9 a1; have d9_3 := grow_cell hT9 a2; have d9_4 := grow_cell hT9 a3; have d9_5 := grow_cell hT9 a4
                  go_simp
                  exact hK9 _ (Grow.refl _)
                case s4_12 =>
                  go_simp
                  first | exact hK9 _ (Grow.refl _) | (refine (compare6_grow P2 Q2 _).mono ?_; rintro _ w8 ⟨rfl, hb8⟩; exact hK9 _ hb8)
                case s4_13 =>
                  have d9_0 := grow_cell hT9 x_3; have d9_1 := grow_cell hT9 y_3; have d9_2 := grow_cell hT9 a1; have d9_3 := grow_cell hT9 a2; have d9_4 := grow_cell hT9 a3; have d9_5 := grow_cell hT9 a4
                  go_simp
                  exact hK9 _ (Grow.refl _)
                intro w9 hb9
                simp only [putL, Act.put, List.setIfInBounds_toArray, List.set_cons_succ, List.set_cons_zero]
                replace hbB := belowB hbB (by omega) hb9
                go_wp2
                go_ret
                exact ⟨by rw [HK.out, HR.out]; rfl, HB.out ▸ hbB⟩
            · have d3 : (P1.toList == Q1.toList) = false := by rw [str_beq]; exact decide_eq_false e4
              have HR : Hid (cmpK k1 k2 = cmpS P1 Q1) := by show _ = _; rw [HF.out, HD.out]; simp [e4]
              clear e4
              refine wp_reg_f [some 55, some 56, some 57, some 58, some 59, some 60, some 61, some 62, some 63, some 64, some 65, some 66, some 67] [?v5_0, ?v5_1, ?v5_2, ?v5_3, ?v5_4, ?v5_5, ?v5_6, ?v5_7, ?v5_8, ?v5_9, ?v5_10, ?v5_11, ?v5_12] [[], [0], [], [1, 2], [3], [4], [], [6], [], [7, 8], [9], [10], [5, 11]] [(2, _), (3, _), (5, _)] ⟨rfl, rfl, rfl, trivial⟩ rfl (by kernel_rfl) rfl rfl (by kernel_rfl) (by kernel_rfl) ⟨?s5_0, ?s5_1, ?s5_2, ?s5_3, ?s5_4, ?s5_5, ?s5_6, ?s5_7, ?s5_8, ?s5_9, ?s5_10, ?s5_11, ?s5_12, trivial⟩ ?p5
              all_goals try (intro t9 w9 hT9 K9 hK9; simp only [OV, FV, List.getD_cons_succ, List.getD_cons_zero, Option.getD_some]; intros)
              case s5_0 | s5_1 | s5_2 | s5_3 | s5_4 | s5_5 | s5_6 | s5_7 | s5_8 | s5_9 | s5_10 | s5_11 | s5_12 =>
                have d9_0 := grow_cell hT9 x_3; have d9_1 := grow_cell hT9 y_3; have d9_2 := grow_cell hT9 a1; have d9_3 := grow_cell hT9 a2; have d9_4 := grow_cell hT9 a3; have d9_5 := grow_cell hT9 a4
                go_simp
                exact hK9 _ (Grow.refl _)
              intro w9 hb9
              simp only [putL, Act.put, List.setIfInBounds_toArray, List.set_cons_succ, List.set_cons_zero]
              clear d3
              replace o_x' := o_x'.below hb9 o_x'.lt
              replace o_y' := o_y'.below hb9 o_y'.lt
              replace hbB := belowB hbB (by omega) hb9
              replace hbr := belowB hbr (by omega) hb9
              replace a1 := below_cell hb9 a1
              replace a2 := below_cell hb9 a2
              replace a3 := below_cell hb9 a3
              replace a4 := below_cell hb9 a4
              have hw9 := hb9.size
              clear hb9 x_0 x_1 x_2 x_3 y_0 y_1 y_2 y_3
              obtain ⟨wq, hwq⟩ : ∃ x : World, x = w9 := ⟨_, rfl⟩
              rw [← hwq] at o_x' o_y' hbB hbr a1 a2 a3 a4 hw9 ⊢
              clear hwq w9
              have x_0 : wq.cell? ⟨B, 0, none⟩ = some (.string x1) := o_x'.cell 0
              have x_1 : wq.cell? ⟨B, 1, none⟩ = some (.int .i64 x2) := o_x'.cell 1
              have x_2 : wq.cell? ⟨B, 2, none⟩ = some (.int .i64 x3) := o_x'.cell 2
              have x_3 : wq.cell? ⟨B, 3, none⟩ = some (.slice (some ⟨b1, f1, none⟩) k1.length c1) := o_x'.cell 3
              have y_0 : wq.cell? ⟨B + 1, 0, none⟩ = some (.string x1) := o_y'.cell 0
              have y_1 : wq.cell? ⟨B + 1, 1, none⟩ = some (.int .i64 x2) := o_y'.cell 1
              have y_2 : wq.cell? ⟨B + 1, 2, none⟩ = some (.int .i64 x3) := o_y'.cell 2
              have y_3 : wq.cell? ⟨B + 1, 3, none⟩ = some (.slice (some ⟨b2, f2, none⟩) k2.length c2) := o_y'.cell 3
              go_upto_region 11 with (fail)
              refine wp_reg_f [some 68, some 69, some 70, some 71, some 72, some 73, some 74, some 75, some 76, some 77, some 78, some 79, some 80, some 4] [?v6_0, ?v6_1, ?v6_2, ?v6_3, ?v6_4, ?v6_5, ?v6_6, ?v6_7, ?v6_8, ?v6_9, ?v6_10, ?v6_11, ?v6_12, ?v6_13] [[], [0], [], [1, 2], [3], [4], [], [6], [], [7, 8], [9], [10], [5, 11], [12]] [(2, _), (3, _), (5, _)] ⟨rfl, rfl, rfl, trivial⟩ rfl (by kernel_rfl) rfl rfl (by kernel_rfl) (by kernel_rfl) ⟨?s6_0, ?s6_1, ?s6_2, ?s6_3, ?s6_4, ?s6_5, ?s6_6, ?s6_7, ?s6_8, ?s6_9, ?s6_10, ?s6_11, ?s6_12, ?s6_13, trivial⟩ ?p6
              all_goals try (intro t9 w9 hT9 K9 hK9; simp only [OV, FV, List.getD_cons_succ, List.getD_cons_zero, Option.getD_some]; intros)
              case s6_0 | s6_1 | s6_2 | s6_3 | s6_4 | s6_5 | s6_6 | s6_7 | s6_8 | s6_9 | s6_10 | s6_11 =>
                have d9_0 := grow_cell hT9 x_3; have d9_1 := grow_cell hT9 y_3; have d9_2 := grow_cell hT9 a1; have d9_3 := grow_cell hT9 a2; have d9_4 := grow_cell hT9 a3; have d9_5 := grow_cell hT9 a4
                go_simp
                exact hK9 _ (Grow.refl _)
              case s6_12 =>
                go_simp
                first | exact hK9 _ (Grow.refl _) | (refine (compare6_grow P1 Q1 _).mono ?_; rintro _ w8 ⟨rfl, hb8⟩; exact hK9 _ hb8)
              case s6_13 =>
                have d9_0 := grow_cell hT9 x_3; have d9_1 := grow_cell hT9 y_3; have d9_2 := grow_cell hT9 a1; have d9_3 := grow_cell hT9 a2; have d9_4 := grow_cell hT9 a3; have d9_5 := grow_cell hT9 a4
                go_simp
                exact hK9 _ (Grow.refl _)
              intro w9 hb9
              simp only [putL, Act.put, List.setIfInBounds_toArray, List.set_cons_succ, List.set_cons_zero]
              replace hbB := belowB hbB (by omega) hb9
              go_wp2
              go_ret
              exact ⟨by rw [HK.out, HR.out]; rfl, HB.out ▸ hbB⟩
          · rcases (show (j < k1.length ∧ j = k2.length) ∨ (j = k1.length ∧ j < k2.length) ∨ (j = k1.length ∧ j = k2.length) by omega) with ⟨i1, i2⟩ | ⟨i1, i2⟩ | ⟨i1, i2⟩
            · skip
              have HR : Hid (cmpK k1 k2 = 1) := by show _ = _; rw [HF.out, List.drop_eq_getElem_cons i1, drop_nil9 (l := k2) (by omega)]; rfl
              have d1 : decide ((j : Int) < (k1.length : Int)) = true := decide_eq_true (by omega)
              have d2 : decide ((j : Int) < (k2.length : Int)) = false := decide_eq_false (by omega)
              have d3 : ((k1.length : Int) == (k2.length : Int)) = false := beq_eq_false_iff_ne.2 (by omega)
              have d3' : (k1.length == k2.length) = false := beq_eq_false_iff_ne.2 (by omega)
              have d4 : decide ((k1.length : Int) < (k2.length : Int)) = false := decide_eq_false (by omega)
              have d4' : decide (k1.length < k2.length) = false := decide_eq_false (by omega)
              go_wp2_with (go_at_call 133; refine (sign6_any _ _).mono ?_; rintro e w' ⟨rfl, rfl⟩)
              go_ret
              exact ⟨by rw [HK.out, HR.out]; rfl, HB.out ▸ hbB⟩
            · skip
              have HR : Hid (cmpK k1 k2 = -1) := by show _ = _; rw [HF.out, List.drop_eq_getElem_cons i2, drop_nil9 (l := k1) (by omega)]; rfl
              have d1 : decide ((j : Int) < (k1.length : Int)) = false := decide_eq_false (by omega)
              have d3 : ((k1.length : Int) == (k2.length : Int)) = false := beq_eq_false_iff_ne.2 (by omega)
              have d3' : (k1.length == k2.length) = false := beq_eq_false_iff_ne.2 (by omega)
              have d4 : decide ((k1.length : Int) < (k2.length : Int)) = true := decide_eq_true (by omega)
              have d4' : decide (k1.length < k2.length) = true := decide_eq_true (by omega)
              go_wp2_with (go_at_call 133; refine (sign6_any _ _).mono ?_; rintro e w' ⟨rfl, rfl⟩)
              go_ret
              exact ⟨by rw [HK.out, HR.out]; rfl, HB.out ▸ hbB⟩
            · skip
              have HR : Hid (cmpK k1 k2 = 0) := by show _ = _; rw [HF.out, drop_nil9 (l := k1) (by omega), drop_nil9 (l := k2) (by omega)]; rfl
              have d1 : decide ((j : Int) < (k1.length : Int)) = false := decide_eq_false (by omega)
              have d3 : ((k1.length : Int) == (k2.length : Int)) = true := beq_iff_eq.2 (by omega)
              have d3' : (k1.length == k2.length) = true := beq_iff_eq.2 (by omega)
              go_wp2
              go_ret
              exact ⟨by rw [HK.out, HR.out]; rfl, HB.out ▸ hbB⟩
      · have d3 : (x1.toList == y1.toList) = false := by rw [str_beq]; exact decide_eq_false e3
        have HK : Hid (cmpG ⟨x1, x2, x3, k1⟩ ⟨y1, x2, x3, k2⟩ = cmpS x1 y1) := by show _ = _; simp [cmpG, e3]
        clear e3 hk1' hk2'
        go_wp2_with (go_at_call 134; refine (compare6_any _ _ _).mono ?_; rintro e w' ⟨rfl, rfl⟩)
        go_ret
        exact ⟨by rw [HK.out]; rfl, HB.out ▸ hbw⟩
    · have d3 : (x3 == y3) = false := beq_eq_false_iff_ne.2 e2
      have HK : Hid (cmpG ⟨x1, x2, x3, k1⟩ ⟨y1, x2, y3, k2⟩ = sgB (decide (y3 < x3))) := by show _ = _; simp [cmpG, e2]
      clear e2 hk1' hk2'
      go_wp2_with (go_at_call 133; refine (sign6_any _ _).mono ?_; rintro e w' ⟨rfl, rfl⟩)
      go_ret
      exact ⟨by rw [HK.out]; rfl, HB.out ▸ hbw⟩
  · have d3 : (x2 == y2) = false := beq_eq_false_iff_ne.2 e1
    have HK : Hid (cmpG ⟨x1, x2, x3, k1⟩ ⟨y1, y2, y3, k2⟩ = sgB (decide (x2 < y2))) := by show _ = _; simp [cmpG, e1]
    clear e1 hk1' hk2'
    go_wp2_with (go_at_call 133; refine (sign6_any _ _).mono ?_; rintro e w' ⟨rfl, rfl⟩)
    go_ret
    exact ⟨by rw [HK.out]; rfl, HB.out ▸ hbw⟩
end Go.Proofs.YtfenjklilocjgaaGreatDoor
