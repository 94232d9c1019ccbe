/- Parts of the proof: Rq8. No condition of its own. -/
import Derived.Test.YtocknfhgjmaibaaGreatDoorRp8
set_option linter.unusedSimpArgs false
set_option linter.unusedVariables false
set_option linter.unusedSectionVars false
set_option maxRecDepth 100000
set_option maxHeartbeats 8000000
namespace Go.Proofs.YtocknfhgjmaibaaGreatDoor
open Go.RowKit Dg

theorem fields_ref {a p q n : Nat} (hv : VC a p q n) (w : World) :
    Calls Tryz.prog 33 #[.agg #[.int .i64 (a : Int), .int .i64 (p : Int), .int .i64 (q : Int), .int .i64 (n : Int)]] w fun e w' => ∃ bo br, e = .returned (.tuple #[.slice (some ⟨bo, 0, none⟩) 4 4, .slice (some ⟨br, 0, none⟩) 4 4]) ∧ Own w' bo 3 [.int .i64 ((a : Int)), .int .i64 ((p : Int) - (a : Int)), .int .i64 ((q : Int) - (a : Int)), .int .i64 ((n : Int) - (p : Int) - (q : Int) + (a : Int))] ∧ Own w' br 54 [.int .i64 ((p : Int)), .int .i64 ((q : Int)), .int .i64 ((p : Int)), .int .i64 ((n : Int) - (q : Int)), .int .i64 ((n : Int) - (p : Int)), .int .i64 ((q : Int)), .int .i64 ((n : Int) - (p : Int)), .int .i64 ((n : Int) - (q : Int))] ∧ w.heap.size ≤ bo ∧ w.heap.size ≤ br ∧ Below w.heap.size w w' := by
  obtain ⟨o_c, hbw⟩ := new1 w [.int .i64 (a : Int), .int .i64 (p : Int), .int .i64 (q : Int), .int .i64 (n : Int)] 23
  go_enter Tryz.func33, Tryz.ntmps33
  go_upto_region 1 with (fail)
  generalize (w.alloc (.cells #[.int .i64 (a : Int), .int .i64 (p : Int), .int .i64 (q : Int), .int .i64 (n : Int)] 23)) = wb at o_c hbw ⊢; have z0 : IntKind.i64.wrap ((p : Int) - (a : Int)) = (p : Int) - (a : Int) := IntWalk.i64_in _ (by have := hv.all; omega); have z1 : IntKind.i64.wrap ((q : Int) - (a : Int)) = (q : Int) - (a : Int) := IntWalk.i64_in _ (by have := hv.all; omega); have z2 : IntKind.i64.wrap ((n : Int) - (p : Int)) = (n : Int) - (p : Int) := IntWalk.i64_in _ (by have := hv.all; omega); have z3 : IntKind.i64.wrap ((n : Int) - (p : Int) - (q : Int)) = (n : Int) - (p : Int) - (q : Int) := IntWalk.i64_in _ (by have := hv.all; omega); have z4 : IntKind.i64.wrap ((n : Int) - (p : Int) - (q : Int) + (a : Int)) = (n : Int) - (p : Int) - (q : Int) + (a : Int) := IntWalk.i64_in _ (by have := hv.all; omega); have z5 : IntKind.i64.wrap ((n : Int) - (q : Int)) = (n : Int) - (q : Int) := IntWalk.i64_in _ (by have := hv.all; omega)
  clear hv; obtain ⟨qc_0, qc_1, qc_2, qc_3⟩ := o_c.cells4; refine wp_reg_ra [some 4, some 5, some 6, some 7, some 8, some 9, some 10, some 11, some 12, some 13, some 14, some 15, some 16, some 17, some 18, some 19, some 20, some 21, some 22, some 23, some 24, some 25, some 26, some 27, some 28, some 29, some 30, some 31, some 32, some 33, some 34, some 35, some 36, some 37, some 38, some 39, some 40, some 41, some 42, some 43, some 44, some 45, some 46, some 47, some 48, some 49, some 50, some 51, some 52, some 53, some 54, some 55, some 56, some 57, some 58, some 59, some 60, some 2, some 3] [isV ?v1_0, isV ?v1_1, isV ?v1_2, isV ?v1_3, isV ?v1_4, isV ?v1_5, isV ?v1_6, isV ?v1_7, isV ?v1_8, isV ?v1_9, isV ?v1_10, isV ?v1_11, isV ?v1_12, isV ?v1_13, isV ?v1_14, isV ?v1_15, isV ?v1_16, isV ?v1_17, isV ?v1_18, isV ?v1_19, isV ?v1_20, isV ?v1_21, isV ?v1_22, (fun v w' => ∃ b5, v = .slice (some ⟨b5, 0, none⟩) 4 4 ∧ w.heap.size ≤ b5 ∧ Own w' b5 3 [.int .i64 ((a : Int)), .int .i64 ((p : Int) - (a : Int)), .int .i64 ((q : Int) - (a : Int)), .int .i64 ((n : Int) - (p : Int) - (q : Int) + (a : Int))]), isV ?v1_24, isV ?v1_25, isV ?v1_26, isV ?v1_27, isV ?v1_28, isV ?v1_29, isV ?v1_30, isV ?v1_31, isV ?v1_32, isV ?v1_33, isV ?v1_34, isV ?v1_35, isV ?v1_36, isV ?v1_37, isV ?v1_38, isV ?v1_39, isV ?v1_40, isV ?v1_41, isV ?v1_42, isV ?v1_43, isV ?v1_44, isV ?v1_45, isV ?v1_46, isV ?v1_47, isV ?v1_48, isV ?v1_49, isV ?v1_50, isV ?v1_51, isV ?v1_52, isV ?v1_53, isV ?v1_54, isV ?v1_55, (fun v w' => ∃ b5, v = .slice (some ⟨b5, 0, none⟩) 4 4 ∧ w.heap.size ≤ b5 ∧ Own w' b5 54 [.int .i64 ((p : Int)), .int .i64 ((q : Int)), .int .i64 ((p : Int)), .int .i64 ((n : Int) - (q : Int)), .int .i64 ((n : Int) - (p : Int)), .int .i64 ((q : Int)), .int .i64 ((n : Int) - (p : Int)), .int .i64 ((n : Int) - (q : Int))]), (fun v w' => ∃ b5, v = .slice (some ⟨b5, 0, none⟩) 4 4 ∧ w.heap.size ≤ b5 ∧ Own w' b5 3 [.int .i64 ((a : Int)), .int .i64 ((p : Int) - (a : Int)), .int .i64 ((q : Int) - (a : Int)), .int .i64 ((n : Int) - (p : Int) - (q : Int) + (a : Int))]), (fun v w' => ∃ b5, v = .slice (some ⟨b5, 0, none⟩) 4 4 ∧ w.heap.size ≤ b5 ∧ Own w' b5 54 [.int .i64 ((p : Int)), .int .i64 ((q : Int)), .int .i64 ((p : Int)), .int .i64 ((n : Int) - (q : Int)), .int .i64 ((n : Int) - (p : Int)), .int .i64 ((q : Int)), .int .i64 ((n : Int) - (p : Int)), .int .i64 ((n : Int) - (q : Int))])] rfl (by kernel_rfl) rfl rfl ?k1 ⟨?s1_0, ?s1_1, ?s1_2, ?s1_3, ?s1_4, ?s1_5, ?s1_6, ?s1_7, ?s1_8, ?s1_9, ?s1_10, ?s1_11, ?s1_12, ?s1_13, ?s1_14, ?s1_15, ?s1_16, ?s1_17, ?s1_18, ?s1_19, ?s1_20, ?s1_21, ?s1_22, ?s1_23, ?s1_24, ?s1_25, ?s1_26, ?s1_27, ?s1_28, ?s1_29, ?s1_30, ?s1_31, ?s1_32, ?s1_33, ?s1_34, ?s1_35, ?s1_36, ?s1_37, ?s1_38, ?s1_39, ?s1_40, ?s1_41, ?s1_42, ?s1_43, ?s1_44, ?s1_45, ?s1_46, ?s1_47, ?s1_48, ?s1_49, ?s1_50, ?s1_51, ?s1_52, ?s1_53, ?s1_54, ?s1_55, ?s1_56, ?s1_57, ?s1_58, trivial⟩ ?p1
  case s1_0 =>
    intro t9 w9 hT9 hV9 hO9 K9 hK9; have o9_1 := hO9 1 _ (show List.contains _ _ = false from by kernel_rfl) rfl; clear hV9 hO9; go_simp
    (refine hK9 _ _ (Grow.refl _) ?_; exact rfl)
  case s1_1 =>
    intro t9 w9 hT9 hV9 hO9 K9 hK9; obtain ⟨x9_0, p9_0, q9_0⟩ := hV9.g 0 4 rfl rfl (by kernel_rfl); obtain rfl : x9_0 = ?v1_0 := q9_0; clear hV9 hO9; have d9_0 := grow_cell hT9 qc_0; have d9_1 := grow_cell hT9 qc_1; have d9_2 := grow_cell hT9 qc_2; have d9_3 := grow_cell hT9 qc_3; go_simp
    (refine hK9 _ _ (Grow.refl _) ?_; exact rfl)
  case s1_2 =>
    intro t9 w9 hT9 hV9 hO9 K9 hK9; have o9_1 := hO9 1 _ (show List.contains _ _ = false from by kernel_rfl) rfl; clear hV9 hO9; go_simp
    (refine hK9 _ _ (Grow.refl _) ?_; exact rfl)
  case s1_3 =>
    intro t9 w9 hT9 hV9 hO9 K9 hK9; obtain ⟨x9_2, p9_2, q9_2⟩ := hV9.g 2 6 rfl rfl (by kernel_rfl); obtain rfl : x9_2 = ?v1_2 := q9_2; clear hV9 hO9; have d9_0 := grow_cell hT9 qc_0; have d9_1 := grow_cell hT9 qc_1; have d9_2 := grow_cell hT9 qc_2; have d9_3 := grow_cell hT9 qc_3; go_simp
    (refine hK9 _ _ (Grow.refl _) ?_; exact rfl)
  case s1_4 =>
    intro t9 w9 hT9 hV9 hO9 K9 hK9; have o9_1 := hO9 1 _ (show List.contains _ _ = false from by kernel_rfl) rfl; clear hV9 hO9; go_simp
    (refine hK9 _ _ (Grow.refl _) ?_; exact rfl)
  case s1_5 =>
    intro t9 w9 hT9 hV9 hO9 K9 hK9; obtain ⟨x9_4, p9_4, q9_4⟩ := hV9.g 4 8 rfl rfl (by kernel_rfl); obtain rfl : x9_4 = ?v1_4 := q9_4; clear hV9 hO9; have d9_0 := grow_cell hT9 qc_0; have d9_1 := grow_cell hT9 qc_1; have d9_2 := grow_cell hT9 qc_2; have d9_3 := grow_cell hT9 qc_3; go_simp
    (refine hK9 _ _ (Grow.refl _) ?_; exact rfl)
  case s1_6 =>
    intro t9 w9 hT9 hV9 hO9 K9 hK9; obtain ⟨x9_3, p9_3, q9_3⟩ := hV9.g 3 7 rfl rfl (by kernel_rfl); obtain rfl : x9_3 = ?v1_3 := q9_3; obtain ⟨x9_5, p9_5, q9_5⟩ := hV9.g 5 9 rfl rfl (by kernel_rfl); obtain rfl : x9_5 = ?v1_5 := q9_5; clear hV9 hO9; go_simp
    (refine hK9 _ _ (Grow.refl _) ?_; exact rfl)
  case s1_7 =>
    intro t9 w9 hT9 hV9 hO9 K9 hK9; have o9_1 := hO9 1 _ (show List.contains _ _ = false from by kernel_rfl) rfl; clear hV9 hO9; go_simp
    (refine hK9 _ _ (Grow.refl _) ?_; exact rfl)
  case s1_8 =>
    intro t9 w9 hT9 hV9 hO9 K9 hK9; obtain ⟨x9_7, p9_7, q9_7⟩ := hV9.g 7 11 rfl rfl (by kernel_rfl); obtain rfl : x9_7 = ?v1_7 := q9_7; clear hV9 hO9; have d9_0 := grow_cell hT9 qc_0; have d9_1 := grow_cell hT9 qc_1; have d9_2 := grow_cell hT9 qc_2; have d9_3 := grow_cell hT9 qc_3; go_simp
    (refine hK9 _ _ (Grow.refl _) ?_; exact rfl)
  case s1_9 =>
    intro t9 w9 hT9 hV9 hO9 K9 hK9; have o9_1 := hO9 1 _ (show List.contains _ _ = false from by kernel_rfl) rfl; clear hV9 hO9; go_simp
    (refine hK9 _ _ (Grow.refl _) ?_; exact rfl)
  case s1_10 =>
    intro t9 w9 hT9 hV9 hO9 K9 hK9; obtain ⟨x9_9, p9_9, q9_9⟩ := hV9.g 9 13 rfl rfl (by kernel_rfl); obtain rfl : x9_9 = ?v1_9 := q9_9; clear hV9 hO9; have d9_0 := grow_cell hT9 qc_0; have d9_1 := grow_cell hT9 qc_1; have d9_2 := grow_cell hT9 qc_2; have d9_3 := grow_cell hT9 qc_3; go_simp
    (refine hK9 _ _ (Grow.refl _) ?_; exact rfl)
  case s1_11 =>
    intro t9 w9 hT9 hV9 hO9 K9 hK9; obtain ⟨x9_8, p9_8, q9_8⟩ := hV9.g 8 12 rfl rfl (by kernel_rfl); obtain rfl : x9_8 = ?v1_8 := q9_8; obtain ⟨x9_10, p9_10, q9_10⟩ := hV9.g 10 14 rfl rfl (by kernel_rfl); obtain rfl : x9_10 = ?v1_10 := q9_10; clear hV9 hO9; go_simp
    (refine hK9 _ _ (Grow.refl _) ?_; exact rfl)
  case s1_12 =>
    intro t9 w9 hT9 hV9 hO9 K9 hK9; have o9_1 := hO9 1 _ (show List.contains _ _ = false from by kernel_rfl) rfl; clear hV9 hO9; go_simp
    (refine hK9 _ _ (Grow.refl _) ?_; exact rfl)
  case s1_13 =>
    intro t9 w9 hT9 hV9 hO9 K9 hK9; obtain ⟨x9_12, p9_12, q9_12⟩ := hV9.g 12 16 rfl rfl (by kernel_rfl); obtain rfl : x9_12 = ?v1_12 := q9_12; clear hV9 hO9; have d9_0 := grow_cell hT9 qc_0; have d9_1 := grow_cell hT9 qc_1; have d9_2 := grow_cell hT9 qc_2; have d9_3 := grow_cell hT9 qc_3; go_simp
    (refine hK9 _ _ (Grow.refl _) ?_; exact rfl)
  case s1_14 =>
    intro t9 w9 hT9 hV9 hO9 K9 hK9; have o9_1 := hO9 1 _ (show List.contains _ _ = false from by kernel_rfl) rfl; clear hV9 hO9; go_simp
    (refine hK9 _ _ (Grow.refl _) ?_; exact rfl)
  case s1_15 =>
    intro t9 w9 hT9 hV9 hO9 K9 hK9; obtain ⟨x9_14, p9_14, q9_14⟩ := hV9.g 14 18 rfl rfl (by kernel_rfl); obtain rfl : x9_14 = ?v1_14 := q9_14; clear hV9 hO9; have d9_0 := grow_cell hT9 qc_0; have d9_1 := grow_cell hT9 qc_1; have d9_2 := grow_cell hT9 qc_2; have d9_3 := grow_cell hT9 qc_3; go_simp
    (refine hK9 _ _ (Grow.refl _) ?_; exact rfl)
  case s1_16 =>
    intro t9 w9 hT9 hV9 hO9 K9 hK9; obtain ⟨x9_13, p9_13, q9_13⟩ := hV9.g 13 17 rfl rfl (by kernel_rfl); obtain rfl : x9_13 = ?v1_13 := q9_13; obtain ⟨x9_15, p9_15, q9_15⟩ := hV9.g 15 19 rfl rfl (by kernel_rfl); obtain rfl : x9_15 = ?v1_15 := q9_15; clear hV9 hO9; go_simp
    (refine hK9 _ _ (Grow.refl _) ?_; exact rfl)
  case s1_17 =>
    intro t9 w9 hT9 hV9 hO9 K9 hK9; have o9_1 := hO9 1 _ (show List.contains _ _ = false from by kernel_rfl) rfl; clear hV9 hO9; go_simp
    (refine hK9 _ _ (Grow.refl _) ?_; exact rfl)
  case s1_18 =>
    intro t9 w9 hT9 hV9 hO9 K9 hK9; obtain ⟨x9_17, p9_17, q9_17⟩ := hV9.g 17 21 rfl rfl (by kernel_rfl); obtain rfl : x9_17 = ?v1_17 := q9_17; clear hV9 hO9; have d9_0 := grow_cell hT9 qc_0; have d9_1 := grow_cell hT9 qc_1; have d9_2 := grow_cell hT9 qc_2; have d9_3 := grow_cell hT9 qc_3; go_simp
    (refine hK9 _ _ (Grow.refl _) ?_; exact rfl)
  case s1_19 =>
    intro t9 w9 hT9 hV9 hO9 K9 hK9; obtain ⟨x9_16, p9_16, q9_16⟩ := hV9.g 16 20 rfl rfl (by kernel_rfl); obtain rfl : x9_16 = ?v1_16 := q9_16; obtain ⟨x9_18, p9_18, q9_18⟩ := hV9.g 18 22 rfl rfl (by kernel_rfl); obtain rfl : x9_18 = ?v1_18 := q9_18; clear hV9 hO9; go_simp
    (refine hK9 _ _ (Grow.refl _) ?_; exact rfl)
  case s1_20 =>
    intro t9 w9 hT9 hV9 hO9 K9 hK9; have o9_1 := hO9 1 _ (show List.contains _ _ = false from by kernel_rfl) rfl; clear hV9 hO9; go_simp
    (refine hK9 _ _ (Grow.refl _) ?_; exact rfl)
  case s1_21 =>
    intro t9 w9 hT9 hV9 hO9 K9 hK9; obtain ⟨x9_20, p9_20, q9_20⟩ := hV9.g 20 24 rfl rfl (by kernel_rfl); obtain rfl : x9_20 = ?v1_20 := q9_20; clear hV9 hO9; have d9_0 := grow_cell hT9 qc_0; have d9_1 := grow_cell hT9 qc_1; have d9_2 := grow_cell hT9 qc_2; have d9_3 := grow_cell hT9 qc_3; go_simp
    (refine hK9 _ _ (Grow.refl _) ?_; exact rfl)
  case s1_22 =>
    intro t9 w9 hT9 hV9 hO9 K9 hK9; obtain ⟨x9_19, p9_19, q9_19⟩ := hV9.g 19 23 rfl rfl (by kernel_rfl); obtain rfl : x9_19 = ?v1_19 := q9_19; obtain ⟨x9_21, p9_21, q9_21⟩ := hV9.g 21 25 rfl rfl (by kernel_rfl); obtain rfl : x9_21 = ?v1_21 := q9_21; clear hV9 hO9; go_simp
    (refine hK9 _ _ (Grow.refl _) ?_; exact rfl)
  case s1_23 =>
    intro t9 w9 hT9 hV9 hO9 K9 hK9; obtain ⟨x9_1, p9_1, q9_1⟩ := hV9.g 1 5 rfl rfl (by kernel_rfl); obtain rfl : x9_1 = ?v1_1 := q9_1; obtain ⟨x9_6, p9_6, q9_6⟩ := hV9.g 6 10 rfl rfl (by kernel_rfl); obtain rfl : x9_6 = ?v1_6 := q9_6; obtain ⟨x9_11, p9_11, q9_11⟩ := hV9.g 11 15 rfl rfl (by kernel_rfl); obtain rfl : x9_11 = ?v1_11 := q9_11; obtain ⟨x9_22, p9_22, q9_22⟩ := hV9.g 22 26 rfl rfl (by kernel_rfl); obtain rfl : x9_22 = ?v1_22 := q9_22; clear hV9 hO9; go_simp; have g8 := (Grow.refl w9).al (.cells #[.int .i64 ((a : Int)), .int .i64 ((p : Int) - (a : Int)), .int .i64 ((q : Int) - (a : Int)), .int .i64 ((n : Int) - (p : Int) - (q : Int) + (a : Int))] 3); exact hK9 _ _ g8 ⟨_, rfl, Nat.le_trans hbw.size hT9.below.size, Own.new _ _ [_, _, _, _]⟩
  case s1_24 =>
    intro t9 w9 hT9 hV9 hO9 K9 hK9; have o9_1 := hO9 1 _ (show List.contains _ _ = false from by kernel_rfl) rfl; clear hV9 hO9; go_simp
    (refine hK9 _ _ (Grow.refl _) ?_; exact rfl)
  case s1_25 =>
    intro t9 w9 hT9 hV9 hO9 K9 hK9; obtain ⟨x9_24, p9_24, q9_24⟩ := hV9.g 24 28 rfl rfl (by kernel_rfl); obtain rfl : x9_24 = ?v1_24 := q9_24; clear hV9 hO9; have d9_0 := grow_cell hT9 qc_0; have d9_1 := grow_cell hT9 qc_1; have d9_2 := grow_cell hT9 qc_2; have d9_3 := grow_cell hT9 qc_3; go_simp
    (refine hK9 _ _ (Grow.refl _) ?_; exact rfl)
  case s1_26 =>
    intro t9 w9 hT9 hV9 hO9 K9 hK9; have o9_1 := hO9 1 _ (show List.contains _ _ = false from by kernel_rfl) rfl; clear hV9 hO9; go_simp
    (refine hK9 _ _ (Grow.refl _) ?_; exact rfl)
  case s1_27 =>
    intro t9 w9 hT9 hV9 hO9 K9 hK9; obtain ⟨x9_26, p9_26, q9_26⟩ := hV9.g 26 30 rfl rfl (by kernel_rfl); obtain rfl : x9_26 = ?v1_26 := q9_26; clear hV9 hO9; have d9_0 := grow_cell hT9 qc_0; have d9_1 := grow_cell hT9 qc_1; have d9_2 := grow_cell hT9 qc_2; have d9_3 := grow_cell hT9 qc_3; go_simp
    (refine hK9 _ _ (Grow.refl _) ?_; exact rfl)
  case s1_28 =>
    intro t9 w9 hT9 hV9 hO9 K9 hK9; obtain ⟨x9_25, p9_25, q9_25⟩ := hV9.g 25 29 rfl rfl (by kernel_rfl); obtain rfl : x9_25 = ?v1_25 := q9_25; obtain ⟨x9_27, p9_27, q9_27⟩ := hV9.g 27 31 rfl rfl (by kernel_rfl); obtain rfl : x9_27 = ?v1_27 := q9_27; clear hV9 hO9; go_simp
    (refine hK9 _ _ (Grow.refl _) ?_; exact rfl)
  case s1_29 =>
    intro t9 w9 hT9 hV9 hO9 K9 hK9; have o9_1 := hO9 1 _ (show List.contains _ _ = false from by kernel_rfl) rfl; clear hV9 hO9; go_simp
    (refine hK9 _ _ (Grow.refl _) ?_; exact rfl)
  case s1_30 =>
    intro t9 w9 hT9 hV9 hO9 K9 hK9; obtain ⟨x9_29, p9_29, q9_29⟩ := hV9.g 29 33 rfl rfl (by kernel_rfl); obtain rfl : x9_29 = ?v1_29 := q9_29; clear hV9 hO9; have d9_0 := grow_cell hT9 qc_0; have d9_1 := grow_cell hT9 qc_1; have d9_2 := grow_cell hT9 qc_2; have d9_3 := grow_cell hT9 qc_3; go_simp
    (refine hK9 _ _ (Grow.refl _) ?_; exact rfl)
  case s1_31 =>
    intro t9 w9 hT9 hV9 hO9 K9 hK9; have o9_1 := hO9 1 _ (show List.contains _ _ = false from by kernel_rfl) rfl; clear hV9 hO9; go_simp
    (refine hK9 _ _ (Grow.refl _) ?_; exact rfl)
  case s1_32 =>
    intro t9 w9 hT9 hV9 hO9 K9 hK9; obtain ⟨x9_31, p9_31, q9_31⟩ := hV9.g 31 35 rfl rfl (by kernel_rfl); obtain rfl : x9_31 = ?v1_31 := q9_31; clear hV9 hO9; have d9_0 := grow_cell hT9 qc_0; have d9_1 := grow_cell hT9 qc_1; have d9_2 := grow_cell hT9 qc_2; have d9_3 := grow_cell hT9 qc_3; go_simp
    (refine hK9 _ _ (Grow.refl _) ?_; exact rfl)
  case s1_33 =>
    intro t9 w9 hT9 hV9 hO9 K9 hK9; have o9_1 := hO9 1 _ (show List.contains _ _ = false from by kernel_rfl) rfl; clear hV9 hO9; go_simp
    (refine hK9 _ _ (Grow.refl _) ?_; exact rfl)
  case s1_34 =>
    intro t9 w9 hT9 hV9 hO9 K9 hK9; obtain ⟨x9_33, p9_33, q9_33⟩ := hV9.g 33 37 rfl rfl (by kernel_rfl); obtain rfl : x9_33 = ?v1_33 := q9_33; clear hV9 hO9; have d9_0 := grow_cell hT9 qc_0; have d9_1 := grow_cell hT9 qc_1; have d9_2 := grow_cell hT9 qc_2; have d9_3 := grow_cell hT9 qc_3; go_simp
    (refine hK9 _ _ (Grow.refl _) ?_; exact rfl)
  case s1_35 =>
    intro t9 w9 hT9 hV9 hO9 K9 hK9; obtain ⟨x9_32, p9_32, q9_32⟩ := hV9.g 32 36 rfl rfl (by kernel_rfl); obtain rfl : x9_32 = ?v1_32 := q9_32; obtain ⟨x9_34, p9_34, q9_34⟩ := hV9.g 34 38 rfl rfl (by kernel_rfl); obtain rfl : x9_34 = ?v1_34 := q9_34; clear hV9 hO9; go_simp
    (refine hK9 _ _ (Grow.refl _) ?_; exact rfl)
  case s1_36 =>
    intro t9 w9 hT9 hV9 hO9 K9 hK9; obtain ⟨x9_30, p9_30, q9_30⟩ := hV9.g 30 34 rfl rfl (by kernel_rfl); obtain rfl : x9_30 = ?v1_30 := q9_30; obtain ⟨x9_35, p9_35, q9_35⟩ := hV9.g 35 39 rfl rfl (by kernel_rfl); obtain rfl : x9_35 = ?v1_35 := q9_35; clear hV9 hO9; go_simp
    (refine hK9 _ _ (Grow.refl _) ?_; exact rfl)
  case s1_37 =>
    intro t9 w9 hT9 hV9 hO9 K9 hK9; have o9_1 := hO9 1 _ (show List.contains _ _ = false from by kernel_rfl) rfl; clear hV9 hO9; go_simp
    (refine hK9 _ _ (Grow.refl _) ?_; exact rfl)
  case s1_38 =>
    intro t9 w9 hT9 hV9 hO9 K9 hK9; obtain ⟨x9_37, p9_37, q9_37⟩ := hV9.g 37 41 rfl rfl (by kernel_rfl); obtain rfl : x9_37 = ?v1_37 := q9_37; clear hV9 hO9; have d9_0 := grow_cell hT9 qc_0; have d9_1 := grow_cell hT9 qc_1; have d9_2 := grow_cell hT9 qc_2; have d9_3 := grow_cell hT9 qc_3; go_simp
    (refine hK9 _ _ (Grow.refl _) ?_; exact rfl)
  case s1_39 =>
    intro t9 w9 hT9 hV9 hO9 K9 hK9; have o9_1 := hO9 1 _ (show List.contains _ _ = false from by kernel_rfl) rfl; clear hV9 hO9; go_simp
    (refine hK9 _ _ (Grow.refl _) ?_; exact rfl)
  case s1_40 =>
    intro t9 w9 hT9 hV9 hO9 K9 hK9; obtain ⟨x9_39, p9_39, q9_39⟩ := hV9.g 39 43 rfl rfl (by kernel_rfl); obtain rfl : x9_39 = ?v1_39 := q9_39; clear hV9 hO9; have d9_0 := grow_cell hT9 qc_0; have d9_1 := grow_cell hT9 qc_1; have d9_2 := grow_cell hT9 qc_2; have d9_3 := grow_cell hT9 qc_3; go_simp
    (refine hK9 _ _ (Grow.refl _) ?_; exact rfl)
  case s1_41 =>
    intro t9 w9 hT9 hV9 hO9 K9 hK9; obtain ⟨x9_38, p9_38, q9_38⟩ := hV9.g 38 42 rfl rfl (by kernel_rfl); obtain rfl : x9_38 = ?v1_38 := q9_38; obtain ⟨x9_40, p9_40, q9_40⟩ := hV9.g 40 44 rfl rfl (by kernel_rfl); obtain rfl : x9_40 = ?v1_40 := q9_40; clear hV9 hO9; go_simp
    (refine hK9 _ _ (Grow.refl _) ?_; exact rfl)
  case s1_42 =>
    intro t9 w9 hT9 hV9 hO9 K9 hK9; have o9_1 := hO9 1 _ (show List.contains _ _ = false from by kernel_rfl) rfl; clear hV9 hO9; go_simp
    (refine hK9 _ _ (Grow.refl _) ?_; exact rfl)
  case s1_43 =>
    intro t9 w9 hT9 hV9 hO9 K9 hK9; obtain ⟨x9_42, p9_42, q9_42⟩ := hV9.g 42 46 rfl rfl (by kernel_rfl); obtain rfl : x9_42 = ?v1_42 := q9_42; clear hV9 hO9; have d9_0 := grow_cell hT9 qc_0; have d9_1 := grow_cell hT9 qc_1; have d9_2 := grow_cell hT9 qc_2; have d9_3 := grow_cell hT9 qc_3; go_simp
    (refine hK9 _ _ (Grow.refl _) ?_; exact rfl)
  case s1_44 =>
    intro t9 w9 hT9 hV9 hO9 K9 hK9; obtain ⟨x9_41, p9_41, q9_41⟩ := hV9.g 41 45 rfl rfl (by kernel_rfl); obtain rfl : x9_41 = ?v1_41 := q9_41; obtain ⟨x9_43, p9_43, q9_43⟩ := hV9.g 43 47 rfl rfl (by kernel_rfl); obtain rfl : x9_43 = ?v1_43 := q9_43; clear hV9 hO9; go_simp
    (refine hK9 _ _ (Grow.refl _) ?_; exact rfl)
  case s1_45 =>
    intro t9 w9 hT9 hV9 hO9 K9 hK9; have o9_1 := hO9 1 _ (show List.contains _ _ = false from by kernel_rfl) rfl; clear hV9 hO9; go_simp
    (refine hK9 _ _ (Grow.refl _) ?_; exact rfl)
  case s1_46 =>
    intro t9 w9 hT9 hV9 hO9 K9 hK9; obtain ⟨x9_45, p9_45, q9_45⟩ := hV9.g 45 49 rfl rfl (by kernel_rfl); obtain rfl : x9_45 = ?v1_45 := q9_45; clear hV9 hO9; have d9_0 := grow_cell hT9 qc_0; have d9_1 := grow_cell hT9 qc_1; have d9_2 := grow_cell hT9 qc_2; have d9_3 := grow_cell hT9 qc_3; go_simp
    (refine hK9 _ _ (Grow.refl _) ?_; exact rfl)
  case s1_47 =>
    intro t9 w9 hT9 hV9 hO9 K9 hK9; have o9_1 := hO9 1 _ (show List.contains _ _ = false from by kernel_rfl) rfl; clear hV9 hO9; go_simp
    (refine hK9 _ _ (Grow.refl _) ?_; exact rfl)
  case s1_48 =>
    intro t9 w9 hT9 hV9 hO9 K9 hK9; obtain ⟨x9_47, p9_47, q9_47⟩ := hV9.g 47 51 rfl rfl (by kernel_rfl); obtain rfl : x9_47 = ?v1_47 := q9_47; clear hV9 hO9; have d9_0 := grow_cell hT9 qc_0; have d9_1 := grow_cell hT9 qc_1; have d9_2 := grow_cell hT9 qc_2; have d9_3 := grow_cell hT9 qc_3; go_simp
    (refine hK9 _ _ (Grow.refl _) ?_; exact rfl)
  case s1_49 =>
    intro t9 w9 hT9 hV9 hO9 K9 hK9; obtain ⟨x9_46, p9_46, q9_46⟩ := hV9.g 46 50 rfl rfl (by kernel_rfl); obtain rfl : x9_46 = ?v1_46 := q9_46; obtain ⟨x9_48, p9_48, q9_48⟩ := hV9.g 48 52 rfl rfl (by kernel_rfl); obtain rfl : x9_48 = ?v1_48 := q9_48; clear hV9 hO9; go_simp
    (refine hK9 _ _ (Grow.refl _) ?_; exact rfl)
  case s1_50 =>
    intro t9 w9 hT9 hV9 hO9 K9 hK9; have o9_1 := hO9 1 _ (show List.contains _ _ = false from by kernel_rfl) rfl; clear hV9 hO9; go_simp
    (refine hK9 _ _ (Grow.refl _) ?_; exact rfl)
  case s1_51 =>
    intro t9 w9 hT9 hV9 hO9 K9 hK9; obtain ⟨x9_50, p9_50, q9_50⟩ := hV9.g 50 54 rfl rfl (by kernel_rfl); obtain rfl : x9_50 = ?v1_50 := q9_50; clear hV9 hO9; have d9_0 := grow_cell hT9 qc_0; have d9_1 := grow_cell hT9 qc_1; have d9_2 := grow_cell hT9 qc_2; have d9_3 := grow_cell hT9 qc_3; go_simp
    (refine hK9 _ _ (Grow.refl _) ?_; exact rfl)
  case s1_52 =>
    intro t9 w9 hT9 hV9 hO9 K9 hK9; have o9_1 := hO9 1 _ (show List.contains _ _ = false from by kernel_rfl) rfl; clear hV9 hO9; go_simp
    (refine hK9 _ _ (Grow.refl _) ?_; exact rfl)
  case s1_53 =>
    intro t9 w9 hT9 hV9 hO9 K9 hK9; obtain ⟨x9_52, p9_52, q9_52⟩ := hV9.g 52 56 rfl rfl (by kernel_rfl); obtain rfl : x9_52 = ?v1_52 := q9_52; clear hV9 hO9; have d9_0 := grow_cell hT9 qc_0; have d9_1 := grow_cell hT9 qc_1; have d9_2 := grow_cell hT9 qc_2; have d9_3 := grow_cell hT9 qc_3; go_simp
    (refine hK9 _ _ (Grow.refl _) ?_; exact rfl)
  case s1_54 =>
    intro t9 w9 hT9 hV9 hO9 K9 hK9; obtain ⟨x9_51, p9_51, q9_51⟩ := hV9.g 51 55 rfl rfl (by kernel_rfl); obtain rfl : x9_51 = ?v1_51 := q9_51; obtain ⟨x9_53, p9_53, q9_53⟩ := hV9.g 53 57 rfl rfl (by kernel_rfl); obtain rfl : x9_53 = ?v1_53 := q9_53; clear hV9 hO9; go_simp
    (refine hK9 _ _ (Grow.refl _) ?_; exact rfl)
  case s1_55 =>
    intro t9 w9 hT9 hV9 hO9 K9 hK9; obtain ⟨x9_49, p9_49, q9_49⟩ := hV9.g 49 53 rfl rfl (by kernel_rfl); obtain rfl : x9_49 = ?v1_49 := q9_49; obtain ⟨x9_54, p9_54, q9_54⟩ := hV9.g 54 58 rfl rfl (by kernel_rfl); obtain rfl : x9_54 = ?v1_54 := q9_54; clear hV9 hO9; go_simp
    (refine hK9 _ _ (Grow.refl _) ?_; exact rfl)
  case s1_56 =>
    intro t9 w9 hT9 hV9 hO9 K9 hK9; obtain ⟨x9_28, p9_28, q9_28⟩ := hV9.g 28 32 rfl rfl (by kernel_rfl); obtain rfl : x9_28 = ?v1_28 := q9_28; obtain ⟨x9_36, p9_36, q9_36⟩ := hV9.g 36 40 rfl rfl (by kernel_rfl); obtain rfl : x9_36 = ?v1_36 := q9_36; obtain ⟨x9_44, p9_44, q9_44⟩ := hV9.g 44 48 rfl rfl (by kernel_rfl); obtain rfl : x9_44 = ?v1_44 := q9_44; obtain ⟨x9_55, p9_55, q9_55⟩ := hV9.g 55 59 rfl rfl (by kernel_rfl); obtain rfl : x9_55 = ?v1_55 := q9_55; clear hV9 hO9; go_simp; have g8 := (Grow.refl w9).al (.cells #[.int .i64 ((p : Int)), .int .i64 ((q : Int)), .int .i64 ((p : Int)), .int .i64 ((n : Int) - (q : Int)), .int .i64 ((n : Int) - (p : Int)), .int .i64 ((q : Int)), .int .i64 ((n : Int) - (p : Int)), .int .i64 ((n : Int) - (q : Int))] 54); exact hK9 _ _ g8 ⟨_, rfl, Nat.le_trans hbw.size hT9.below.size, Own.new _ _ [_, _, _, _, _, _, _, _]⟩
  case s1_57 =>
    intro t9 w9 hT9 hV9 hO9 K9 hK9; obtain ⟨x9_23, p9_23, q9_23⟩ := hV9.g 23 27 rfl rfl (by kernel_rfl); replace q9_23 : ((fun v w' => ∃ b5, v = .slice (some ⟨b5, 0, none⟩) 4 4 ∧ w.heap.size ≤ b5 ∧ Own w' b5 3 [.int .i64 ((a : Int)), .int .i64 ((p : Int) - (a : Int)), .int .i64 ((q : Int) - (a : Int)), .int .i64 ((n : Int) - (p : Int) - (q : Int) + (a : Int))])) x9_23 _ := q9_23; clear hV9 hO9; go_simp; exact hK9 _ _ (Grow.refl w9) q9_23
  case s1_58 =>
    intro t9 w9 hT9 hV9 hO9 K9 hK9; obtain ⟨x9_56, p9_56, q9_56⟩ := hV9.g 56 60 rfl rfl (by kernel_rfl); replace q9_56 : ((fun v w' => ∃ b5, v = .slice (some ⟨b5, 0, none⟩) 4 4 ∧ w.heap.size ≤ b5 ∧ Own w' b5 54 [.int .i64 ((p : Int)), .int .i64 ((q : Int)), .int .i64 ((p : Int)), .int .i64 ((n : Int) - (q : Int)), .int .i64 ((n : Int) - (p : Int)), .int .i64 ((q : Int)), .int .i64 ((n : Int) - (p : Int)), .int .i64 ((n : Int) - (q : Int))])) x9_56 _ := q9_56; clear hV9 hO9; go_simp; exact hK9 _ _ (Grow.refl w9) q9_56
  case k1 =>
    intro i9 v9 w9 x9 h9 g9
    match i9, h9 with
    | 0, h9 => exact h9
    | 1, h9 => exact h9
    | 2, h9 => exact h9
    | 3, h9 => exact h9
    | 4, h9 => exact h9
    | 5, h9 => exact h9
    | 6, h9 => exact h9
    | 7, h9 => exact h9
    | 8, h9 => exact h9
    | 9, h9 => exact h9
    | 10, h9 => exact h9
    | 11, h9 => exact h9
    | 12, h9 => exact h9
    | 13, h9 => exact h9
    | 14, h9 => exact h9
    | 15, h9 => exact h9
    | 16, h9 => exact h9
    | 17, h9 => exact h9
    | 18, h9 => exact h9
    | 19, h9 => exact h9
    | 20, h9 => exact h9
    | 21, h9 => exact h9
    | 22, h9 => exact h9
    | 23, h9 => (replace h9 : (fun v w' => ∃ b5, v = .slice (some ⟨b5, 0, none⟩) 4 4 ∧ w.heap.size ≤ b5 ∧ Own w' b5 3 [.int .i64 ((a : Int)), .int .i64 ((p : Int) - (a : Int)), .int .i64 ((q : Int) - (a : Int)), .int .i64 ((n : Int) - (p : Int) - (q : Int) + (a : Int))]) v9 w9 := h9); obtain ⟨b5, rfl, h7, h8⟩ := h9; exact ⟨b5, rfl, h7, h8.below g9 h8.lt⟩
    | 24, h9 => exact h9
    | 25, h9 => exact h9
    | 26, h9 => exact h9
    | 27, h9 => exact h9
    | 28, h9 => exact h9
    | 29, h9 => exact h9
    | 30, h9 => exact h9
    | 31, h9 => exact h9
    | 32, h9 => exact h9
    | 33, h9 => exact h9
    | 34, h9 => exact h9
    | 35, h9 => exact h9
    | 36, h9 => exact h9
    | 37, h9 => exact h9
    | 38, h9 => exact h9
    | 39, h9 => exact h9
    | 40, h9 => exact h9
    | 41, h9 => exact h9
    | 42, h9 => exact h9
    | 43, h9 => exact h9
    | 44, h9 => exact h9
    | 45, h9 => exact h9
    | 46, h9 => exact h9
    | 47, h9 => exact h9
    | 48, h9 => exact h9
    | 49, h9 => exact h9
    | 50, h9 => exact h9
    | 51, h9 => exact h9
    | 52, h9 => exact h9
    | 53, h9 => exact h9
    | 54, h9 => exact h9
    | 55, h9 => exact h9
    | 56, h9 => (replace h9 : (fun v w' => ∃ b5, v = .slice (some ⟨b5, 0, none⟩) 4 4 ∧ w.heap.size ≤ b5 ∧ Own w' b5 54 [.int .i64 ((p : Int)), .int .i64 ((q : Int)), .int .i64 ((p : Int)), .int .i64 ((n : Int) - (q : Int)), .int .i64 ((n : Int) - (p : Int)), .int .i64 ((q : Int)), .int .i64 ((n : Int) - (p : Int)), .int .i64 ((n : Int) - (q : Int))]) v9 w9 := h9); obtain ⟨b5, rfl, h7, h8⟩ := h9; exact ⟨b5, rfl, h7, h8.below g9 h8.lt⟩
    | 57, h9 => (replace h9 : (fun v w' => ∃ b5, v = .slice (some ⟨b5, 0, none⟩) 4 4 ∧ w.heap.size ≤ b5 ∧ Own w' b5 3 [.int .i64 ((a : Int)), .int .i64 ((p : Int) - (a : Int)), .int .i64 ((q : Int) - (a : Int)), .int .i64 ((n : Int) - (p : Int) - (q : Int) + (a : Int))]) v9 w9 := h9); obtain ⟨b5, rfl, h7, h8⟩ := h9; exact ⟨b5, rfl, h7, h8.below g9 h8.lt⟩
    | 58, h9 => (replace h9 : (fun v w' => ∃ b5, v = .slice (some ⟨b5, 0, none⟩) 4 4 ∧ w.heap.size ≤ b5 ∧ Own w' b5 54 [.int .i64 ((p : Int)), .int .i64 ((q : Int)), .int .i64 ((p : Int)), .int .i64 ((n : Int) - (q : Int)), .int .i64 ((n : Int) - (p : Int)), .int .i64 ((q : Int)), .int .i64 ((n : Int) - (p : Int)), .int .i64 ((n : Int) - (q : Int))]) v9 w9 := h9); obtain ⟨b5, rfl, h7, h8⟩ := h9; exact ⟨b5, rfl, h7, h8.below g9 h8.lt⟩
    | _ + 59, h9 => exact trivial
  intro u9 w9 hE9 hu9; have r9_0 : u9 0 = ?v1_0 := hu9 0 (by decide); have r9_1 : u9 1 = ?v1_1 := hu9 1 (by decide); have r9_2 : u9 2 = ?v1_2 := hu9 2 (by decide); have r9_3 : u9 3 = ?v1_3 := hu9 3 (by decide); have r9_4 : u9 4 = ?v1_4 := hu9 4 (by decide); have r9_5 : u9 5 = ?v1_5 := hu9 5 (by decide); have r9_6 : u9 6 = ?v1_6 := hu9 6 (by decide); have r9_7 : u9 7 = ?v1_7 := hu9 7 (by decide); have r9_8 : u9 8 = ?v1_8 := hu9 8 (by decide); have r9_9 : u9 9 = ?v1_9 := hu9 9 (by decide); have r9_10 : u9 10 = ?v1_10 := hu9 10 (by decide); have r9_11 : u9 11 = ?v1_11 := hu9 11 (by decide); have r9_12 : u9 12 = ?v1_12 := hu9 12 (by decide); have r9_13 : u9 13 = ?v1_13 := hu9 13 (by decide); have r9_14 : u9 14 = ?v1_14 := hu9 14 (by decide); have r9_15 : u9 15 = ?v1_15 := hu9 15 (by decide); have r9_16 : u9 16 = ?v1_16 := hu9 16 (by decide); have r9_17 : u9 17 = ?v1_17 := hu9 17 (by decide); have r9_18 : u9 18 = ?v1_18 := hu9 18 (by decide)
  have r9_19 : u9 19 = ?v1_19 := hu9 19 (by decide); have r9_20 : u9 20 = ?v1_20 := hu9 20 (by decide); have r9_21 : u9 21 = ?v1_21 := hu9 21 (by decide); have r9_22 : u9 22 = ?v1_22 := hu9 22 (by decide); have r9_23 : (fun v w' => ∃ b5, v = .slice (some ⟨b5, 0, none⟩) 4 4 ∧ w.heap.size ≤ b5 ∧ Own w' b5 3 [.int .i64 ((a : Int)), .int .i64 ((p : Int) - (a : Int)), .int .i64 ((q : Int) - (a : Int)), .int .i64 ((n : Int) - (p : Int) - (q : Int) + (a : Int))]) (u9 23) w9 := hu9 23 (by decide); have r9_24 : u9 24 = ?v1_24 := hu9 24 (by decide); have r9_25 : u9 25 = ?v1_25 := hu9 25 (by decide); have r9_26 : u9 26 = ?v1_26 := hu9 26 (by decide); have r9_27 : u9 27 = ?v1_27 := hu9 27 (by decide); have r9_28 : u9 28 = ?v1_28 := hu9 28 (by decide); have r9_29 : u9 29 = ?v1_29 := hu9 29 (by decide); have r9_30 : u9 30 = ?v1_30 := hu9 30 (by decide); have r9_31 : u9 31 = ?v1_31 := hu9 31 (by decide)
  have r9_32 : u9 32 = ?v1_32 := hu9 32 (by decide); have r9_33 : u9 33 = ?v1_33 := hu9 33 (by decide); have r9_34 : u9 34 = ?v1_34 := hu9 34 (by decide); have r9_35 : u9 35 = ?v1_35 := hu9 35 (by decide); have r9_36 : u9 36 = ?v1_36 := hu9 36 (by decide); have r9_37 : u9 37 = ?v1_37 := hu9 37 (by decide); have r9_38 : u9 38 = ?v1_38 := hu9 38 (by decide); have r9_39 : u9 39 = ?v1_39 := hu9 39 (by decide); have r9_40 : u9 40 = ?v1_40 := hu9 40 (by decide); have r9_41 : u9 41 = ?v1_41 := hu9 41 (by decide); have r9_42 : u9 42 = ?v1_42 := hu9 42 (by decide); have r9_43 : u9 43 = ?v1_43 := hu9 43 (by decide); have r9_44 : u9 44 = ?v1_44 := hu9 44 (by decide); have r9_45 : u9 45 = ?v1_45 := hu9 45 (by decide); have r9_46 : u9 46 = ?v1_46 := hu9 46 (by decide); have r9_47 : u9 47 = ?v1_47 := hu9 47 (by decide); have r9_48 : u9 48 = ?v1_48 := hu9 48 (by decide); have r9_49 : u9 49 = ?v1_49 := hu9 49 (by decide)
  have r9_50 : u9 50 = ?v1_50 := hu9 50 (by decide); have r9_51 : u9 51 = ?v1_51 := hu9 51 (by decide); have r9_52 : u9 52 = ?v1_52 := hu9 52 (by decide); have r9_53 : u9 53 = ?v1_53 := hu9 53 (by decide); have r9_54 : u9 54 = ?v1_54 := hu9 54 (by decide); have r9_55 : u9 55 = ?v1_55 := hu9 55 (by decide); have r9_56 : (fun v w' => ∃ b5, v = .slice (some ⟨b5, 0, none⟩) 4 4 ∧ w.heap.size ≤ b5 ∧ Own w' b5 54 [.int .i64 ((p : Int)), .int .i64 ((q : Int)), .int .i64 ((p : Int)), .int .i64 ((n : Int) - (q : Int)), .int .i64 ((n : Int) - (p : Int)), .int .i64 ((q : Int)), .int .i64 ((n : Int) - (p : Int)), .int .i64 ((n : Int) - (q : Int))]) (u9 56) w9 := hu9 56 (by decide); have r9_57 : (fun v w' => ∃ b5, v = .slice (some ⟨b5, 0, none⟩) 4 4 ∧ w.heap.size ≤ b5 ∧ Own w' b5 3 [.int .i64 ((a : Int)), .int .i64 ((p : Int) - (a : Int)), .int .i64 ((q : Int) - (a : Int)), .int .i64 ((n : Int) - (p : Int) - (q : Int) + (a : Int))]) (u9 57) w9 := hu9 57 (by decide)
  have r9_58 : (fun v w' => ∃ b5, v = .slice (some ⟨b5, 0, none⟩) 4 4 ∧ w.heap.size ≤ b5 ∧ Own w' b5 54 [.int .i64 ((p : Int)), .int .i64 ((q : Int)), .int .i64 ((p : Int)), .int .i64 ((n : Int) - (q : Int)), .int .i64 ((n : Int) - (p : Int)), .int .i64 ((q : Int)), .int .i64 ((n : Int) - (p : Int)), .int .i64 ((n : Int) - (q : Int))]) (u9 58) w9 := hu9 58 (by decide); clear hu9
  simp only [putAll, Act.put, List.setIfInBounds_toArray, List.set_cons_succ, List.set_cons_zero, List.getD_cons_succ, List.getD_cons_zero, Nat.reduceAdd, Nat.zero_add]
  simp only [r9_0, r9_1, r9_2, r9_3, r9_4, r9_5, r9_6, r9_7, r9_8, r9_9, r9_10, r9_11, r9_12, r9_13, r9_14, r9_15, r9_16, r9_17, r9_18, r9_19, r9_20, r9_21, r9_22, r9_24, r9_25, r9_26, r9_27, r9_28, r9_29, r9_30, r9_31, r9_32, r9_33, r9_34, r9_35, r9_36, r9_37, r9_38, r9_39, r9_40, r9_41, r9_42, r9_43, r9_44, r9_45, r9_46, r9_47, r9_48, r9_49, r9_50, r9_51, r9_52, r9_53, r9_54, r9_55]
  clear r9_0 r9_1 r9_2 r9_3 r9_4 r9_5 r9_6 r9_7 r9_8 r9_9 r9_10 r9_11 r9_12 r9_13 r9_14 r9_15 r9_16 r9_17 r9_18 r9_19 r9_20 r9_21 r9_22 r9_24 r9_25 r9_26 r9_27 r9_28 r9_29 r9_30 r9_31 r9_32 r9_33 r9_34 r9_35 r9_36 r9_37 r9_38 r9_39 r9_40 r9_41 r9_42 r9_43 r9_44 r9_45 r9_46 r9_47 r9_48 r9_49 r9_50 r9_51 r9_52 r9_53 r9_54 r9_55; obtain ⟨bo, ho, hgo, o_o⟩ := r9_57; obtain ⟨br, hr, hgw, o_w⟩ := r9_58; rw [ho, hr]; clear ho hr r9_23 r9_56; replace hbw := below6 hbw hE9; clear hE9 qc_0 qc_1 qc_2 qc_3
  go_wp2
  exact bodyPost_ret (v := .tuple #[.slice (some ⟨bo, 0, none⟩) 4 4, .slice (some ⟨br, 0, none⟩) 4 4]) (by simp [results, Tryz.results33, go_sem]) rfl ⟨bo, br, rfl, o_o, o_w, hgo, hgw, hbw⟩
theorem odds_ref {a p q n : Nat} (hv : VC a p q n) (w : World) :
    Calls Tryz.prog 21 #[.agg #[.int .i64 (a : Int), .int .i64 (p : Int), .int .i64 (q : Int), .int .i64 (n : Int)]] w fun e w' => QRes (prodN [a, n + a - p - q]) (prodN [p - a, q - a]) e ∧ Below w.heap.size w w' := by
  have HV := Lib.hid hv; obtain ⟨nz, sz, tz, kz, hend, hres⟩ := qres_one (prodN [a, n + a - p - q]) (prodN [p - a, q - a]); have HEND := Lib.hid hend; have HRES := Lib.hid hres; clear hv hend hres; obtain ⟨o_c, o_r, hbw⟩ := new2 w [.int .i64 (a : Int), .int .i64 (p : Int), .int .i64 (q : Int), .int .i64 (n : Int)] [.bool false, .string ⟨#[]⟩, .string ⟨#[]⟩] 23 27
  go_enter Tryz.func21, Tryz.ntmps21
  go_upto_region 1 with (fail)
  generalize ((w.alloc (.cells #[.int .i64 (a : Int), .int .i64 (p : Int), .int .i64 (q : Int), .int .i64 (n : Int)] 23)).alloc (.cells #[.bool false, .string ⟨#[]⟩, .string ⟨#[]⟩] 27)) = wb at o_c o_r hbw ⊢; obtain ⟨qc_0, qc_1, qc_2, qc_3⟩ := o_c.cells4
  go_wp2_with fail
  clear qc_0 qc_1 qc_2 qc_3; refine (rmv_yes HV.out _).mono ?_; rintro e w1 ⟨rfl, hb1⟩; replace o_c := o_c.below hb1 o_c.lt; replace o_r := o_r.below hb1 o_r.lt; replace hbw := below6 hbw hb1; clear hb1; obtain ⟨qc_0, qc_1, qc_2, qc_3⟩ := o_c.cells4
  go_wp2_with fail
  clear qc_0 qc_1 qc_2 qc_3; refine (fields_ref HV.out _).mono ?_; rintro e w8 ⟨bo, br, rfl, o_o, o_w, -, -, hb8⟩; replace o_c := o_c.below hb8 o_c.lt; replace o_r := o_r.below hb8 o_r.lt; replace hbw := below6 hbw hb8; clear hb8
  go_upto_region 4 with (fail)
  have E1 : Hid ([(a : Int), (n : Int) - (p : Int) - (q : Int) + (a : Int)] = [a, n + a - p - q].map fun (x : Nat) => (x : Int)) := by
    have := HV.out.all; exact Lib.hid (by simp <;> omega)
  have M1 : Hid (Smalls [a, n + a - p - q]) := by
    have := HV.out.all; exact Lib.hid ⟨by simp, by simp <;> omega⟩
  have E2 : Hid ([(p : Int) - (a : Int), (q : Int) - (a : Int)] = [p - a, q - a].map fun (x : Nat) => (x : Int)) := by
    have := HV.out.all; exact Lib.hid (by simp <;> omega)
  have M2 : Hid (Smalls [p - a, q - a]) := by
    have := HV.out.all; exact Lib.hid ⟨by simp, by simp <;> omega⟩
  obtain ⟨qo_0, qo_1, qo_2, qo_3⟩ := o_o.cells4; obtain ⟨qr_0, qr_1, qr_2⟩ := o_r.cells3; obtain ⟨fr_0, fr_1, fr_2⟩ := o_r.frozens3; refine wp_reg_st [some 15, some 16, some 17, some 18, some 19, some 20, some 21, some 22, some 23, some 24, some 25, some 26, some 27, some 28, some 29, some 30, some 31, none, some 3] [isV ?v2_0, isV ?v2_1, isV ?v2_2, isV ?v2_3, isV ?v2_4, isV ?v2_5, (fun v w' => ∃ b5, v = .slice (some ⟨b5, 0, none⟩) 2 2 ∧ Own w' b5 3 [.int .i64 ((a : Int)), .int .i64 ((n : Int) - (p : Int) - (q : Int) + (a : Int))]), isV ?v2_7, isV ?v2_8, isV ?v2_9, isV ?v2_10, isV ?v2_11, isV ?v2_12, (fun v w' => ∃ b5, v = .slice (some ⟨b5, 0, none⟩) 2 2 ∧ Own w' b5 3 [.int .i64 ((p : Int) - (a : Int)), .int .i64 ((q : Int) - (a : Int))]), isV (.tuple #[.agg #[.bool nz, .string sz, .string tz], .int .i64 kz]), isV ?v2_15, isV ?v2_16, fun _ _ => False, fun _ _ => False] [anyV, anyV, anyV, anyV, anyV, anyV, anyV, anyV, anyV, anyV, anyV, anyV, anyV, anyV, anyV, anyV, anyV, anyV, isV ?w2_18] 17 [0, 1, 2, 3, 4, 5, 6, 7, 8, 9, 10, 11, 12, 13, 14, 15, 16] (fun _ => fun w' => Below w.heap.size w w' ∧ Own w' (w.heap.size + 1) 27 [.bool nz, .string sz, .string tz]) rfl (by kernel_rfl) rfl rfl (by decide) (by kernel_rfl) (by kernel_rfl) (fun _ _ _ _ h => h) ?k2 ?m2 ⟨?s2_0, ?s2_1, ?s2_2, ?s2_3, ?s2_4, ?s2_5, ?s2_6, ?s2_7, ?s2_8, ?s2_9, ?s2_10, ?s2_11, ?s2_12, ?s2_13, ?s2_14, ?s2_15, ?s2_16, ?s2_17, ?s2_18, trivial⟩ ?p2
  case s2_0 =>
    rw [if_neg (by decide)]
    constructor
    · rw [if_neg (by decide)]; intro t9 w9 hT9 hV9 hO9 K9 hK9; have o9_4 := hO9 4 _ (.inl (show List.contains _ _ = false from by kernel_rfl)) rfl; clear hV9 hO9; go_simp
      (refine hK9 _ _ (Grow.refl _) ?_; exact rfl)
    · rw [if_pos (by decide)]; trivial
  case s2_1 =>
    rw [if_neg (by decide)]
    constructor
    · rw [if_neg (by decide)]; intro t9 w9 hT9 hV9 hO9 K9 hK9; obtain ⟨x9_0, p9_0, q9_0⟩ := hV9.g 0 15 rfl rfl (by kernel_rfl); obtain rfl : x9_0 = ?v2_0 := q9_0; clear hV9 hO9; go_simp
      (refine hK9 _ _ (Grow.refl _) ?_; exact rfl)
    · rw [if_pos (by decide)]; trivial
  case s2_2 =>
    rw [if_neg (by decide)]
    constructor
    · rw [if_neg (by decide)]; intro t9 w9 hT9 hV9 hO9 K9 hK9; obtain ⟨x9_1, p9_1, q9_1⟩ := hV9.g 1 16 rfl rfl (by kernel_rfl); obtain rfl : x9_1 = ?v2_1 := q9_1; clear hV9 hO9; have d9_0 := grow_cell hT9 qo_0; have d9_1 := grow_cell hT9 qo_1; have d9_2 := grow_cell hT9 qo_2; have d9_3 := grow_cell hT9 qo_3; have d9_4 := grow_cell hT9 qr_0; have d9_5 := grow_cell hT9 qr_1; have d9_6 := grow_cell hT9 qr_2; go_simp
      (refine hK9 _ _ (Grow.refl _) ?_; exact rfl)
    · rw [if_pos (by decide)]; trivial
  case s2_3 =>
    rw [if_neg (by decide)]
    constructor
    · rw [if_neg (by decide)]; intro t9 w9 hT9 hV9 hO9 K9 hK9; have o9_4 := hO9 4 _ (.inl (show List.contains _ _ = false from by kernel_rfl)) rfl; clear hV9 hO9; go_simp
      (refine hK9 _ _ (Grow.refl _) ?_; exact rfl)
    · rw [if_pos (by decide)]; trivial
  case s2_4 =>
    rw [if_neg (by decide)]
    constructor
    · rw [if_neg (by decide)]; intro t9 w9 hT9 hV9 hO9 K9 hK9; obtain ⟨x9_3, p9_3, q9_3⟩ := hV9.g 3 18 rfl rfl (by kernel_rfl); obtain rfl : x9_3 = ?v2_3 := q9_3; clear hV9 hO9; go_simp
      (refine hK9 _ _ (Grow.refl _) ?_; exact rfl)
    · rw [if_pos (by decide)]; trivial
  case s2_5 =>
    rw [if_neg (by decide)]
    constructor
    · rw [if_neg (by decide)]; intro t9 w9 hT9 hV9 hO9 K9 hK9; obtain ⟨x9_4, p9_4, q9_4⟩ := hV9.g 4 19 rfl rfl (by kernel_rfl); obtain rfl : x9_4 = ?v2_4 := q9_4; clear hV9 hO9; have d9_0 := grow_cell hT9 qo_0; have d9_1 := grow_cell hT9 qo_1; have d9_2 := grow_cell hT9 qo_2; have d9_3 := grow_cell hT9 qo_3; have d9_4 := grow_cell hT9 qr_0; have d9_5 := grow_cell hT9 qr_1; have d9_6 := grow_cell hT9 qr_2; go_simp
      (refine hK9 _ _ (Grow.refl _) ?_; exact rfl)
    · rw [if_pos (by decide)]; trivial
  case s2_6 =>
    rw [if_neg (by decide)]
    constructor
    · rw [if_neg (by decide)]; intro t9 w9 hT9 hV9 hO9 K9 hK9; obtain ⟨x9_2, p9_2, q9_2⟩ := hV9.g 2 17 rfl rfl (by kernel_rfl); obtain rfl : x9_2 = ?v2_2 := q9_2; obtain ⟨x9_5, p9_5, q9_5⟩ := hV9.g 5 20 rfl rfl (by kernel_rfl); obtain rfl : x9_5 = ?v2_5 := q9_5; clear hV9 hO9; go_simp; have g8 := (Grow.refl w9).al (.cells #[.int .i64 ((a : Int)), .int .i64 ((n : Int) - (p : Int) - (q : Int) + (a : Int))] 3); exact hK9 _ _ g8 ⟨_, rfl, Own.new _ _ [_, _]⟩
    · rw [if_pos (by decide)]; trivial
  case s2_7 =>
    rw [if_neg (by decide)]
    constructor
    · rw [if_neg (by decide)]; intro t9 w9 hT9 hV9 hO9 K9 hK9; have o9_4 := hO9 4 _ (.inl (show List.contains _ _ = false from by kernel_rfl)) rfl; clear hV9 hO9; go_simp
      (refine hK9 _ _ (Grow.refl _) ?_; exact rfl)
    · rw [if_pos (by decide)]; trivial
  case s2_8 =>
    rw [if_neg (by decide)]
    constructor
    · rw [if_neg (by decide)]; intro t9 w9 hT9 hV9 hO9 K9 hK9; obtain ⟨x9_7, p9_7, q9_7⟩ := hV9.g 7 22 rfl rfl (by kernel_rfl); obtain rfl : x9_7 = ?v2_7 := q9_7; clear hV9 hO9; go_simp
      (refine hK9 _ _ (Grow.refl _) ?_; exact rfl)
    · rw [if_pos (by decide)]; trivial
  case s2_9 =>
    rw [if_neg (by decide)]
    constructor
    · rw [if_neg (by decide)]; intro t9 w9 hT9 hV9 hO9 K9 hK9; obtain ⟨x9_8, p9_8, q9_8⟩ := hV9.g 8 23 rfl rfl (by kernel_rfl); obtain rfl : x9_8 = ?v2_8 := q9_8; clear hV9 hO9; have d9_0 := grow_cell hT9 qo_0; have d9_1 := grow_cell hT9 qo_1; have d9_2 := grow_cell hT9 qo_2; have d9_3 := grow_cell hT9 qo_3; have d9_4 := grow_cell hT9 qr_0; have d9_5 := grow_cell hT9 qr_1; have d9_6 := grow_cell hT9 qr_2; go_simp
      (refine hK9 _ _ (Grow.refl _) ?_; exact rfl)
    · rw [if_pos (by decide)]; trivial
  case s2_10 =>
    rw [if_neg (by decide)]
    constructor
    · rw [if_neg (by decide)]; intro t9 w9 hT9 hV9 hO9 K9 hK9; have o9_4 := hO9 4 _ (.inl (show List.contains _ _ = false from by kernel_rfl)) rfl; clear hV9 hO9; go_simp
      (refine hK9 _ _ (Grow.refl _) ?_; exact rfl)
    · rw [if_pos (by decide)]; trivial
  case s2_11 =>
    rw [if_neg (by decide)]
    constructor
    · rw [if_neg (by decide)]; intro t9 w9 hT9 hV9 hO9 K9 hK9; obtain ⟨x9_10, p9_10, q9_10⟩ := hV9.g 10 25 rfl rfl (by kernel_rfl); obtain rfl : x9_10 = ?v2_10 := q9_10; clear hV9 hO9; go_simp
      (refine hK9 _ _ (Grow.refl _) ?_; exact rfl)
    · rw [if_pos (by decide)]; trivial
  case s2_12 =>
    rw [if_neg (by decide)]
    constructor
    · rw [if_neg (by decide)]; intro t9 w9 hT9 hV9 hO9 K9 hK9; obtain ⟨x9_11, p9_11, q9_11⟩ := hV9.g 11 26 rfl rfl (by kernel_rfl); obtain rfl : x9_11 = ?v2_11 := q9_11; clear hV9 hO9; have d9_0 := grow_cell hT9 qo_0; have d9_1 := grow_cell hT9 qo_1; have d9_2 := grow_cell hT9 qo_2; have d9_3 := grow_cell hT9 qo_3; have d9_4 := grow_cell hT9 qr_0; have d9_5 := grow_cell hT9 qr_1; have d9_6 := grow_cell hT9 qr_2; go_simp
      (refine hK9 _ _ (Grow.refl _) ?_; exact rfl)
    · rw [if_pos (by decide)]; trivial
  case s2_13 =>
    rw [if_neg (by decide)]
    constructor
    · rw [if_neg (by decide)]; intro t9 w9 hT9 hV9 hO9 K9 hK9; obtain ⟨x9_9, p9_9, q9_9⟩ := hV9.g 9 24 rfl rfl (by kernel_rfl); obtain rfl : x9_9 = ?v2_9 := q9_9; obtain ⟨x9_12, p9_12, q9_12⟩ := hV9.g 12 27 rfl rfl (by kernel_rfl); obtain rfl : x9_12 = ?v2_12 := q9_12; clear hV9 hO9; go_simp; have g8 := (Grow.refl w9).al (.cells #[.int .i64 ((p : Int) - (a : Int)), .int .i64 ((q : Int) - (a : Int))] 3); exact hK9 _ _ g8 ⟨_, rfl, Own.new _ _ [_, _]⟩
    · rw [if_pos (by decide)]; trivial
  case s2_14 =>
    rw [if_neg (by decide)]
    constructor
    · rw [if_neg (by decide)]; intro t9 w9 hT9 hV9 hO9 K9 hK9; obtain ⟨x9_6, p9_6, q9_6⟩ := hV9.g 6 21 rfl rfl (by kernel_rfl); replace q9_6 : ((fun v w' => ∃ b5, v = .slice (some ⟨b5, 0, none⟩) 2 2 ∧ Own w' b5 3 [.int .i64 ((a : Int)), .int .i64 ((n : Int) - (p : Int) - (q : Int) + (a : Int))])) x9_6 _ := q9_6; obtain ⟨x9_13, p9_13, q9_13⟩ := hV9.g 13 28 rfl rfl (by kernel_rfl); replace q9_13 : ((fun v w' => ∃ b5, v = .slice (some ⟨b5, 0, none⟩) 2 2 ∧ Own w' b5 3 [.int .i64 ((p : Int) - (a : Int)), .int .i64 ((q : Int) - (a : Int))])) x9_13 _ := q9_13; clear hV9 hO9; obtain ⟨b4, hx4, ho4⟩ := q9_6; subst hx4; obtain ⟨b3, hx3, ho3⟩ := q9_13; subst hx3; have HR4 := Lib.hid ho4.rd0; have HR3 := Lib.hid ho3.rd0; go_simp; refine (of38_ref (some ⟨b4, 0, none⟩) [(a : Int), (n : Int) - (p : Int) - (q : Int) + (a : Int)] [a, n + a - p - q] 2 (some ⟨b3, 0, none⟩) [(p : Int) - (a : Int), (q : Int) - (a : Int)] [p - a, q - a] 2 _ HR4.out E1.out (by simp) (by decide) M1.out HR3.out E2.out (by simp) (by decide) M2.out).mono ?_
      rintro e w8 ⟨hq, hb8⟩; have he := HEND.out _ hq; subst he; exact hK9 _ _ hb8 rfl
    · rw [if_pos (by decide)]; trivial
  case s2_15 =>
    rw [if_neg (by decide)]
    constructor
    · rw [if_neg (by decide)]; intro t9 w9 hT9 hV9 hO9 K9 hK9; obtain ⟨x9_14, p9_14, q9_14⟩ := hV9.g 14 29 rfl rfl (by kernel_rfl); obtain rfl : x9_14 = (.tuple #[.agg #[.bool nz, .string sz, .string tz], .int .i64 kz]) := q9_14; clear hV9 hO9; go_simp
      (refine hK9 _ _ (Grow.refl _) ?_; exact rfl)
    · rw [if_pos (by decide)]; trivial
  case s2_16 =>
    rw [if_neg (by decide)]
    constructor
    · rw [if_neg (by decide)]; intro t9 w9 hT9 hV9 hO9 K9 hK9; obtain ⟨x9_14, p9_14, q9_14⟩ := hV9.g 14 29 rfl rfl (by kernel_rfl); obtain rfl : x9_14 = (.tuple #[.agg #[.bool nz, .string sz, .string tz], .int .i64 kz]) := q9_14; clear hV9 hO9; go_simp
      (refine hK9 _ _ (Grow.refl _) ?_; exact rfl)
    · rw [if_pos (by decide)]; trivial
  case s2_17 =>
    rw [if_pos (by decide)]; intro t9 w9 hT9 hV9 hO9 K9 hK9; obtain ⟨x9_15, p9_15, q9_15⟩ := hV9.g 15 30 (by decide) rfl (by kernel_rfl); obtain rfl : x9_15 = ?v2_15 := q9_15; have o9_2 := hO9 2 _ (.inl (show List.contains _ _ = false from by kernel_rfl)) rfl; clear hV9 hO9; have og := o_r.below hT9.below o_r.lt; obtain ⟨hg0, hg1, hg2⟩ := og.cells3; obtain ⟨hf0, hf1, hf2⟩ := og.frozens3; have HE := Lib.hid (⟨Below.set3 (below6 hbw hT9.below) (g := w.heap.size + 1) (by omega) (.bool nz) (.string sz) (.string tz), og.set3 (.bool nz) (.string sz) (.string tz)⟩ : (fun w' => Below w.heap.size w w' ∧ Own w' (w.heap.size + 1) 27 [.bool nz, .string sz, .string tz]) (((w9.setCell ⟨w.heap.size + 1, 0, none⟩ (.bool nz)).setCell ⟨w.heap.size + 1, 1, none⟩ (.string sz)).setCell ⟨w.heap.size + 1, 2, none⟩ (.string tz))); go_simp; exact hK9 undef _ HE.out trivial
  case s2_18 =>
    rw [if_neg (by decide)]
    constructor
    · rw [if_pos (by rfl)]; trivial
    · rw [if_neg (by decide)]; intro t9 w9 hV9 hO9 K9 hK9; obtain ⟨x9_16, p9_16, q9_16⟩ := hV9.g 16 31 rfl rfl (by kernel_rfl); obtain ⟨_, q9_16⟩ := q9_16.pre (by decide); obtain rfl : x9_16 = ?v2_16 := q9_16; clear hV9 hO9; go_simp
      (refine hK9 _ ?_; exact rfl)
  case k2 =>
    intro i9 v9 w9 x9 h9 g9
    match i9, h9 with
    | 0, h9 => exact h9
    | 1, h9 => exact h9
    | 2, h9 => exact h9
    | 3, h9 => exact h9
    | 4, h9 => exact h9
    | 5, h9 => exact h9
    | 6, h9 => (replace h9 : (fun v w' => ∃ b5, v = .slice (some ⟨b5, 0, none⟩) 2 2 ∧ Own w' b5 3 [.int .i64 ((a : Int)), .int .i64 ((n : Int) - (p : Int) - (q : Int) + (a : Int))]) v9 w9 := h9); obtain ⟨b5, rfl, h8⟩ := h9; exact ⟨b5, rfl, h8.below g9 h8.lt⟩
    | 7, h9 => exact h9
    | 8, h9 => exact h9
    | 9, h9 => exact h9
    | 10, h9 => exact h9
    | 11, h9 => exact h9
    | 12, h9 => exact h9
    | 13, h9 => (replace h9 : (fun v w' => ∃ b5, v = .slice (some ⟨b5, 0, none⟩) 2 2 ∧ Own w' b5 3 [.int .i64 ((p : Int) - (a : Int)), .int .i64 ((q : Int) - (a : Int))]) v9 w9 := h9); obtain ⟨b5, rfl, h8⟩ := h9; exact ⟨b5, rfl, h8.below g9 h8.lt⟩
    | 14, h9 => exact h9
    | 15, h9 => exact h9
    | 16, h9 => exact h9
    | 17, h9 => exact h9
    | 18, h9 => exact h9
    | _ + 19, h9 => exact trivial
  case m2 =>
    intro i9 v9 w9 x9 a s h
    match i9, a, s, h with
    | 0, a, _, _ => exact absurd (by decide) a
    | 1, a, _, _ => exact absurd (by decide) a
    | 2, a, _, _ => exact absurd (by decide) a
    | 3, a, _, _ => exact absurd (by decide) a
    | 4, a, _, _ => exact absurd (by decide) a
    | 5, a, _, _ => exact absurd (by decide) a
    | 6, a, _, _ => exact absurd (by decide) a
    | 7, a, _, _ => exact absurd (by decide) a
    | 8, a, _, _ => exact absurd (by decide) a
    | 9, a, _, _ => exact absurd (by decide) a
    | 10, a, _, _ => exact absurd (by decide) a
    | 11, a, _, _ => exact absurd (by decide) a
    | 12, a, _, _ => exact absurd (by decide) a
    | 13, a, _, _ => exact absurd (by decide) a
    | 14, a, _, _ => exact absurd (by decide) a
    | 15, a, _, _ => exact absurd (by decide) a
    | 16, a, _, _ => exact absurd (by decide) a
    | 17, _, s, _ => exact absurd rfl s
    | 18, _, _, h => exact False.elim h
    | _ + 19, _, _, _ => exact trivial
  intro u9 w9 hE9 hu9; obtain ⟨_, r9_0⟩ := (hu9 0 (by decide)).pre (by decide); replace r9_0 : u9 0 = ?v2_0 := r9_0; obtain ⟨_, r9_1⟩ := (hu9 1 (by decide)).pre (by decide); replace r9_1 : u9 1 = ?v2_1 := r9_1; obtain ⟨_, r9_2⟩ := (hu9 2 (by decide)).pre (by decide); replace r9_2 : u9 2 = ?v2_2 := r9_2; obtain ⟨_, r9_3⟩ := (hu9 3 (by decide)).pre (by decide); replace r9_3 : u9 3 = ?v2_3 := r9_3; obtain ⟨_, r9_4⟩ := (hu9 4 (by decide)).pre (by decide); replace r9_4 : u9 4 = ?v2_4 := r9_4; obtain ⟨_, r9_5⟩ := (hu9 5 (by decide)).pre (by decide); replace r9_5 : u9 5 = ?v2_5 := r9_5; obtain ⟨_, r9_7⟩ := (hu9 7 (by decide)).pre (by decide); replace r9_7 : u9 7 = ?v2_7 := r9_7; obtain ⟨_, r9_8⟩ := (hu9 8 (by decide)).pre (by decide); replace r9_8 : u9 8 = ?v2_8 := r9_8; obtain ⟨_, r9_9⟩ := (hu9 9 (by decide)).pre (by decide); replace r9_9 : u9 9 = ?v2_9 := r9_9; obtain ⟨_, r9_10⟩ := (hu9 10 (by decide)).pre (by decide)
  replace r9_10 : u9 10 = ?v2_10 := r9_10; obtain ⟨_, r9_11⟩ := (hu9 11 (by decide)).pre (by decide); replace r9_11 : u9 11 = ?v2_11 := r9_11; obtain ⟨_, r9_12⟩ := (hu9 12 (by decide)).pre (by decide); replace r9_12 : u9 12 = ?v2_12 := r9_12; obtain ⟨_, r9_14⟩ := (hu9 14 (by decide)).pre (by decide); replace r9_14 : u9 14 = (.tuple #[.agg #[.bool nz, .string sz, .string tz], .int .i64 kz]) := r9_14; obtain ⟨_, r9_15⟩ := (hu9 15 (by decide)).pre (by decide); replace r9_15 : u9 15 = ?v2_15 := r9_15; obtain ⟨_, r9_16⟩ := (hu9 16 (by decide)).pre (by decide); replace r9_16 : u9 16 = ?v2_16 := r9_16; have r9_18 : u9 18 = ?w2_18 := (hu9 18 (by decide)).late (by decide); clear hu9; obtain ⟨sz9, oz⟩ := hE9
  simp only [putAll, Act.put, List.setIfInBounds_toArray, List.set_cons_succ, List.set_cons_zero, List.getD_cons_succ, List.getD_cons_zero, Nat.reduceAdd, Nat.zero_add]
  simp only [r9_0, r9_1, r9_2, r9_3, r9_4, r9_5, r9_7, r9_8, r9_9, r9_10, r9_11, r9_12, r9_14, r9_15, r9_16, r9_18]
  clear r9_0 r9_1 r9_2 r9_3 r9_4 r9_5 r9_7 r9_8 r9_9 r9_10 r9_11 r9_12 r9_14 r9_15 r9_16 r9_18
  go_wp2_with fail
  obtain ⟨z0, z1, z2⟩ := oz.cells3; exact bodyPost_ret (v := .tuple #[.agg #[.bool nz, .string sz, .string tz], .int .i64 kz]) (by simp [results, Tryz.results21, go_sem, z0, z1, z2]) rfl ⟨HRES.out, sz9⟩
end Go.Proofs.YtocknfhgjmaibaaGreatDoor
