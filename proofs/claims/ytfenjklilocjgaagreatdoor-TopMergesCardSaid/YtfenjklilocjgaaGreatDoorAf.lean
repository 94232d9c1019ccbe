/- Parts of the proof: Af. No condition of its own. -/
import Derived.Test.YtfenjklilocjgaaGreatDoorAd
set_option linter.unusedSimpArgs false
set_option linter.unusedVariables false
set_option linter.unusedSectionVars false
namespace Go.Proofs.YtfenjklilocjgaaGreatDoor
set_option linter.unusedSimpArgs false
set_option linter.unusedVariables false
set_option linter.unusedSectionVars false
open Go.RowKit Dg

theorem Own.set4 {w : World} {g : Nat} {t : TypeId} {a b c d : Value} (h : Own w g t [a, b, c, d]) (u v x y : Value) :
    Own ((((w.setCell ⟨g, 0, none⟩ u).setCell ⟨g, 1, none⟩ v).setCell ⟨g, 2, none⟩ x).setCell ⟨g, 3, none⟩ y) g t [u, v, x, y] :=
  (((h.set_ 0 u).set_ 1 v).set_ 2 x).set_ 3 y
theorem Below.set4 {B : Nat} {w w' : World} (h : Below B w w') {g : Nat} (hg : B ≤ g) (u v x y : Value) :
    Below B w ((((w'.setCell ⟨g, 0, none⟩ u).setCell ⟨g, 1, none⟩ v).setCell ⟨g, 2, none⟩ x).setCell ⟨g, 3, none⟩ y) :=
  (((h.setCell hg u).setCell hg v).setCell hg x).setCell hg y
theorem copyPairs_nil : RetV 124 #[.slice none 0 0] (.slice none 0 0) := by
  intro w
  go_enter Tryz.func124, Tryz.ntmps124
  go_wp2_with fail
  go_wp2
  go_ret
  exact ⟨rfl, Below.refl _ _⟩
set_option maxRecDepth 100000 in
set_option maxHeartbeats 1000000 in
theorem copyRegion_one : RetV 80 #[.agg #[.string ⟨#[115]⟩, .int .i64 0, .int .i64 1, .slice none 0 0], .int .i64 0] (.agg #[.string ⟨#[115]⟩, .int .i64 0, .int .i64 1, .slice none 0 0]) := by
  intro w
  obtain ⟨o_b, o_r, hbw⟩ := new2 w [.string ⟨#[115]⟩, .int .i64 0, .int .i64 1, .slice none 0 0] [.string ⟨#[]⟩, .int .i64 0, .int .i64 0, .slice none 0 0] 69 69
  go_enter Tryz.func80, Tryz.ntmps80
  go_upto_region 1 with (fail)
  generalize ((w.alloc (.cells #[.string ⟨#[115]⟩, .int .i64 0, .int .i64 1, .slice none 0 0] 69)).alloc (.cells #[.string ⟨#[]⟩, .int .i64 0, .int .i64 0, .slice none 0 0] 69)) = wb at o_b o_r hbw ⊢
  have qb_0 : wb.cell? ⟨w.heap.size, 0, none⟩ = some (.string ⟨#[115]⟩) := o_b.cell 0
  have qb_1 : wb.cell? ⟨w.heap.size, 1, none⟩ = some (.int .i64 0) := o_b.cell 1
  have qb_2 : wb.cell? ⟨w.heap.size, 2, none⟩ = some (.int .i64 1) := o_b.cell 2
  have qb_3 : wb.cell? ⟨w.heap.size, 3, none⟩ = some (.slice none 0 0) := o_b.cell 3
  have hw0 : IntKind.i64.wrap 0 = 0 := by decide
  have hw1 : IntKind.i64.wrap 1 = 1 := by decide
  refine wp_reg_st [some 5, some 6, some 7, some 8, some 9, some 10, some 11, some 12, some 13, some 14, some 15, some 16, some 17, some 18, none] [isV ?v1_0, isV ?v1_1, isV ?v1_2, isV ?v1_3, isV ?v1_4, isV ?v1_5, isV ?v1_6, isV ?v1_7, isV ?v1_8, isV ?v1_9, isV ?v1_10, isV ?v1_11, isV (.slice none 0 0), isV (.agg #[.string ⟨#[115]⟩, .int .i64 0, .int .i64 1, .slice none 0 0]), fun _ _ => False] [anyV, anyV, anyV, anyV, anyV, anyV, anyV, anyV, anyV, anyV, anyV, anyV, anyV, anyV, anyV] 14 [0, 1, 2, 3, 4, 5, 6, 7, 8, 9, 10, 11, 12, 13] (fun _ => fun w' => Own w' (w.heap.size + 1) 69 [.string ⟨#[115]⟩, .int .i64 0, .int .i64 1, .slice none 0 0] ∧ Below w.heap.size w w') rfl (by kernel_rfl) rfl rfl (by decide) (by kernel_rfl) (by kernel_rfl) (fun _ _ _ _ h => h) ?k1 ?m1 ⟨?s1_0, ?s1_1, ?s1_2, ?s1_3, ?s1_4, ?s1_5, ?s1_6, ?s1_7, ?s1_8, ?s1_9, ?s1_10, ?s1_11, ?s1_12, ?s1_13, ?s1_14, trivial⟩ ?p1
  case s1_0 =>
    rw [if_neg (by decide)]
    constructor
    · rw [if_neg (by decide)]
      intro t9 w9 hT9 hV9 hO9 K9 hK9
      have o9_2 := hO9 2 _ (.inl (show List.contains _ _ = false from by kernel_rfl)) rfl
      clear hV9 hO9
      go_simp
      (refine hK9 _ _ (Grow.refl _) ?_; exact rfl)
    · rw [if_pos (by decide)]; trivial
  case s1_1 =>
    rw [if_neg (by decide)]
    constructor
    · rw [if_neg (by decide)]
      intro t9 w9 hT9 hV9 hO9 K9 hK9
      obtain ⟨x9_0, p9_0, q9_0⟩ := hV9 0 5 rfl rfl (of_decide_eq_true (by kernel_rfl))
      obtain rfl : x9_0 = ?v1_0 := q9_0
      clear hV9 hO9
      have d9_0 := grow_cell hT9 qb_0
      have d9_1 := grow_cell hT9 qb_1
      have d9_2 := grow_cell hT9 qb_2
      have d9_3 := grow_cell hT9 qb_3
      go_simp
      (refine hK9 _ _ (Grow.refl _) ?_; exact rfl)
    · rw [if_pos (by decide)]; trivial
  case s1_2 =>
    rw [if_neg (by decide)]
    constructor
    · rw [if_neg (by decide)]
      intro t9 w9 hT9 hV9 hO9 K9 hK9
      have o9_2 := hO9 2 _ (.inl (show List.contains _ _ = false from by kernel_rfl)) rfl
      clear hV9 hO9
      go_simp
      (refine hK9 _ _ (Grow.refl _) ?_; exact rfl)
    · rw [if_pos (by decide)]; trivial
  case s1_3 =>
    rw [if_neg (by decide)]
    constructor
    · rw [if_neg (by decide)]
      intro t9 w9 hT9 hV9 hO9 K9 hK9
      obtain ⟨x9_2, p9_2, q9_2⟩ := hV9 2 7 rfl rfl (of_decide_eq_true (by kernel_rfl))
      obtain rfl : x9_2 = ?v1_2 := q9_2
      clear hV9 hO9
      have d9_0 := grow_cell hT9 qb_0
      have d9_1 := grow_cell hT9 qb_1
      have d9_2 := grow_cell hT9 qb_2
      have d9_3 := grow_cell hT9 qb_3
      go_simp
      (refine hK9 _ _ (Grow.refl _) ?_; exact rfl)
    · rw [if_pos (by decide)]; trivial
  case s1_4 =>
    rw [if_neg (by decide)]
    constructor
    · rw [if_neg (by decide)]
      intro t9 w9 hT9 hV9 hO9 K9 hK9
      have o9_1 := hO9 1 _ (.inl (show List.contains _ _ = false from by kernel_rfl)) rfl
      clear hV9 hO9
      go_simp
      (refine hK9 _ _ (Grow.refl _) ?_; exact rfl)
    · rw [if_pos (by decide)]; trivial
  case s1_5 =>
    rw [if_neg (by decide)]
    constructor
    · rw [if_neg (by decide)]
      intro t9 w9 hT9 hV9 hO9 K9 hK9
      obtain ⟨x9_3, p9_3, q9_3⟩ := hV9 3 8 rfl rfl (of_decide_eq_true (by kernel_rfl))
      obtain rfl : x9_3 = ?v1_3 := q9_3
      obtain ⟨x9_4, p9_4, q9_4⟩ := hV9 4 9 rfl rfl (of_decide_eq_true (by kernel_rfl))
      obtain rfl : x9_4 = ?v1_4 := q9_4
      clear hV9 hO9
      go_simp
      (refine hK9 _ _ (Grow.refl _) ?_; exact rfl)
    · rw [if_pos (by decide)]; trivial
  case s1_6 =>
    rw [if_neg (by decide)]
    constructor
    · rw [if_neg (by decide)]
      intro t9 w9 hT9 hV9 hO9 K9 hK9
      have o9_2 := hO9 2 _ (.inl (show List.contains _ _ = false from by kernel_rfl)) rfl
      clear hV9 hO9
      go_simp
      (refine hK9 _ _ (Grow.refl _) ?_; exact rfl)
    · rw [if_pos (by decide)]; trivial
  case s1_7 =>
    rw [if_neg (by decide)]
    constructor
    · rw [if_neg (by decide)]
      intro t9 w9 hT9 hV9 hO9 K9 hK9
      obtain ⟨x9_6, p9_6, q9_6⟩ := hV9 6 11 rfl rfl (of_decide_eq_true (by kernel_rfl))
      obtain rfl : x9_6 = ?v1_6 := q9_6
      clear hV9 hO9
      have d9_0 := grow_cell hT9 qb_0
      have d9_1 := grow_cell hT9 qb_1
      have d9_2 := grow_cell hT9 qb_2
      have d9_3 := grow_cell hT9 qb_3
      go_simp
      (refine hK9 _ _ (Grow.refl _) ?_; exact rfl)
    · rw [if_pos (by decide)]; trivial
  case s1_8 =>
    rw [if_neg (by decide)]
    constructor
    · rw [if_neg (by decide)]
      intro t9 w9 hT9 hV9 hO9 K9 hK9
      have o9_1 := hO9 1 _ (.inl (show List.contains _ _ = false from by kernel_rfl)) rfl
      clear hV9 hO9
      go_simp
      (refine hK9 _ _ (Grow.refl _) ?_; exact rfl)
    · rw [if_pos (by decide)]; trivial
  case s1_9 =>
    rw [if_neg (by decide)]
    constructor
    · rw [if_neg (by decide)]
      intro t9 w9 hT9 hV9 hO9 K9 hK9
      obtain ⟨x9_7, p9_7, q9_7⟩ := hV9 7 12 rfl rfl (of_decide_eq_true (by kernel_rfl))
      obtain rfl : x9_7 = ?v1_7 := q9_7
      obtain ⟨x9_8, p9_8, q9_8⟩ := hV9 8 13 rfl rfl (of_decide_eq_true (by kernel_rfl))
      obtain rfl : x9_8 = ?v1_8 := q9_8
      clear hV9 hO9
      go_simp
      (refine hK9 _ _ (Grow.refl _) ?_; exact rfl)
    · rw [if_pos (by decide)]; trivial
  case s1_10 =>
    rw [if_neg (by decide)]
    constructor
    · rw [if_neg (by decide)]
      intro t9 w9 hT9 hV9 hO9 K9 hK9
      have o9_2 := hO9 2 _ (.inl (show List.contains _ _ = false from by kernel_rfl)) rfl
      clear hV9 hO9
      go_simp
      (refine hK9 _ _ (Grow.refl _) ?_; exact rfl)
    · rw [if_pos (by decide)]; trivial
  case s1_11 =>
    rw [if_neg (by decide)]
    constructor
    · rw [if_neg (by decide)]
      intro t9 w9 hT9 hV9 hO9 K9 hK9
      obtain ⟨x9_10, p9_10, q9_10⟩ := hV9 10 15 rfl rfl (of_decide_eq_true (by kernel_rfl))
      obtain rfl : x9_10 = ?v1_10 := q9_10
      clear hV9 hO9
      have d9_0 := grow_cell hT9 qb_0
      have d9_1 := grow_cell hT9 qb_1
      have d9_2 := grow_cell hT9 qb_2
      have d9_3 := grow_cell hT9 qb_3
      go_simp
      (refine hK9 _ _ (Grow.refl _) ?_; exact rfl)
    · rw [if_pos (by decide)]; trivial
  case s1_12 =>
    rw [if_neg (by decide)]
    constructor
    · rw [if_neg (by decide)]
      intro t9 w9 hT9 hV9 hO9 K9 hK9
      obtain ⟨x9_11, p9_11, q9_11⟩ := hV9 11 16 rfl rfl (of_decide_eq_true (by kernel_rfl))
      obtain rfl : x9_11 = ?v1_11 := q9_11
      clear hV9 hO9
      go_simp
      refine (copyPairs_nil _).mono ?_
      rintro e w8 ⟨rfl, hb8⟩
      exact hK9 _ _ hb8 rfl
    · rw [if_pos (by decide)]; trivial
  case s1_13 =>
    rw [if_neg (by decide)]
    constructor
    · rw [if_neg (by decide)]
      intro t9 w9 hT9 hV9 hO9 K9 hK9
      obtain ⟨x9_1, p9_1, q9_1⟩ := hV9 1 6 rfl rfl (of_decide_eq_true (by kernel_rfl))
      obtain rfl : x9_1 = ?v1_1 := q9_1
      obtain ⟨x9_5, p9_5, q9_5⟩ := hV9 5 10 rfl rfl (of_decide_eq_true (by kernel_rfl))
      obtain rfl : x9_5 = ?v1_5 := q9_5
      obtain ⟨x9_9, p9_9, q9_9⟩ := hV9 9 14 rfl rfl (of_decide_eq_true (by kernel_rfl))
      obtain rfl : x9_9 = ?v1_9 := q9_9
      obtain ⟨x9_12, p9_12, q9_12⟩ := hV9 12 17 rfl rfl (of_decide_eq_true (by kernel_rfl))
      obtain rfl : x9_12 = (.slice none 0 0) := q9_12
      clear hV9 hO9
      go_simp
      (refine hK9 _ _ (Grow.refl _) ?_; exact rfl)
    · rw [if_pos (by decide)]; trivial
  case s1_14 =>
    rw [if_pos (by decide)]
    intro t9 w9 hT9 hV9 hO9 K9 hK9
    obtain ⟨x9_13, p9_13, q9_13⟩ := hV9 13 18 (by decide) rfl (of_decide_eq_true (by kernel_rfl))
    obtain rfl : x9_13 = (.agg #[.string ⟨#[115]⟩, .int .i64 0, .int .i64 1, .slice none 0 0]) := q9_13
    have o9_4 := hO9 4 _ (.inl (show List.contains _ _ = false from by kernel_rfl)) rfl
    clear hV9 hO9
    have og := o_r.below hT9.below o_r.lt
    have d0 : w9.cell? ⟨w.heap.size + 1, 0, none⟩ = some (.string ⟨#[]⟩) := og.cell 0
    have d1 : w9.cell? ⟨w.heap.size + 1, 1, none⟩ = some (.int .i64 0) := og.cell 1
    have d2 : w9.cell? ⟨w.heap.size + 1, 2, none⟩ = some (.int .i64 0) := og.cell 2
    have d3 : w9.cell? ⟨w.heap.size + 1, 3, none⟩ = some (.slice none 0 0) := og.cell 3
    have f0 := og.frozen 0
    have f1 := og.frozen 1
    have f2 := og.frozen 2
    have f3 := og.frozen 3
    have HE : Hid ((fun w' => Own w' (w.heap.size + 1) 69 [.string ⟨#[115]⟩, .int .i64 0, .int .i64 1, .slice none 0 0] ∧ Below w.heap.size w w') ((((w9.setCell ⟨w.heap.size + 1, 0, none⟩ (.string ⟨#[115]⟩)).setCell ⟨w.heap.size + 1, 1, none⟩ (.int .i64 0)).setCell ⟨w.heap.size + 1, 2, none⟩ (.int .i64 1)).setCell ⟨w.heap.size + 1, 3, none⟩ (.slice none 0 0))) := ⟨og.set4 (.string ⟨#[115]⟩) (.int .i64 0) (.int .i64 1) (.slice none 0 0), Below.set4 (below6 hbw hT9.below) (by omega) (.string ⟨#[115]⟩) (.int .i64 0) (.int .i64 1) (.slice none 0 0)⟩
    clear og
    go_simp
    exact hK9 undef _ HE.out trivial
  case k1 =>
    intro i9 v9 w9 x9 h9 g9
    match i9, h9 with
    | 0, h9 => exact h9
    | 1, h9 => exact h9
    | 2, h9 => exact h9
    | 3, h9 => exact h9
    | 4, h9 => exact h9
    | 5, h9 => exact h9
    | 6, h9 => exact h9
    | 7, h9 => exact h9
    | 8, h9 => exact h9
    | 9, h9 => exact h9
    | 10, h9 => exact h9
    | 11, h9 => exact h9
    | 12, h9 => exact h9
    | 13, h9 => exact h9
    | 14, h9 => exact h9
    | _ + 15, h9 => exact trivial
  case m1 =>
    intro i9 v9 w9 x9 ha9 hs9 h9
    match i9, ha9, hs9, h9 with
    | 0, ha9, hs9, h9 => exact absurd (by decide) ha9
    | 1, ha9, hs9, h9 => exact absurd (by decide) ha9
    | 2, ha9, hs9, h9 => exact absurd (by decide) ha9
    | 3, ha9, hs9, h9 => exact absurd (by decide) ha9
    | 4, ha9, hs9, h9 => exact absurd (by decide) ha9
    | 5, ha9, hs9, h9 => exact absurd (by decide) ha9
    | 6, ha9, hs9, h9 => exact absurd (by decide) ha9
    | 7, ha9, hs9, h9 => exact absurd (by decide) ha9
    | 8, ha9, hs9, h9 => exact absurd (by decide) ha9
    | 9, ha9, hs9, h9 => exact absurd (by decide) ha9
    | 10, ha9, hs9, h9 => exact absurd (by decide) ha9
    | 11, ha9, hs9, h9 => exact absurd (by decide) ha9
    | 12, ha9, hs9, h9 => exact absurd (by decide) ha9
    | 13, ha9, hs9, h9 => exact absurd (by decide) ha9
    | 14, ha9, hs9, h9 => exact absurd rfl hs9
    | _ + 15, ha9, hs9, h9 => exact trivial
  intro u9 w9 hE9 hu9
  obtain ⟨_, r9_0⟩ := (hu9 0 (by decide)).pre (by decide)
  replace r9_0 : u9 0 = ?v1_0 := r9_0
  obtain ⟨_, r9_1⟩ := (hu9 1 (by decide)).pre (by decide)
  replace r9_1 : u9 1 = ?v1_1 := r9_1
  obtain ⟨_, r9_2⟩ := (hu9 2 (by decide)).pre (by decide)
  replace r9_2 : u9 2 = ?v1_2 := r9_2
  obtain ⟨_, r9_3⟩ := (hu9 3 (by decide)).pre (by decide)
  replace r9_3 : u9 3 = ?v1_3 := r9_3
  obtain ⟨_, r9_4⟩ := (hu9 4 (by decide)).pre (by decide)
  replace r9_4 : u9 4 = ?v1_4 := r9_4
  obtain ⟨_, r9_5⟩ := (hu9 5 (by decide)).pre (by decide)
  replace r9_5 : u9 5 = ?v1_5 := r9_5
  obtain ⟨_, r9_6⟩ := (hu9 6 (by decide)).pre (by decide)
  replace r9_6 : u9 6 = ?v1_6 := r9_6
  obtain ⟨_, r9_7⟩ := (hu9 7 (by decide)).pre (by decide)
  replace r9_7 : u9 7 = ?v1_7 := r9_7
  obtain ⟨_, r9_8⟩ := (hu9 8 (by decide)).pre (by decide)
  replace r9_8 : u9 8 = ?v1_8 := r9_8
  obtain ⟨_, r9_9⟩ := (hu9 9 (by decide)).pre (by decide)
  replace r9_9 : u9 9 = ?v1_9 := r9_9
  obtain ⟨_, r9_10⟩ := (hu9 10 (by decide)).pre (by decide)
  replace r9_10 : u9 10 = ?v1_10 := r9_10
  obtain ⟨_, r9_11⟩ := (hu9 11 (by decide)).pre (by decide)
  replace r9_11 : u9 11 = ?v1_11 := r9_11
  obtain ⟨_, r9_12⟩ := (hu9 12 (by decide)).pre (by decide)
  replace r9_12 : u9 12 = (.slice none 0 0) := r9_12
  obtain ⟨_, r9_13⟩ := (hu9 13 (by decide)).pre (by decide)
  replace r9_13 : u9 13 = (.agg #[.string ⟨#[115]⟩, .int .i64 0, .int .i64 1, .slice none 0 0]) := r9_13
  clear hu9
  obtain ⟨oz, sz⟩ := hE9
  simp only [putAll, Act.put, List.setIfInBounds_toArray, List.set_cons_succ, List.set_cons_zero, List.getD_cons_succ, List.getD_cons_zero, Nat.reduceAdd, Nat.zero_add]
  simp only [r9_0, r9_1, r9_2, r9_3, r9_4, r9_5, r9_6, r9_7, r9_8, r9_9, r9_10, r9_11, r9_12, r9_13]
  clear r9_0 r9_1 r9_2 r9_3 r9_4 r9_5 r9_6 r9_7 r9_8 r9_9 r9_10 r9_11 r9_12 r9_13
  have z0 : w9.cell? ⟨w.heap.size + 1, 0, none⟩ = some (.string ⟨#[115]⟩) := oz.cell 0
  have z1 : w9.cell? ⟨w.heap.size + 1, 1, none⟩ = some (.int .i64 0) := oz.cell 1
  have z2 : w9.cell? ⟨w.heap.size + 1, 2, none⟩ = some (.int .i64 1) := oz.cell 2
  have z3 : w9.cell? ⟨w.heap.size + 1, 3, none⟩ = some (.slice none 0 0) := oz.cell 3
  go_wp2_with fail
  exact bodyPost_ret (v := .agg #[.string ⟨#[115]⟩, .int .i64 0, .int .i64 1, .slice none 0 0]) (by simp [results, Tryz.results80, go_sem, z0, z1, z2, z3]) rfl ⟨rfl, sz⟩
set_option maxRecDepth 100000 in
set_option maxHeartbeats 1000000 in
theorem sortRegions_one (gr cr : Nat) (w : World) (hr : Rd w (some ⟨gr, 0, none⟩) [.string ⟨#[115]⟩, .int .i64 0, .int .i64 1, .slice none 0 0]) : Calls Tryz.prog 42 #[.slice (some ⟨gr, 0, none⟩) 1 cr] w fun e w' => ∃ v, e = .returned v ∧ w'.ownsRow w.heap.size 69 4 v 1 [.string ⟨#[115]⟩, .int .i64 0, .int .i64 1, .slice none 0 0] ∧ Below w.heap.size w w' := by
  obtain ⟨i0, hi0, hz0, hz1, hz2⟩ := info_parts region_info
  have h63 : 0 + 1 ≤ maxLen := by unfold maxLen; omega
  have p0 : w.cell? ⟨gr, 0, none⟩ = some (.string ⟨#[115]⟩) := hr.c9 0 rfl
  have p1 : w.cell? ⟨gr, 1, none⟩ = some (.int .i64 0) := hr.c9 1 rfl
  have p2 : w.cell? ⟨gr, 2, none⟩ = some (.int .i64 1) := hr.c9 2 rfl
  have p3 : w.cell? ⟨gr, 3, none⟩ = some (.slice none 0 0) := hr.c9 3 rfl
  clear hr
  go_enter Tryz.func42, Tryz.ntmps42
  go_wp2_with fail
  refine wp_loop_rounds 2 ?_
  rw [rounds_succ]
  go_wp2_with fail
  obtain ⟨o_p, hbw⟩ := new1 w [.string ⟨#[115]⟩, .int .i64 0, .int .i64 1, .slice none 0 0] 69
  generalize (w.alloc (.cells #[.string ⟨#[115]⟩, .int .i64 0, .int .i64 1, .slice none 0 0] 69)) = wb at o_p hbw ⊢
  clear p0 p1 p2 p3
  refine wp_loop_rounds 1 ?_
  rw [rounds_succ]
  go_upto_region 6 with (fail)
  refine wp_reg_f [some 15, some 16, some 17, some 18, some 19, some 20, some 21, some 22, some 23, some 24, some 25, some 26] [?v2_0, ?v2_1, ?v2_2, ?v2_3, ?v2_4, ?v2_5, ?v2_6, ?v2_7, ?v2_8, ?v2_9, ?v2_10, ?v2_11] [[], [0], [1], [2], [2], [2], [2, 5], [2, 4, 6], [2, 7], [2, 3, 8], [2, 9], [2, 10]] [(3, _), (5, _), (6, _)] ⟨rfl, rfl, rfl, trivial⟩ rfl (by kernel_rfl) rfl rfl (by kernel_rfl) (by kernel_rfl) ⟨?s2_0, ?s2_1, ?s2_2, ?s2_3, ?s2_4, ?s2_5, ?s2_6, ?s2_7, ?s2_8, ?s2_9, ?s2_10, ?s2_11, trivial⟩ ?p2
  all_goals try (intro t9 w9 hT9 K9 hK9; simp only [OV, FV, List.getD_cons_succ, List.getD_cons_zero, Option.getD_some]; intros)
  case s2_0 | s2_1 | s2_2 | s2_3 | s2_4 | s2_5 | s2_6 | s2_7 | s2_8 | s2_9 | s2_10 | s2_11 =>
    go_simp
    exact hK9 _ (Grow.refl _)
  intro w9 hb9
  simp only [putL, Act.put, List.setIfInBounds_toArray, List.set_cons_succ, List.set_cons_zero]
  replace o_p := o_p.below hb9 o_p.lt
  replace hbw := below6 hbw hb9
  clear hb9
  have hown := World.ownsRow_nil w9 w.heap.size 69 4
  have HOW := Lib.hid hown
  clear hown
  have hszw := hbw.size
  go_wp2_with (at_builtin; refine wpList_append_own_at _ rfl (.tmp 29) (.tmp 31) 25 rfl w.heap.size 69 i0 _ 4 56 Tryz.underlying25 hi0 hz0 hz1 hz2 rfl (by decide) _ 0 [] rfl (HOW.out.alloc _) ⟨w9.heap.size, 0, none⟩ 1 1 [.string ⟨#[]⟩, .int .i64 0, .int .i64 0, .slice none 0 0] rfl rfl (new_cells _ _ _ _ rfl) (by simp [Value.oneCell']) h63 (by omega) (by rw [size1]; omega) ?_)
  intro v' w' hown' hgrow _ hat
  have hbw' : Below w.heap.size w w' := (hbw.alloc hbw.size _).grown hgrow (by rw [size1]; omega) (own_lt HOW.out)
  have o_p' : Own w' w.heap.size 69 [.string ⟨#[115]⟩, .int .i64 0, .int .i64 1, .slice none 0 0] := (hgrow.block _ (by rw [size1]; have := o_p.lt; omega) (by intro e; cases e)).trans (o_p.alloc _)
  obtain ⟨g2, cap2, rfl, hg2, hg3⟩ := hown'.form (by decide)
  have hne : g2 ≠ w.heap.size := by
    rcases hat with e | e
    · cases e
    · have e2 : g2 = w9.heap.size + 1 := by injection e
      have := o_p.lt
      omega
  clear hgrow hat o_p hbw HOW hszw
  have hcap : 1 ≤ cap2 := by
    obtain ⟨A9, c9, e9, h9, -⟩ := own_form hown'
    injection e9 with _ _ e9
    subst e9
    exact h9
  have hcp : ∀ (d : Option Addr) (c : Nat) (W : World), (Builtin.copy_ #[25, 25] 3 #[.slice d 0 c, .slice (some ⟨g2, 0, none⟩) 1 cap2]).run Tryz.prog W = .ok (.int .i64 0) W := fun d c W =>
    run_copy_zero W _ _ _ 69 d _ 0 c 1 cap2 Tryz.underlying25 (by rw [hi0]; rfl) (by decide)
  have hz1' : IntKind.i64.wrap 1 = 1 := by decide
  go_upto_region 9 with (fail)
  refine wp_reg_f [some 33, some 34, some 35, some 36, some 37, some 38, some 39, some 40] [?v3_0, ?v3_1, ?v3_2, ?v3_3, ?v3_4, ?v3_5, ?v3_6, ?v3_7] [[], [], [1], [0, 2], [], [], [4, 5], [3, 6]] [(3, _), (6, _)] ⟨rfl, rfl, trivial⟩ rfl (by kernel_rfl) rfl rfl (by kernel_rfl) (by kernel_rfl) ⟨?s3_0, ?s3_1, ?s3_2, ?s3_3, ?s3_4, ?s3_5, ?s3_6, ?s3_7, trivial⟩ ?p3
  all_goals try (intro t9 w9 hT9 K9 hK9; simp only [OV, FV, List.getD_cons_succ, List.getD_cons_zero, Option.getD_some]; intros)
  case s3_0 | s3_1 | s3_2 | s3_3 | s3_4 | s3_5 | s3_6 | s3_7 =>
    go_simp
    exact hK9 _ (Grow.refl _)
  intro w9 hb9
  simp only [putL, Act.put, List.setIfInBounds_toArray, List.set_cons_succ, List.set_cons_zero]
  generalize (if cap2 = 1 then some (⟨g2, 0, none⟩ : Addr) else some ⟨g2, 4, none⟩) = dv
  replace hbw' := below6 hbw' hb9
  replace o_p' := o_p'.below hb9 o_p'.lt
  have hown9 := own_below1 hown' hb9
  clear hb9 hown'
  have pp0 : w9.cell? ⟨w.heap.size, 0, none⟩ = some (.string ⟨#[115]⟩) := o_p'.cell 0
  have pp1 : w9.cell? ⟨w.heap.size, 1, none⟩ = some (.int .i64 0) := o_p'.cell 1
  have pp2 : w9.cell? ⟨w.heap.size, 2, none⟩ = some (.int .i64 1) := o_p'.cell 2
  have pp3 : w9.cell? ⟨w.heap.size, 3, none⟩ = some (.slice none 0 0) := o_p'.cell 3
  go_wp2_with fail
  refine (copyRegion_one _).mono ?_
  rintro e w7 ⟨rfl, hb7⟩
  replace hbw' := below6 hbw' hb7
  have hown8 := own_below1 hown9 hb7
  clear hb7 hown9 o_p' pp0 pp1 pp2 pp3
  have c0 : w7.cell? ⟨g2, 0, none⟩ = some (.string ⟨#[]⟩) := hown8.cellAt 0 (by decide)
  have c1 : w7.cell? ⟨g2, 1, none⟩ = some (.int .i64 0) := hown8.cellAt 1 (by decide)
  have c2 : w7.cell? ⟨g2, 2, none⟩ = some (.int .i64 0) := hown8.cellAt 2 (by decide)
  have c3 : w7.cell? ⟨g2, 3, none⟩ = some (.slice none 0 0) := hown8.cellAt 3 (by decide)
  have fz0 := hown8.frozenAt 0
  have fz1 := hown8.frozenAt 1
  have fz2 := hown8.frozenAt 2
  have fz3 := hown8.frozenAt 3
  have s2 := ((((hown8.stored 0 (.string ⟨#[115]⟩)).1.stored 1 (.int .i64 0)).1.stored 2 (.int .i64 1)).1.stored 3 (.slice none 0 0)).1
  have hb9 := Below.set4 hbw' hg2 (.string ⟨#[115]⟩) (.int .i64 0) (.int .i64 1) (.slice none 0 0)
  go_wp2_with fail
  generalize ((((w7.setCell ⟨g2, 0, none⟩ (.string ⟨#[115]⟩)).setCell ⟨g2, 1, none⟩ (.int .i64 0)).setCell ⟨g2, 2, none⟩ (.int .i64 1)).setCell ⟨g2, 3, none⟩ (.slice none 0 0)) = wz at s2 hb9 ⊢
  rw [rounds_succ]
  go_wp2
  go_ret
  exact ⟨_, rfl, s2, hb9⟩
end Go.Proofs.YtfenjklilocjgaaGreatDoor
