/- Parts of the proof: Wi. No condition of its own. -/
import Derived.Test.YtjimfbmegmnocaaGreatDoorWu
import Derived.Test.YtjimfbmegmnocaaGreatDoorRw
set_option linter.unusedSimpArgs false
set_option linter.unusedVariables false
set_option maxRecDepth 100000
set_option maxHeartbeats 4000000
namespace Go.Proofs.YtjimfbmegmnocaaGreatDoor
open Go.RowKit Dg

theorem dk_sm9 {x : Nat} (h : x <= 1000) : (dk x).length <= 1048576 := by
 have : (dk x).length <= 3 := Dg.dg_le b10k (Nat.lt_of_le_of_lt h (by decide))
 omega
def moreB (nx mx ny my : Nat) (x y : ByteArray) : Bool :=
 if decide (mx = 0) = decide (my = 0) then
  (if mx = 0 then ltS x y else decide (ny * mx < nx * my) || (decide (ny * mx = nx * my) && ltS x y))
 else decide (mx = 0)
theorem more38_any (x y : ByteArray) (nx mx ny my : Nat) (x2 bx x4 y2 by_ y4 : Int) (hbx : bx = (nx : Int) + (mx : Int)) (hby : by_ = (ny : Int) + (my : Int)) (h1 : nx <= 1000) (h2 : mx <= 1000) (h3 : ny <= 1000) (h4 : my <= 1000) (w : World) :
  Calls Tryz.prog 31 #[.agg #[.int .i64 (nx : Int), .int .i64 x2, .int .i64 bx, .int .i64 x4], .agg #[.int .i64 (ny : Int), .int .i64 y2, .int .i64 by_, .int .i64 y4], .string x, .string y] w fun e w' => e = .returned (.bool (moreB nx mx ny my x y)) /\ Below w.heap.size w w' := by
 obtain ⟨o_x, o_y, hbw⟩ := new2 w [.int .i64 (nx : Int), .int .i64 x2, .int .i64 bx, .int .i64 x4] [.int .i64 (ny : Int), .int .i64 y2, .int .i64 by_, .int .i64 y4] 47 47; have hsz : ((w.alloc (.cells #[.int .i64 (nx : Int), .int .i64 x2, .int .i64 bx, .int .i64 x4] 47)).alloc (.cells #[.int .i64 (ny : Int), .int .i64 y2, .int .i64 by_, .int .i64 y4] 47)).heap.size = w.heap.size + 1 + 1 := by simp
 obtain ⟨res, hres⟩ : ∃ r, r = moreB nx mx ny my x y := ⟨_, rfl⟩; rw [<- hres]; have HR := Z' hres; clear hres; have H1 := Z' h1; have H2 := Z' h2; have H3 := Z' h3; have H4 := Z' h4; have z1 : IntKind.u64.wrap (nx : Int) = (nx : Int) := IntWalk.u64_in _ (by omega); have z2 : IntKind.u64.wrap (mx : Int) = (mx : Int) := IntWalk.u64_in _ (by omega); have z3 : IntKind.u64.wrap (ny : Int) = (ny : Int) := IntWalk.u64_in _ (by omega); have z4 : IntKind.u64.wrap (my : Int) = (my : Int) := IntWalk.u64_in _ (by omega); have z5 : IntKind.i64.wrap (bx - (nx : Int)) = (mx : Int) := (IntWalk.i64_in _ (by omega)).trans (by omega); have z6 : IntKind.i64.wrap (by_ - (ny : Int)) = (my : Int) := (IntWalk.i64_in _ (by omega)).trans (by omega); have HBX := Z' hbx; have HBY := Z' hby
 clear h1 h2 h3 h4 hbx hby
 go_enter Tryz.func31, Tryz.ntmps31
 go_upto_region 1 with (fail)
 generalize ((w.alloc (.cells #[.int .i64 (nx : Int), .int .i64 x2, .int .i64 bx, .int .i64 x4] 47)).alloc (.cells #[.int .i64 (ny : Int), .int .i64 y2, .int .i64 by_, .int .i64 y4] 47)) = wb at o_x o_y hbw hsz |-; obtain ⟨B, hB⟩ : ∃ B, B = w.heap.size := ⟨_, rfl⟩; rw [<- hB] at o_x o_y hsz hbw |-; have HB := Z' hB; clear hB; have x_0 := o_x.c0; have x_2 := o_x.c2; have y_0 := o_y.c0; have y_2 := o_y.c2; refine wp_reg_ra [some 14, some 15, some 16, some 17, some 18, some 19, some 20, some 21, some 22, some 23, some 24, some 25, some 26, some 27, some 28, some 29, some 30, some 31, some 32, some 33, some 34, some 35, some 36, some 37, some 9, some 10] [isV ?v1_0, isV ?v1_1, isV (.int .u64 (nx : Int)), (fun v w' => BigV w' v (nx)), isV ?v1_4, isV ?v1_5, isV ?v1_6, isV ?v1_7, isV (.int .i64 (my : Int)), isV (.int .u64 (my : Int)), (fun v w' => BigV w' v (my)), (fun v w' => BigV w' v (nx * my)), isV ?v1_12, isV ?v1_13, isV (.int .u64 (ny : Int)), (fun v w' => BigV w' v (ny)), isV ?v1_16, isV ?v1_17, isV ?v1_18, isV ?v1_19, isV (.int .i64 (mx : Int)), isV (.int .u64 (mx : Int)), (fun v w' => BigV w' v (mx)), (fun v w' => BigV w' v (ny * mx)), (fun v w' => BigV w' v (nx * my)), (fun v w' => BigV w' v (ny * mx))] rfl (by kernel_rfl) rfl rfl ?k1 ⟨?s1_0, ?s1_1, ?s1_2, ?s1_3, ?s1_4, ?s1_5, ?s1_6, ?s1_7, ?s1_8, ?s1_9, ?s1_10, ?s1_11, ?s1_12, ?s1_13, ?s1_14, ?s1_15, ?s1_16, ?s1_17, ?s1_18, ?s1_19, ?s1_20, ?s1_21, ?s1_22, ?s1_23, ?s1_24, ?s1_25, trivial⟩ ?p1
 case s1_0 =>
  intro t9 w9 hT9 hV9 hO9 K9 hK9; have o9_4 := hO9.l 4; clear hV9 hO9; go_simp
  (refine hK9 _ _ (Grow.refl _) ?_; exact rfl)
 case s1_1 =>
  intro t w T V O K k; have p0 : t[14]? = some ?v1_0 := V.v 0 14 rfl rfl (by kernel_rfl) rfl; clear V O; have d0 := grow_cell T x_0; have d1 := grow_cell T x_2; have d2 := grow_cell T y_0; have d3 := grow_cell T y_2; go_simp
  (refine k _ _ (Grow.refl _) ?_; exact rfl)
 case s1_2 =>
  intro t w T V O K k; have p1 : t[15]? = some ?v1_1 := V.v 1 15 rfl rfl (by kernel_rfl) rfl; clear V O; go_simp
  (refine k _ _ (Grow.refl _) ?_; exact rfl)
 case s1_3 =>
  intro t w T V O K k; have p2 : t[16]? = some ((.int .u64 (nx : Int))) := V.v 2 16 rfl rfl (by kernel_rfl) rfl; clear V O; go_simp; refine (of64_ref nx (by have := H1.out; omega) _).mono ?_; rintro e w8 ⟨v8, rfl, h8, hb8⟩; exact k _ _ hb8 h8
 case s1_4 =>
  intro t9 w9 hT9 hV9 hO9 K9 hK9; have o9_5 := hO9.l 5; clear hV9 hO9; go_simp
  (refine hK9 _ _ (Grow.refl _) ?_; exact rfl)
 case s1_5 =>
  intro t w T V O K k; have p4 : t[18]? = some ?v1_4 := V.v 4 18 rfl rfl (by kernel_rfl) rfl; clear V O; have d0 := grow_cell T x_0; have d1 := grow_cell T x_2; have d2 := grow_cell T y_0; have d3 := grow_cell T y_2; go_simp
  (refine k _ _ (Grow.refl _) ?_; exact rfl)
 case s1_6 =>
  intro t9 w9 hT9 hV9 hO9 K9 hK9; have o9_5 := hO9.l 5; clear hV9 hO9; go_simp
  (refine hK9 _ _ (Grow.refl _) ?_; exact rfl)
 case s1_7 =>
  intro t w T V O K k; have p6 : t[20]? = some ?v1_6 := V.v 6 20 rfl rfl (by kernel_rfl) rfl; clear V O; have d0 := grow_cell T x_0; have d1 := grow_cell T x_2; have d2 := grow_cell T y_0; have d3 := grow_cell T y_2; go_simp
  (refine k _ _ (Grow.refl _) ?_; exact rfl)
 case s1_8 =>
  intro t w T V O K k; have p5 : t[19]? = some ?v1_5 := V.v 5 19 rfl rfl (by kernel_rfl) rfl; have p7 : t[21]? = some ?v1_7 := V.v 7 21 rfl rfl (by kernel_rfl) rfl; clear V O; go_simp
  (refine k _ _ (Grow.refl _) ?_; exact rfl)
 case s1_9 =>
  intro t w T V O K k; have p8 : t[22]? = some ((.int .i64 (my : Int))) := V.v 8 22 rfl rfl (by kernel_rfl) rfl; clear V O; go_simp
  (refine k _ _ (Grow.refl _) ?_; exact rfl)
 case s1_10 =>
  intro t w T V O K k; have p9 : t[23]? = some ((.int .u64 (my : Int))) := V.v 9 23 rfl rfl (by kernel_rfl) rfl; clear V O; go_simp; refine (of64_ref my (by have := H4.out; omega) _).mono ?_; rintro e w8 ⟨v8, rfl, h8, hb8⟩; exact k _ _ hb8 h8
 case s1_11 =>
  intro t w T V O K k; obtain ⟨x3, p3, q3⟩ := V 3 17 rfl rfl (of_decide_eq_true (by kernel_rfl)); replace q3 : ((fun v w' => BigV w' v (nx))) x3 _ := q3; obtain ⟨x10, p10, q10⟩ := V 10 24 rfl rfl (of_decide_eq_true (by kernel_rfl)); replace q10 : ((fun v w' => BigV w' v (my))) x10 _ := q10; clear V O; have HQ1 := Z' q3; have HQ2 := Z' q10; clear q3 q10; go_simp; refine (times_ref _ HQ1.out HQ2.out (dk_sm9 H1.out) (dk_sm9 H4.out)).mono ?_; rintro e w8 ⟨v8, rfl, h8, hb8⟩; exact k _ _ hb8 h8
 case s1_12 =>
  intro t9 w9 hT9 hV9 hO9 K9 hK9; have o9_5 := hO9.l 5; clear hV9 hO9; go_simp
  (refine hK9 _ _ (Grow.refl _) ?_; exact rfl)
 case s1_13 =>
  intro t w T V O K k; have p12 : t[26]? = some ?v1_12 := V.v 12 26 rfl rfl (by kernel_rfl) rfl; clear V O; have d0 := grow_cell T x_0; have d1 := grow_cell T x_2; have d2 := grow_cell T y_0; have d3 := grow_cell T y_2; go_simp
  (refine k _ _ (Grow.refl _) ?_; exact rfl)
 case s1_14 =>
  intro t w T V O K k; have p13 : t[27]? = some ?v1_13 := V.v 13 27 rfl rfl (by kernel_rfl) rfl; clear V O; go_simp
  (refine k _ _ (Grow.refl _) ?_; exact rfl)
 case s1_15 =>
  intro t w T V O K k; have p14 : t[28]? = some ((.int .u64 (ny : Int))) := V.v 14 28 rfl rfl (by kernel_rfl) rfl; clear V O; go_simp; refine (of64_ref ny (by have := H3.out; omega) _).mono ?_; rintro e w8 ⟨v8, rfl, h8, hb8⟩; exact k _ _ hb8 h8
 case s1_16 =>
  intro t9 w9 hT9 hV9 hO9 K9 hK9; have o9_4 := hO9.l 4; clear hV9 hO9; go_simp
  (refine hK9 _ _ (Grow.refl _) ?_; exact rfl)
 case s1_17 =>
  intro t w T V O K k; have p16 : t[30]? = some ?v1_16 := V.v 16 30 rfl rfl (by kernel_rfl) rfl; clear V O; have d0 := grow_cell T x_0; have d1 := grow_cell T x_2; have d2 := grow_cell T y_0; have d3 := grow_cell T y_2; go_simp
  (refine k _ _ (Grow.refl _) ?_; exact rfl)
 case s1_18 =>
  intro t9 w9 hT9 hV9 hO9 K9 hK9; have o9_4 := hO9.l 4; clear hV9 hO9; go_simp
  (refine hK9 _ _ (Grow.refl _) ?_; exact rfl)
 case s1_19 =>
  intro t w T V O K k; have p18 : t[32]? = some ?v1_18 := V.v 18 32 rfl rfl (by kernel_rfl) rfl; clear V O; have d0 := grow_cell T x_0; have d1 := grow_cell T x_2; have d2 := grow_cell T y_0; have d3 := grow_cell T y_2; go_simp
  (refine k _ _ (Grow.refl _) ?_; exact rfl)
 case s1_20 =>
  intro t w T V O K k; have p17 : t[31]? = some ?v1_17 := V.v 17 31 rfl rfl (by kernel_rfl) rfl; have p19 : t[33]? = some ?v1_19 := V.v 19 33 rfl rfl (by kernel_rfl) rfl; clear V O; go_simp
  (refine k _ _ (Grow.refl _) ?_; exact rfl)
 case s1_21 =>
  intro t w T V O K k; have p20 : t[34]? = some ((.int .i64 (mx : Int))) := V.v 20 34 rfl rfl (by kernel_rfl) rfl; clear V O; go_simp
  (refine k _ _ (Grow.refl _) ?_; exact rfl)
 case s1_22 =>
  intro t w T V O K k; have p21 : t[35]? = some ((.int .u64 (mx : Int))) := V.v 21 35 rfl rfl (by kernel_rfl) rfl; clear V O; go_simp; refine (of64_ref mx (by have := H2.out; omega) _).mono ?_; rintro e w8 ⟨v8, rfl, h8, hb8⟩; exact k _ _ hb8 h8
 case s1_23 =>
  intro t w T V O K k; obtain ⟨x15, p15, q15⟩ := V 15 29 rfl rfl (of_decide_eq_true (by kernel_rfl)); replace q15 : ((fun v w' => BigV w' v (ny))) x15 _ := q15; obtain ⟨x22, p22, q22⟩ := V 22 36 rfl rfl (of_decide_eq_true (by kernel_rfl)); replace q22 : ((fun v w' => BigV w' v (mx))) x22 _ := q22; clear V O; have HQ1 := Z' q15; have HQ2 := Z' q22; clear q15 q22; go_simp; refine (times_ref _ HQ1.out HQ2.out (dk_sm9 H3.out) (dk_sm9 H2.out)).mono ?_; rintro e w8 ⟨v8, rfl, h8, hb8⟩; exact k _ _ hb8 h8
 case s1_24 =>
  intro t w T V O K k; obtain ⟨x11, p11, q11⟩ := V 11 25 rfl rfl (of_decide_eq_true (by kernel_rfl)); replace q11 : ((fun v w' => BigV w' v (nx * my))) x11 _ := q11; clear V O; go_simp; exact k _ _ (Grow.refl w) q11
 case s1_25 =>
  intro t w T V O K k; obtain ⟨x23, p23, q23⟩ := V 23 37 rfl rfl (of_decide_eq_true (by kernel_rfl)); replace q23 : ((fun v w' => BigV w' v (ny * mx))) x23 _ := q23; clear V O; go_simp; exact k _ _ (Grow.refl w) q23
 case k1 =>
  intro i9 v9 w9 x9 h9 g9
  match i9, h9 with
  | 0, h9 => exact h9
  | 1, h9 => exact h9
  | 2, h9 => exact h9
  | 3, h9 => (replace h9 : (fun v w' => BigV w' v (nx)) v9 w9 := h9); exact BigV.below h9 g9
  | 4, h9 => exact h9
  | 5, h9 => exact h9
  | 6, h9 => exact h9
  | 7, h9 => exact h9
  | 8, h9 => exact h9
  | 9, h9 => exact h9
  | 10, h9 => (replace h9 : (fun v w' => BigV w' v (my)) v9 w9 := h9); exact BigV.below h9 g9
  | 11, h9 => (replace h9 : (fun v w' => BigV w' v (nx * my)) v9 w9 := h9); exact BigV.below h9 g9
  | 12, h9 => exact h9
  | 13, h9 => exact h9
  | 14, h9 => exact h9
  | 15, h9 => (replace h9 : (fun v w' => BigV w' v (ny)) v9 w9 := h9); exact BigV.below h9 g9
  | 16, h9 => exact h9
  | 17, h9 => exact h9
  | 18, h9 => exact h9
  | 19, h9 => exact h9
  | 20, h9 => exact h9
  | 21, h9 => exact h9
  | 22, h9 => (replace h9 : (fun v w' => BigV w' v (mx)) v9 w9 := h9); exact BigV.below h9 g9
  | 23, h9 => (replace h9 : (fun v w' => BigV w' v (ny * mx)) v9 w9 := h9); exact BigV.below h9 g9
  | 24, h9 => (replace h9 : (fun v w' => BigV w' v (nx * my)) v9 w9 := h9); exact BigV.below h9 g9
  | 25, h9 => (replace h9 : (fun v w' => BigV w' v (ny * mx)) v9 w9 := h9); exact BigV.below h9 g9
  | _ + 26, h9 => exact trivial
 intro u9 w9 hE9 hu9; have r9_0 : u9 0 = ?v1_0 := hu9 0 (by decide); have r9_1 : u9 1 = ?v1_1 := hu9 1 (by decide); have r9_2 : u9 2 = (.int .u64 (nx : Int)) := hu9 2 (by decide); have r9_3 : (fun v w' => BigV w' v (nx)) (u9 3) w9 := hu9 3 (by decide); have r9_4 : u9 4 = ?v1_4 := hu9 4 (by decide); have r9_5 : u9 5 = ?v1_5 := hu9 5 (by decide); have r9_6 : u9 6 = ?v1_6 := hu9 6 (by decide); have r9_7 : u9 7 = ?v1_7 := hu9 7 (by decide); have r9_8 : u9 8 = (.int .i64 (my : Int)) := hu9 8 (by decide); have r9_9 : u9 9 = (.int .u64 (my : Int)) := hu9 9 (by decide); have r9_10 : (fun v w' => BigV w' v (my)) (u9 10) w9 := hu9 10 (by decide); have r9_11 : (fun v w' => BigV w' v (nx * my)) (u9 11) w9 := hu9 11 (by decide); have r9_12 : u9 12 = ?v1_12 := hu9 12 (by decide); have r9_13 : u9 13 = ?v1_13 := hu9 13 (by decide); have r9_14 : u9 14 = (.int .u64 (ny : Int)) := hu9 14 (by decide); have r9_15 : (fun v w' => BigV w' v (ny)) (u9 15) w9 := hu9 15 (by decide)
 have r9_16 : u9 16 = ?v1_16 := hu9 16 (by decide); have r9_17 : u9 17 = ?v1_17 := hu9 17 (by decide); have r9_18 : u9 18 = ?v1_18 := hu9 18 (by decide); have r9_19 : u9 19 = ?v1_19 := hu9 19 (by decide); have r9_20 : u9 20 = (.int .i64 (mx : Int)) := hu9 20 (by decide); have r9_21 : u9 21 = (.int .u64 (mx : Int)) := hu9 21 (by decide); have r9_22 : (fun v w' => BigV w' v (mx)) (u9 22) w9 := hu9 22 (by decide); have r9_23 : (fun v w' => BigV w' v (ny * mx)) (u9 23) w9 := hu9 23 (by decide); have r9_24 : (fun v w' => BigV w' v (nx * my)) (u9 24) w9 := hu9 24 (by decide); have r9_25 : (fun v w' => BigV w' v (ny * mx)) (u9 25) w9 := hu9 25 (by decide); clear hu9
 simp only [putAll, Act.put, List.setIfInBounds_toArray, List.set_cons_succ, List.set_cons_zero, List.getD_cons_succ, List.getD_cons_zero, Nat.reduceAdd, Nat.zero_add]
 simp only [r9_0, r9_1, r9_2, r9_4, r9_5, r9_6, r9_7, r9_8, r9_9, r9_12, r9_13, r9_14, r9_16, r9_17, r9_18, r9_19, r9_20, r9_21]
 clear r9_0 r9_1 r9_2 r9_4 r9_5 r9_6 r9_7 r9_8 r9_9 r9_12 r9_13 r9_14 r9_16 r9_17 r9_18 r9_19 r9_20 r9_21; obtain ⟨X, hX⟩ : ∃ v, u9 24 = v := ⟨_, rfl⟩; obtain ⟨Y, hY⟩ : ∃ v, u9 25 = v := ⟨_, rfl⟩; rw [hX] at r9_24 |-; rw [hY] at r9_25 |-; have bX : BigV w9 X (nx * my) := r9_24; have bY : BigV w9 Y (ny * mx) := r9_25; clear hX hY r9_24 r9_25 r9_3 r9_10 r9_11 r9_15 r9_22 r9_23 z1 z2 z3 z4 z5 z6 x_0 x_2 y_0 y_2; replace o_x := o_x.below hE9 o_x.lt; replace o_y := o_y.below hE9 o_y.lt; have hb1 : Below B w w9 := belowB hbw (by omega) hE9; have hsE := hE9.size; clear hE9 hbw; obtain ⟨w1, hw1⟩ : ∃ x, x = w9 := ⟨_, rfl⟩; rw [<- hw1] at o_x o_y bX bY hb1 hsE |-; clear hw1; have x_0 := o_x.c0; have x_2 := o_x.c2; have y_0 := o_y.c0; have y_2 := o_y.c2
 by_cases hm : mx = 0
 ·skip
  by_cases hn : my = 0
  ·skip
   have ep : (bx == (nx : Int)) = true := beq_iff_eq.2 (by have := HBX.out; omega); have eq : (by_ == (ny : Int)) = true := beq_iff_eq.2 (by have := HBY.out; omega); have hr : res = ltS x y := by rw [HR.out]; unfold moreB; simp [hm, hn]
   clear hm hn HR; have HRR := Z' hr; clear hr
   go_upto_region 2 with (fail)
   refine wp_reg_f [some 38, some 39, some 40, some 41, some 42, some 43, some 44, some 45, some 46, some 47, some 11, some 12] [?v2_0, ?v2_1, ?v2_2, ?v2_3, ?v2_4, ?v2_5, ?v2_6, ?v2_7, ?v2_8, ?v2_9, ?v2_10, ?v2_11] [[], [0], [], [2], [1, 3], [], [5], [], [7], [6, 8], [4], [9]] [(4, _), (5, _)] ⟨rfl, rfl, trivial⟩ rfl (by kernel_rfl) rfl rfl (by kernel_rfl) (by kernel_rfl) ⟨?s2_0, ?s2_1, ?s2_2, ?s2_3, ?s2_4, ?s2_5, ?s2_6, ?s2_7, ?s2_8, ?s2_9, ?s2_10, ?s2_11, trivial⟩ ?p2
   all_goals try (intro t9 w9 hT9 K9 hK9; simp only [OV, FV, List.getD_cons_succ, List.getD_cons_zero, Option.getD_some]; intros)
   case s2_0 | s2_1 | s2_2 | s2_3 | s2_4 | s2_5 | s2_6 | s2_7 | s2_8 | s2_9 | s2_10 | s2_11 =>
    have d9_0 := grow_cell hT9 x_0; have d9_1 := grow_cell hT9 x_2; have d9_2 := grow_cell hT9 y_0; have d9_3 := grow_cell hT9 y_2
    go_simp; exact hK9 _ (Grow.refl _)
   intro w9 hb9
   simp only [putL, Act.put, List.setIfInBounds_toArray, List.set_cons_succ, List.set_cons_zero]
   go_upto_region 5 with (fail)
   clear x_0 x_2 y_0 y_2 ep eq
   go_wp2_with fail
   refine (less_ref _ (bX.below hb9) (bY.below hb9)).mono ?_; rintro e w2 ⟨rfl, hb2⟩; have hb3 : Below B w w2 := belowB (belowB hb1 (by omega) hb9) (by have := hb9.size; omega) hb2; clear bX bY o_x o_y hb9 hb1 hb2; generalize cmpI (nx * my) (ny * mx) = cm
   rcases hl : ltS x y with _ | _
   ·skip
    have d1 : Op.bytesLess x.toList y.toList = false := hl; have hr : res = false := by rw [HRR.out]; simp [hl]
    subst hr; clear HRR hl
    go_wp2
    go_ret
    exact ⟨rfl, HB.out ▸ hb3⟩
   ·skip
    have d1 : Op.bytesLess x.toList y.toList = true := hl; have hr : res = true := by rw [HRR.out]; simp [hl]
    subst hr; clear HRR hl
    go_wp2
    go_ret
    exact ⟨rfl, HB.out ▸ hb3⟩
  ·skip
   have ep : (bx == (nx : Int)) = true := beq_iff_eq.2 (by have := HBX.out; omega); have eq : (by_ == (ny : Int)) = false := beq_eq_false_iff_ne.2 (by have := HBY.out; omega); have hr : res = true := by rw [HR.out]; unfold moreB; simp [hm, hn]
   subst hr; clear hm hn HR
   go_upto_region 2 with (fail)
   refine wp_reg_f [some 38, some 39, some 40, some 41, some 42, some 43, some 44, some 45, some 46, some 47, some 11, some 12] [?v3_0, ?v3_1, ?v3_2, ?v3_3, ?v3_4, ?v3_5, ?v3_6, ?v3_7, ?v3_8, ?v3_9, ?v3_10, ?v3_11] [[], [0], [], [2], [1, 3], [], [5], [], [7], [6, 8], [4], [9]] [(4, _), (5, _)] ⟨rfl, rfl, trivial⟩ rfl (by kernel_rfl) rfl rfl (by kernel_rfl) (by kernel_rfl) ⟨?s3_0, ?s3_1, ?s3_2, ?s3_3, ?s3_4, ?s3_5, ?s3_6, ?s3_7, ?s3_8, ?s3_9, ?s3_10, ?s3_11, trivial⟩ ?p3
   all_goals try (intro t9 w9 hT9 K9 hK9; simp only [OV, FV, List.getD_cons_succ, List.getD_cons_zero, Option.getD_some]; intros)
   case s3_0 | s3_1 | s3_2 | s3_3 | s3_4 | s3_5 | s3_6 | s3_7 | s3_8 | s3_9 | s3_10 | s3_11 =>
    have d9_0 := grow_cell hT9 x_0; have d9_1 := grow_cell hT9 x_2; have d9_2 := grow_cell hT9 y_0; have d9_3 := grow_cell hT9 y_2
    go_simp; exact hK9 _ (Grow.refl _)
   intro w9 hb9
   simp only [putL, Act.put, List.setIfInBounds_toArray, List.set_cons_succ, List.set_cons_zero]
   have hb3 : Below B w w9 := belowB hb1 (by omega) hb9
   go_wp2
   go_ret
   exact ⟨rfl, HB.out ▸ hb3⟩
 ·skip
  by_cases hn : my = 0
  ·skip
   have ep : (bx == (nx : Int)) = false := beq_eq_false_iff_ne.2 (by have := HBX.out; omega); have eq : (by_ == (ny : Int)) = true := beq_iff_eq.2 (by have := HBY.out; omega); have hr : res = false := by rw [HR.out]; unfold moreB; simp [hm, hn]
   subst hr; clear hm hn HR
   go_upto_region 2 with (fail)
   refine wp_reg_f [some 38, some 39, some 40, some 41, some 42, some 43, some 44, some 45, some 46, some 47, some 11, some 12] [?v4_0, ?v4_1, ?v4_2, ?v4_3, ?v4_4, ?v4_5, ?v4_6, ?v4_7, ?v4_8, ?v4_9, ?v4_10, ?v4_11] [[], [0], [], [2], [1, 3], [], [5], [], [7], [6, 8], [4], [9]] [(4, _), (5, _)] ⟨rfl, rfl, trivial⟩ rfl (by kernel_rfl) rfl rfl (by kernel_rfl) (by kernel_rfl) ⟨?s4_0, ?s4_1, ?s4_2, ?s4_3, ?s4_4, ?s4_5, ?s4_6, ?s4_7, ?s4_8, ?s4_9, ?s4_10, ?s4_11, trivial⟩ ?p4
   all_goals try (intro t9 w9 hT9 K9 hK9; simp only [OV, FV, List.getD_cons_succ, List.getD_cons_zero, Option.getD_some]; intros)
   case s4_0 | s4_1 | s4_2 | s4_3 | s4_4 | s4_5 | s4_6 | s4_7 | s4_8 | s4_9 | s4_10 | s4_11 =>
    have d9_0 := grow_cell hT9 x_0; have d9_1 := grow_cell hT9 x_2; have d9_2 := grow_cell hT9 y_0; have d9_3 := grow_cell hT9 y_2
    go_simp; exact hK9 _ (Grow.refl _)
   intro w9 hb9
   simp only [putL, Act.put, List.setIfInBounds_toArray, List.set_cons_succ, List.set_cons_zero]
   have hb3 : Below B w w9 := belowB hb1 (by omega) hb9
   go_wp2
   go_ret
   exact ⟨rfl, HB.out ▸ hb3⟩
  ·skip
   have ep : (bx == (nx : Int)) = false := beq_eq_false_iff_ne.2 (by have := HBX.out; omega); have eq : (by_ == (ny : Int)) = false := beq_eq_false_iff_ne.2 (by have := HBY.out; omega); have hr : res = (decide (ny * mx < nx * my) || (decide (ny * mx = nx * my) && ltS x y)) := by rw [HR.out]; unfold moreB; simp [hm, hn]
   clear hm hn HR; have HRR := Z' hr; clear hr
   go_upto_region 2 with (fail)
   refine wp_reg_f [some 38, some 39, some 40, some 41, some 42, some 43, some 44, some 45, some 46, some 47, some 11, some 12] [?v5_0, ?v5_1, ?v5_2, ?v5_3, ?v5_4, ?v5_5, ?v5_6, ?v5_7, ?v5_8, ?v5_9, ?v5_10, ?v5_11] [[], [0], [], [2], [1, 3], [], [5], [], [7], [6, 8], [4], [9]] [(4, _), (5, _)] ⟨rfl, rfl, trivial⟩ rfl (by kernel_rfl) rfl rfl (by kernel_rfl) (by kernel_rfl) ⟨?s5_0, ?s5_1, ?s5_2, ?s5_3, ?s5_4, ?s5_5, ?s5_6, ?s5_7, ?s5_8, ?s5_9, ?s5_10, ?s5_11, trivial⟩ ?p5
   all_goals try (intro t9 w9 hT9 K9 hK9; simp only [OV, FV, List.getD_cons_succ, List.getD_cons_zero, Option.getD_some]; intros)
   case s5_0 | s5_1 | s5_2 | s5_3 | s5_4 | s5_5 | s5_6 | s5_7 | s5_8 | s5_9 | s5_10 | s5_11 =>
    have d9_0 := grow_cell hT9 x_0; have d9_1 := grow_cell hT9 x_2; have d9_2 := grow_cell hT9 y_0; have d9_3 := grow_cell hT9 y_2
    go_simp; exact hK9 _ (Grow.refl _)
   intro w9 hb9
   simp only [putL, Act.put, List.setIfInBounds_toArray, List.set_cons_succ, List.set_cons_zero]
   go_upto_region 5 with (fail)
   clear x_0 x_2 y_0 y_2 ep eq
   go_wp2_with fail
   refine (less_ref _ (bX.below hb9) (bY.below hb9)).mono ?_; rintro e w2 ⟨rfl, hb2⟩; have hb3 : Below B w w2 := belowB (belowB hb1 (by omega) hb9) (by have := hb9.size; omega) hb2; clear bX bY o_x o_y hb9 hb1 hb2; generalize nx * my = P at HRR |-; generalize ny * mx = Q at HRR |-
   rcases Nat.lt_trichotomy P Q with h | h | h
   ·skip
    have e1 : cmpI P Q = -1 := by unfold cmpI; rw [if_pos h]
    have hr : res = false := by rw [HRR.out]; simp [show ¬ Q < P by omega, show ¬ Q = P by omega]
    subst hr; rw [e1]; clear HRR h e1
    go_wp2
    go_ret
    exact ⟨rfl, HB.out ▸ hb3⟩
   ·skip
    have e1 : cmpI P Q = 0 := by unfold cmpI; rw [if_neg (by omega), if_pos h]
    have hr9 : res = ltS x y := by rw [HRR.out]; simp [show ¬ Q < P by omega, show Q = P by omega]
    rw [e1]; clear HRR h e1; have HRR := Z' hr9; clear hr9
    rcases hl : ltS x y with _ | _
    ·skip
     have d1 : Op.bytesLess x.toList y.toList = false := hl; have hr : res = false := by rw [HRR.out]; simp [hl]
     subst hr; clear HRR hl
     go_wp2
     go_ret
     exact ⟨rfl, HB.out ▸ hb3⟩
    ·skip
     have d1 : Op.bytesLess x.toList y.toList = true := hl; have hr : res = true := by rw [HRR.out]; simp [hl]
     subst hr; clear HRR hl
     go_wp2
     go_ret
     exact ⟨rfl, HB.out ▸ hb3⟩
   ·skip
    have e1 : cmpI P Q = 1 := by unfold cmpI; rw [if_neg (by omega), if_neg (by omega)]
    have hr : res = true := by rw [HRR.out]; simp [h]
    subst hr; rw [e1]; clear HRR h e1
    go_wp2
    go_ret
    exact ⟨rfl, HB.out ▸ hb3⟩
end Go.Proofs.YtjimfbmegmnocaaGreatDoor
