/- Parts of the proof: Jb. No condition of its own. -/
import Derived.Test.YtocknfhgjmaibaaGreatDoorJa
import Derived.Test.YtocknfhgjmaibaaGreatDoorIf
set_option linter.unusedSimpArgs false
set_option linter.unusedVariables false
set_option linter.unusedSectionVars false
set_option maxRecDepth 100000
set_option maxHeartbeats 4000000
namespace Go.Proofs.YtocknfhgjmaibaaGreatDoor
open Go.RowKit Dg

def BigOf (s : ByteArray) (n : Nat) : Prop := ∀ w, Calls Tryz.prog 58 #[.string s] w fun e w' => ∃ v, e = .returned v ∧ BigV w' v n ∧ Below w.heap.size w w'
def IsYes (v : Value) : Prop := ∀ w, Calls Tryz.prog 57 #[v] w fun e w' => e = .returned (.bool true) ∧ Below w.heap.size w w'
theorem dk_add (m n : Nat) : (dk (m + n)).length ≤ max (dk m).length (dk n).length + 1 := dg_add_len b10k m n
theorem dk_mul (m n : Nat) : (dk (m * n)).length ≤ (dk m).length + (dk n).length := dg_mul_len b10k m n
theorem addr_core (n1 n2 : Bool) (s1 t1 s2 t2 : ByteArray) (a b c d : Nat) (z : Rat) (hq : z = rat n1 a b + rat n2 c d) (i1 : IsYes (.agg #[.bool n1, .string s1, .string t1])) (i2 : IsYes (.agg #[.bool n2, .string s2, .string t2])) (g1 : BigOf s1 a) (g2 : BigOf t1 b) (g3 : BigOf s2 c) (g4 : BigOf t2 d) (hb : 0 < b) (hd : 0 < d) (l1 : (dk a).length ≤ 20000) (l2 : (dk b).length ≤ 20000) (l3 : (dk c).length ≤ 20000) (l4 : (dk d).length ≤ 20000) (w : World) :
    Calls Tryz.prog 64 #[.agg #[.bool n1, .string s1, .string t1], .agg #[.bool n2, .string s2, .string t2]] w fun e w' => RatRes z e ∧ Below w.heap.size w w' := by
  have m1 := dk_mul a d; have m2 := dk_mul c b; have m3 := dk_mul b d; have m4 := dk_add (a * d) (c * b); have m5 : (dk (a * d - c * b)).length ≤ (dk (a * d)).length := dg_mono b10k (Nat.sub_le _ _); have m6 : (dk (c * b - a * d)).length ≤ (dk (c * b)).length := dg_mono b10k (Nat.sub_le _ _); have HZ := Lib.hid hq; have HBD := Lib.hid (Nat.mul_pos hb hd); clear hq; have I1 := Lib.hid i1; have I2 := Lib.hid i2; have G1 := Lib.hid g1; have G2 := Lib.hid g2; have G3 := Lib.hid g3; have G4 := Lib.hid g4; have HB := Lib.hid hb; have HD := Lib.hid hd; obtain ⟨nz, sz, tz, kz, hend, hres⟩ := ratRes_one z; have HEND := Lib.hid hend; have HRES := Lib.hid hres; clear hend hres; clear i1 i2 g1 g2 g3 g4 hb hd; obtain ⟨o1, o2, o3, hbw⟩ := new3 w [.bool n1, .string s1, .string t1] [.bool n2, .string s2, .string t2] [.bool false, .string ⟨#[]⟩, .string ⟨#[]⟩] 27 27 27
  go_enter Tryz.func64, Tryz.ntmps64
  go_upto_region 1 with (fail)
  generalize (((w.alloc (.cells #[.bool n1, .string s1, .string t1] 27)).alloc (.cells #[.bool n2, .string s2, .string t2] 27)).alloc (.cells #[.bool false, .string ⟨#[]⟩, .string ⟨#[]⟩] 27)) = wb at o1 o2 o3 hbw ⊢; obtain ⟨c10, c11, c12⟩ := o1.cells3; obtain ⟨c20, c21, c22⟩ := o2.cells3
  go_wp2_with fail
  refine (I1.out _).mono ?_; rintro e wc ⟨rfl, hb1⟩; clear c10 c11 c12 c20 c21 c22; replace o1 := o1.below hb1 o1.lt; replace o2 := o2.below hb1 o2.lt; replace o3 := o3.below hb1 o3.lt; replace hbw := below6 hbw hb1; clear hb1; obtain ⟨c10, c11, c12⟩ := o1.cells3; obtain ⟨c20, c21, c22⟩ := o2.cells3
  go_wp2_with fail
  refine (I2.out _).mono ?_; rintro e wd ⟨rfl, hb2⟩; clear c10 c11 c12 c20 c21 c22; replace o1 := o1.below hb2 o1.lt; replace o2 := o2.below hb2 o2.lt; replace o3 := o3.below hb2 o3.lt; replace hbw := below6 hbw hb2; clear hb2; obtain ⟨c10, c11, c12⟩ := o1.cells3; obtain ⟨c20, c21, c22⟩ := o2.cells3
  go_upto_region 3 with (fail)
  refine wp_reg_ra [some 18, some 19, some 20, some 21, some 22, some 23, some 24, some 25, some 26, some 27, some 28, some 29, some 30, some 31, some 6, some 7] [isV ?v1_0, isV ?v1_1, (fun v w' => BigV w' v (a)), isV ?v1_3, isV ?v1_4, (fun v w' => BigV w' v (d)), (fun v w' => BigV w' v (a * d)), isV ?v1_7, isV ?v1_8, (fun v w' => BigV w' v (c)), isV ?v1_10, isV ?v1_11, (fun v w' => BigV w' v (b)), (fun v w' => BigV w' v (c * b)), (fun v w' => BigV w' v (a * d)), (fun v w' => BigV w' v (c * b))] rfl (by kernel_rfl) rfl rfl ?k1 ⟨?s1_0, ?s1_1, ?s1_2, ?s1_3, ?s1_4, ?s1_5, ?s1_6, ?s1_7, ?s1_8, ?s1_9, ?s1_10, ?s1_11, ?s1_12, ?s1_13, ?s1_14, ?s1_15, trivial⟩ ?p1
  case s1_0 =>
    intro t9 w9 hT9 hV9 hO9 K9 hK9; have o9_2 := hO9 2 _ (show List.contains _ _ = false from by kernel_rfl) rfl; clear hV9 hO9; go_simp
    (refine hK9 _ _ (Grow.refl _) ?_; exact rfl)
  case s1_1 =>
    intro t9 w9 hT9 hV9 hO9 K9 hK9; obtain ⟨x9_0, p9_0, q9_0⟩ := hV9.g 0 18 rfl rfl (by kernel_rfl); obtain rfl : x9_0 = ?v1_0 := q9_0; clear hV9 hO9; have d9_0 := grow_cell hT9 c10; have d9_1 := grow_cell hT9 c11; have d9_2 := grow_cell hT9 c12; have d9_3 := grow_cell hT9 c20; have d9_4 := grow_cell hT9 c21; have d9_5 := grow_cell hT9 c22; go_simp
    (refine hK9 _ _ (Grow.refl _) ?_; exact rfl)
  case s1_2 =>
    intro t9 w9 hT9 hV9 hO9 K9 hK9; obtain ⟨x9_1, p9_1, q9_1⟩ := hV9.g 1 19 rfl rfl (by kernel_rfl); obtain rfl : x9_1 = ?v1_1 := q9_1; clear hV9 hO9; go_simp; refine (G1.out _).mono ?_; rintro _ w8 ⟨v8, rfl, hv8, hb8⟩; exact hK9 _ _ hb8 hv8
  case s1_3 =>
    intro t9 w9 hT9 hV9 hO9 K9 hK9; have o9_3 := hO9 3 _ (show List.contains _ _ = false from by kernel_rfl) rfl; clear hV9 hO9; go_simp
    (refine hK9 _ _ (Grow.refl _) ?_; exact rfl)
  case s1_4 =>
    intro t9 w9 hT9 hV9 hO9 K9 hK9; obtain ⟨x9_3, p9_3, q9_3⟩ := hV9.g 3 21 rfl rfl (by kernel_rfl); obtain rfl : x9_3 = ?v1_3 := q9_3; clear hV9 hO9; have d9_0 := grow_cell hT9 c10; have d9_1 := grow_cell hT9 c11; have d9_2 := grow_cell hT9 c12; have d9_3 := grow_cell hT9 c20; have d9_4 := grow_cell hT9 c21; have d9_5 := grow_cell hT9 c22; go_simp
    (refine hK9 _ _ (Grow.refl _) ?_; exact rfl)
  case s1_5 =>
    intro t9 w9 hT9 hV9 hO9 K9 hK9; obtain ⟨x9_4, p9_4, q9_4⟩ := hV9.g 4 22 rfl rfl (by kernel_rfl); obtain rfl : x9_4 = ?v1_4 := q9_4; clear hV9 hO9; go_simp; refine (G4.out _).mono ?_; rintro _ w8 ⟨v8, rfl, hv8, hb8⟩; exact hK9 _ _ hb8 hv8
  case s1_6 =>
    intro t9 w9 hT9 hV9 hO9 K9 hK9; obtain ⟨x9_2, p9_2, q9_2⟩ := hV9.g 2 20 rfl rfl (by kernel_rfl); replace q9_2 : ((fun v w' => BigV w' v (a))) x9_2 _ := q9_2; obtain ⟨x9_5, p9_5, q9_5⟩ := hV9.g 5 23 rfl rfl (by kernel_rfl); replace q9_5 : ((fun v w' => BigV w' v (d))) x9_5 _ := q9_5; clear hV9 hO9; go_simp; refine (times_ref _ q9_2 q9_5 (by omega) (by omega)).mono ?_; rintro _ w8 ⟨v8, rfl, hv8, hb8⟩; exact hK9 _ _ hb8 hv8
  case s1_7 =>
    intro t9 w9 hT9 hV9 hO9 K9 hK9; have o9_3 := hO9 3 _ (show List.contains _ _ = false from by kernel_rfl) rfl; clear hV9 hO9; go_simp
    (refine hK9 _ _ (Grow.refl _) ?_; exact rfl)
  case s1_8 =>
    intro t9 w9 hT9 hV9 hO9 K9 hK9; obtain ⟨x9_7, p9_7, q9_7⟩ := hV9.g 7 25 rfl rfl (by kernel_rfl); obtain rfl : x9_7 = ?v1_7 := q9_7; clear hV9 hO9; have d9_0 := grow_cell hT9 c10; have d9_1 := grow_cell hT9 c11; have d9_2 := grow_cell hT9 c12; have d9_3 := grow_cell hT9 c20; have d9_4 := grow_cell hT9 c21; have d9_5 := grow_cell hT9 c22; go_simp
    (refine hK9 _ _ (Grow.refl _) ?_; exact rfl)
  case s1_9 =>
    intro t9 w9 hT9 hV9 hO9 K9 hK9; obtain ⟨x9_8, p9_8, q9_8⟩ := hV9.g 8 26 rfl rfl (by kernel_rfl); obtain rfl : x9_8 = ?v1_8 := q9_8; clear hV9 hO9; go_simp; refine (G3.out _).mono ?_; rintro _ w8 ⟨v8, rfl, hv8, hb8⟩; exact hK9 _ _ hb8 hv8
  case s1_10 =>
    intro t9 w9 hT9 hV9 hO9 K9 hK9; have o9_2 := hO9 2 _ (show List.contains _ _ = false from by kernel_rfl) rfl; clear hV9 hO9; go_simp
    (refine hK9 _ _ (Grow.refl _) ?_; exact rfl)
  case s1_11 =>
    intro t9 w9 hT9 hV9 hO9 K9 hK9; obtain ⟨x9_10, p9_10, q9_10⟩ := hV9.g 10 28 rfl rfl (by kernel_rfl); obtain rfl : x9_10 = ?v1_10 := q9_10; clear hV9 hO9; have d9_0 := grow_cell hT9 c10; have d9_1 := grow_cell hT9 c11; have d9_2 := grow_cell hT9 c12; have d9_3 := grow_cell hT9 c20; have d9_4 := grow_cell hT9 c21; have d9_5 := grow_cell hT9 c22; go_simp
    (refine hK9 _ _ (Grow.refl _) ?_; exact rfl)
  case s1_12 =>
    intro t9 w9 hT9 hV9 hO9 K9 hK9; obtain ⟨x9_11, p9_11, q9_11⟩ := hV9.g 11 29 rfl rfl (by kernel_rfl); obtain rfl : x9_11 = ?v1_11 := q9_11; clear hV9 hO9; go_simp; refine (G2.out _).mono ?_; rintro _ w8 ⟨v8, rfl, hv8, hb8⟩; exact hK9 _ _ hb8 hv8
  case s1_13 =>
    intro t9 w9 hT9 hV9 hO9 K9 hK9; obtain ⟨x9_9, p9_9, q9_9⟩ := hV9.g 9 27 rfl rfl (by kernel_rfl); replace q9_9 : ((fun v w' => BigV w' v (c))) x9_9 _ := q9_9; obtain ⟨x9_12, p9_12, q9_12⟩ := hV9.g 12 30 rfl rfl (by kernel_rfl); replace q9_12 : ((fun v w' => BigV w' v (b))) x9_12 _ := q9_12; clear hV9 hO9; go_simp; refine (times_ref _ q9_9 q9_12 (by omega) (by omega)).mono ?_; rintro _ w8 ⟨v8, rfl, hv8, hb8⟩; exact hK9 _ _ hb8 hv8
  case s1_14 =>
    intro t9 w9 hT9 hV9 hO9 K9 hK9; obtain ⟨x9_6, p9_6, q9_6⟩ := hV9.g 6 24 rfl rfl (by kernel_rfl); replace q9_6 : ((fun v w' => BigV w' v (a * d))) x9_6 _ := q9_6; clear hV9 hO9; go_simp; exact hK9 _ _ (Grow.refl _) q9_6
  case s1_15 =>
    intro t9 w9 hT9 hV9 hO9 K9 hK9; obtain ⟨x9_13, p9_13, q9_13⟩ := hV9.g 13 31 rfl rfl (by kernel_rfl); replace q9_13 : ((fun v w' => BigV w' v (c * b))) x9_13 _ := q9_13; clear hV9 hO9; go_simp; exact hK9 _ _ (Grow.refl _) q9_13
  case k1 =>
    intro i9 v9 w9 x9 h9 g9
    match i9, h9 with
    | 0, h9 => exact h9
    | 1, h9 => exact h9
    | 2, h9 => (replace h9 : (fun v w' => BigV w' v (a)) v9 w9 := h9); exact BigV.below h9 g9
    | 3, h9 => exact h9
    | 4, h9 => exact h9
    | 5, h9 => (replace h9 : (fun v w' => BigV w' v (d)) v9 w9 := h9); exact BigV.below h9 g9
    | 6, h9 => (replace h9 : (fun v w' => BigV w' v (a * d)) v9 w9 := h9); exact BigV.below h9 g9
    | 7, h9 => exact h9
    | 8, h9 => exact h9
    | 9, h9 => (replace h9 : (fun v w' => BigV w' v (c)) v9 w9 := h9); exact BigV.below h9 g9
    | 10, h9 => exact h9
    | 11, h9 => exact h9
    | 12, h9 => (replace h9 : (fun v w' => BigV w' v (b)) v9 w9 := h9); exact BigV.below h9 g9
    | 13, h9 => (replace h9 : (fun v w' => BigV w' v (c * b)) v9 w9 := h9); exact BigV.below h9 g9
    | 14, h9 => (replace h9 : (fun v w' => BigV w' v (a * d)) v9 w9 := h9); exact BigV.below h9 g9
    | 15, h9 => (replace h9 : (fun v w' => BigV w' v (c * b)) v9 w9 := h9); exact BigV.below h9 g9
    | _ + 16, h9 => exact trivial
  intro u9 w9 hE9 hu9; have r9_0 : u9 0 = ?v1_0 := hu9 0 (by decide); have r9_1 : u9 1 = ?v1_1 := hu9 1 (by decide); have r9_2 : (fun v w' => BigV w' v (a)) (u9 2) w9 := hu9 2 (by decide); have r9_3 : u9 3 = ?v1_3 := hu9 3 (by decide); have r9_4 : u9 4 = ?v1_4 := hu9 4 (by decide); have r9_5 : (fun v w' => BigV w' v (d)) (u9 5) w9 := hu9 5 (by decide); have r9_6 : (fun v w' => BigV w' v (a * d)) (u9 6) w9 := hu9 6 (by decide); have r9_7 : u9 7 = ?v1_7 := hu9 7 (by decide); have r9_8 : u9 8 = ?v1_8 := hu9 8 (by decide); have r9_9 : (fun v w' => BigV w' v (c)) (u9 9) w9 := hu9 9 (by decide); have r9_10 : u9 10 = ?v1_10 := hu9 10 (by decide); have r9_11 : u9 11 = ?v1_11 := hu9 11 (by decide); have r9_12 : (fun v w' => BigV w' v (b)) (u9 12) w9 := hu9 12 (by decide); have r9_13 : (fun v w' => BigV w' v (c * b)) (u9 13) w9 := hu9 13 (by decide); have r9_14 : (fun v w' => BigV w' v (a * d)) (u9 14) w9 := hu9 14 (by decide)
  have r9_15 : (fun v w' => BigV w' v (c * b)) (u9 15) w9 := hu9 15 (by decide); clear hu9
  simp only [putAll, Act.put, List.setIfInBounds_toArray, List.set_cons_succ, List.set_cons_zero, List.getD_cons_succ, List.getD_cons_zero, Nat.reduceAdd, Nat.zero_add]
  simp only [r9_0, r9_1, r9_3, r9_4, r9_7, r9_8, r9_10, r9_11]
  clear r9_0 r9_1 r9_3 r9_4 r9_7 r9_8 r9_10 r9_11; generalize u9 14 = z9_14 at r9_14 ⊢; generalize u9 15 = z9_15 at r9_15 ⊢; clear c10 c11 c12 c20 c21 c22; replace o1 := o1.below hE9 o1.lt; replace o2 := o2.below hE9 o2.lt; replace o3 := o3.below hE9 o3.lt; replace hbw := below6 hbw hE9; replace r9_14 : BigV w9 z9_14 (a * d) := r9_14; have x6 := r9_14; obtain ⟨Ax6, kx6, rfl, -⟩ := r9_14; replace r9_15 : BigV w9 z9_15 (c * b) := r9_15; have x7 := r9_15; obtain ⟨Ax7, kx7, rfl, -⟩ := r9_15; clear hE9; obtain ⟨we, rfl⟩ : ∃ wx : World, wx = w9 := ⟨_, rfl⟩; obtain ⟨c10, c11, c12⟩ := o1.cells3; obtain ⟨c20, c21, c22⟩ := o2.cells3
  go_upto_region 4 with (fail)
  refine wp_reg_ra [some 32, some 33, some 34, some 35, some 36, some 37, some 38, some 8] [isV ?v2_0, isV ?v2_1, (fun v w' => BigV w' v (b)), isV ?v2_3, isV ?v2_4, (fun v w' => BigV w' v (d)), (fun v w' => BigV w' v (b * d)), (fun v w' => BigV w' v (b * d))] rfl (by kernel_rfl) rfl rfl ?k2 ⟨?s2_0, ?s2_1, ?s2_2, ?s2_3, ?s2_4, ?s2_5, ?s2_6, ?s2_7, trivial⟩ ?p2
  case s2_0 =>
    intro t9 w9 hT9 hV9 hO9 K9 hK9; have o9_2 := hO9 2 _ (show List.contains _ _ = false from by kernel_rfl) rfl; clear hV9 hO9; go_simp
    (refine hK9 _ _ (Grow.refl _) ?_; exact rfl)
  case s2_1 =>
    intro t9 w9 hT9 hV9 hO9 K9 hK9; obtain ⟨x9_0, p9_0, q9_0⟩ := hV9.g 0 32 rfl rfl (by kernel_rfl); obtain rfl : x9_0 = ?v2_0 := q9_0; clear hV9 hO9; have d9_0 := grow_cell hT9 c10; have d9_1 := grow_cell hT9 c11; have d9_2 := grow_cell hT9 c12; have d9_3 := grow_cell hT9 c20; have d9_4 := grow_cell hT9 c21; have d9_5 := grow_cell hT9 c22; go_simp
    (refine hK9 _ _ (Grow.refl _) ?_; exact rfl)
  case s2_2 =>
    intro t9 w9 hT9 hV9 hO9 K9 hK9; obtain ⟨x9_1, p9_1, q9_1⟩ := hV9.g 1 33 rfl rfl (by kernel_rfl); obtain rfl : x9_1 = ?v2_1 := q9_1; clear hV9 hO9; go_simp; refine (G2.out _).mono ?_; rintro _ w8 ⟨v8, rfl, hv8, hb8⟩; exact hK9 _ _ hb8 hv8
  case s2_3 =>
    intro t9 w9 hT9 hV9 hO9 K9 hK9; have o9_3 := hO9 3 _ (show List.contains _ _ = false from by kernel_rfl) rfl; clear hV9 hO9; go_simp
    (refine hK9 _ _ (Grow.refl _) ?_; exact rfl)
  case s2_4 =>
    intro t9 w9 hT9 hV9 hO9 K9 hK9; obtain ⟨x9_3, p9_3, q9_3⟩ := hV9.g 3 35 rfl rfl (by kernel_rfl); obtain rfl : x9_3 = ?v2_3 := q9_3; clear hV9 hO9; have d9_0 := grow_cell hT9 c10; have d9_1 := grow_cell hT9 c11; have d9_2 := grow_cell hT9 c12; have d9_3 := grow_cell hT9 c20; have d9_4 := grow_cell hT9 c21; have d9_5 := grow_cell hT9 c22; go_simp
    (refine hK9 _ _ (Grow.refl _) ?_; exact rfl)
  case s2_5 =>
    intro t9 w9 hT9 hV9 hO9 K9 hK9; obtain ⟨x9_4, p9_4, q9_4⟩ := hV9.g 4 36 rfl rfl (by kernel_rfl); obtain rfl : x9_4 = ?v2_4 := q9_4; clear hV9 hO9; go_simp; refine (G4.out _).mono ?_; rintro _ w8 ⟨v8, rfl, hv8, hb8⟩; exact hK9 _ _ hb8 hv8
  case s2_6 =>
    intro t9 w9 hT9 hV9 hO9 K9 hK9; obtain ⟨x9_2, p9_2, q9_2⟩ := hV9.g 2 34 rfl rfl (by kernel_rfl); replace q9_2 : ((fun v w' => BigV w' v (b))) x9_2 _ := q9_2; obtain ⟨x9_5, p9_5, q9_5⟩ := hV9.g 5 37 rfl rfl (by kernel_rfl); replace q9_5 : ((fun v w' => BigV w' v (d))) x9_5 _ := q9_5; clear hV9 hO9; go_simp; refine (times_ref _ q9_2 q9_5 (by omega) (by omega)).mono ?_; rintro _ w8 ⟨v8, rfl, hv8, hb8⟩; exact hK9 _ _ hb8 hv8
  case s2_7 =>
    intro t9 w9 hT9 hV9 hO9 K9 hK9; obtain ⟨x9_6, p9_6, q9_6⟩ := hV9.g 6 38 rfl rfl (by kernel_rfl); replace q9_6 : ((fun v w' => BigV w' v (b * d))) x9_6 _ := q9_6; clear hV9 hO9; go_simp; exact hK9 _ _ (Grow.refl _) q9_6
  case k2 =>
    intro i9 v9 w9 x9 h9 g9
    match i9, h9 with
    | 0, h9 => exact h9
    | 1, h9 => exact h9
    | 2, h9 => (replace h9 : (fun v w' => BigV w' v (b)) v9 w9 := h9); exact BigV.below h9 g9
    | 3, h9 => exact h9
    | 4, h9 => exact h9
    | 5, h9 => (replace h9 : (fun v w' => BigV w' v (d)) v9 w9 := h9); exact BigV.below h9 g9
    | 6, h9 => (replace h9 : (fun v w' => BigV w' v (b * d)) v9 w9 := h9); exact BigV.below h9 g9
    | 7, h9 => (replace h9 : (fun v w' => BigV w' v (b * d)) v9 w9 := h9); exact BigV.below h9 g9
    | _ + 8, h9 => exact trivial
  intro u9 w9 hE9 hu9; have r9_0 : u9 0 = ?v2_0 := hu9 0 (by decide); have r9_1 : u9 1 = ?v2_1 := hu9 1 (by decide); have r9_2 : (fun v w' => BigV w' v (b)) (u9 2) w9 := hu9 2 (by decide); have r9_3 : u9 3 = ?v2_3 := hu9 3 (by decide); have r9_4 : u9 4 = ?v2_4 := hu9 4 (by decide); have r9_5 : (fun v w' => BigV w' v (d)) (u9 5) w9 := hu9 5 (by decide); have r9_6 : (fun v w' => BigV w' v (b * d)) (u9 6) w9 := hu9 6 (by decide); have r9_7 : (fun v w' => BigV w' v (b * d)) (u9 7) w9 := hu9 7 (by decide); clear hu9
  simp only [putAll, Act.put, List.setIfInBounds_toArray, List.set_cons_succ, List.set_cons_zero, List.getD_cons_succ, List.getD_cons_zero, Nat.reduceAdd, Nat.zero_add]
  simp only [r9_0, r9_1, r9_3, r9_4]
  clear r9_0 r9_1 r9_3 r9_4; generalize u9 7 = z9_7 at r9_7 ⊢; clear c10 c11 c12 c20 c21 c22; replace o1 := o1.below hE9 o1.lt; replace o2 := o2.below hE9 o2.lt; replace o3 := o3.below hE9 o3.lt; replace hbw := below6 hbw hE9; replace x6 := BigV.below x6 hE9; replace x7 := BigV.below x7 hE9; replace r9_7 : BigV w9 z9_7 (b * d) := r9_7; have x8 := r9_7; obtain ⟨Ax8, kx8, rfl, -⟩ := r9_7; clear hE9; obtain ⟨wf, rfl⟩ : ∃ wx : World, wx = w9 := ⟨_, rfl⟩; clear G1 G2 G3 G4 I1 I2; obtain ⟨c10, c11, c12⟩ := o1.cells3; obtain ⟨c20, c21, c22⟩ := o2.cells3
  by_cases hn : n1 = n2
  · subst hn; have HQ := Lib.hid (HZ.out.trans (rat_add_same n1 a b c d HB.out HD.out).symm); clear HZ
    go_upto_region 6 with (fail)
    refine wp_reg_st [some 44, some 45, some 46, some 47, some 48, some 49, some 50, some 51, some 52, none, some 5] [isV ?v3_0, isV ?v3_1, (fun v w' => BigV w' v (a * d)), (fun v w' => BigV w' v (c * b)), (fun v w' => BigV w' v ((a * d) + (c * b))), (fun v w' => BigV w' v (b * d)), isV (.tuple #[.agg #[.bool nz, .string sz, .string tz], .int .i64 kz]), isV ?v3_7, isV ?v3_8, fun _ _ => False, fun _ _ => False] [anyV, anyV, anyV, anyV, anyV, anyV, anyV, anyV, anyV, anyV, isV ?w3_10] 9 [0, 1, 2, 3, 4, 5, 6, 7, 8] (fun _ => fun w' => Below w.heap.size w w' ∧ Own w' (w.heap.size + 1 + 1) 27 [.bool nz, .string sz, .string tz]) rfl (by kernel_rfl) rfl rfl (by decide) (by kernel_rfl) (by kernel_rfl) (fun _ _ _ _ h => h) ?k3 ?m3 ⟨?s3_0, ?s3_1, ?s3_2, ?s3_3, ?s3_4, ?s3_5, ?s3_6, ?s3_7, ?s3_8, ?s3_9, ?s3_10, trivial⟩ ?p3
    case s3_0 =>
      rw [if_neg (by decide)]
      constructor
      · rw [if_neg (by decide)]; intro t9 w9 hT9 hV9 hO9 K9 hK9; have o9_2 := hO9 2 _ (.inl (show List.contains _ _ = false from by kernel_rfl)) rfl; clear hV9 hO9; go_simp
        (refine hK9 _ _ (Grow.refl _) ?_; exact rfl)
      · rw [if_pos (by decide)]; trivial
    case s3_1 =>
      rw [if_neg (by decide)]
      constructor
      · rw [if_neg (by decide)]; intro t9 w9 hT9 hV9 hO9 K9 hK9; obtain ⟨x9_0, p9_0, q9_0⟩ := hV9.g 0 44 rfl rfl (by kernel_rfl); obtain rfl : x9_0 = ?v3_0 := q9_0; clear hV9 hO9; have d9_0 := grow_cell hT9 c10; have d9_1 := grow_cell hT9 c11; have d9_2 := grow_cell hT9 c12; have d9_3 := grow_cell hT9 c20; have d9_4 := grow_cell hT9 c21; have d9_5 := grow_cell hT9 c22; go_simp
        (refine hK9 _ _ (Grow.refl _) ?_; exact rfl)
      · rw [if_pos (by decide)]; trivial
    case s3_2 =>
      rw [if_neg (by decide)]
      constructor
      · rw [if_neg (by decide)]; intro t9 w9 hT9 hV9 hO9 K9 hK9; have o9_6 := hO9 6 _ (.inl (show List.contains _ _ = false from by kernel_rfl)) rfl; clear hV9 hO9; go_simp; exact hK9 _ _ (Grow.refl _) (x6.below hT9.below)
      · rw [if_pos (by decide)]; trivial
    case s3_3 =>
      rw [if_neg (by decide)]
      constructor
      · rw [if_neg (by decide)]; intro t9 w9 hT9 hV9 hO9 K9 hK9; have o9_7 := hO9 7 _ (.inl (show List.contains _ _ = false from by kernel_rfl)) rfl; clear hV9 hO9; go_simp; exact hK9 _ _ (Grow.refl _) (x7.below hT9.below)
      · rw [if_pos (by decide)]; trivial
    case s3_4 =>
      rw [if_neg (by decide)]
      constructor
      · rw [if_neg (by decide)]; intro t9 w9 hT9 hV9 hO9 K9 hK9; obtain ⟨x9_2, p9_2, q9_2⟩ := hV9.g 2 46 rfl rfl (by kernel_rfl); replace q9_2 : ((fun v w' => BigV w' v (a * d))) x9_2 _ := q9_2; obtain ⟨x9_3, p9_3, q9_3⟩ := hV9.g 3 47 rfl rfl (by kernel_rfl); replace q9_3 : ((fun v w' => BigV w' v (c * b))) x9_3 _ := q9_3; clear hV9 hO9; go_simp; refine (plus_ref _ q9_2 q9_3 (by omega) (by omega)).mono ?_; rintro _ w8 ⟨v8, rfl, hv8, hb8⟩; exact hK9 _ _ hb8 hv8
      · rw [if_pos (by decide)]; trivial
    case s3_5 =>
      rw [if_neg (by decide)]
      constructor
      · rw [if_neg (by decide)]; intro t9 w9 hT9 hV9 hO9 K9 hK9; have o9_8 := hO9 8 _ (.inl (show List.contains _ _ = false from by kernel_rfl)) rfl; clear hV9 hO9; go_simp; exact hK9 _ _ (Grow.refl _) (x8.below hT9.below)
      · rw [if_pos (by decide)]; trivial
    case s3_6 =>
      rw [if_neg (by decide)]
      constructor
      · rw [if_neg (by decide)]; intro t9 w9 hT9 hV9 hO9 K9 hK9; obtain ⟨x9_1, p9_1, q9_1⟩ := hV9.g 1 45 rfl rfl (by kernel_rfl); obtain rfl : x9_1 = ?v3_1 := q9_1; obtain ⟨x9_4, p9_4, q9_4⟩ := hV9.g 4 48 rfl rfl (by kernel_rfl); replace q9_4 : ((fun v w' => BigV w' v ((a * d) + (c * b)))) x9_4 _ := q9_4; obtain ⟨x9_5, p9_5, q9_5⟩ := hV9.g 5 49 rfl rfl (by kernel_rfl); replace q9_5 : ((fun v w' => BigV w' v (b * d))) x9_5 _ := q9_5; clear hV9 hO9; go_simp; refine (lowest_ref n1 _ _ ((a * d) + (c * b)) (b * d) _ q9_4 q9_5 (by omega) (by omega) HBD.out).mono ?_; rintro e w8 ⟨hl, hb8⟩; have he := HEND.out _ (by rw [HQ.out]; exact hl.toRat HBD.out); subst he; exact hK9 _ _ hb8 rfl
      · rw [if_pos (by decide)]; trivial
    case s3_7 =>
      rw [if_neg (by decide)]
      constructor
      · rw [if_neg (by decide)]; intro t9 w9 hT9 hV9 hO9 K9 hK9; obtain ⟨x9_6, p9_6, q9_6⟩ := hV9.g 6 50 rfl rfl (by kernel_rfl); obtain rfl : x9_6 = (.tuple #[.agg #[.bool nz, .string sz, .string tz], .int .i64 kz]) := q9_6; clear hV9 hO9; go_simp
        (refine hK9 _ _ (Grow.refl _) ?_; exact rfl)
      · rw [if_pos (by decide)]; trivial
    case s3_8 =>
      rw [if_neg (by decide)]
      constructor
      · rw [if_neg (by decide)]; intro t9 w9 hT9 hV9 hO9 K9 hK9; obtain ⟨x9_6, p9_6, q9_6⟩ := hV9.g 6 50 rfl rfl (by kernel_rfl); obtain rfl : x9_6 = (.tuple #[.agg #[.bool nz, .string sz, .string tz], .int .i64 kz]) := q9_6; clear hV9 hO9; go_simp
        (refine hK9 _ _ (Grow.refl _) ?_; exact rfl)
      · rw [if_pos (by decide)]; trivial
    case s3_9 =>
      rw [if_pos (by decide)]; intro t9 w9 hT9 hV9 hO9 K9 hK9; obtain ⟨x9_7, p9_7, q9_7⟩ := hV9.g 7 51 (by decide) rfl (by kernel_rfl); obtain rfl : x9_7 = ?v3_7 := q9_7; have o9_4 := hO9 4 _ (.inl (show List.contains _ _ = false from by kernel_rfl)) rfl; clear hV9 hO9; have og := o3.below hT9.below o3.lt; obtain ⟨hg0, hg1, hg2⟩ := og.cells3; obtain ⟨hf0, hf1, hf2⟩ := og.frozens3; have HE := Lib.hid (⟨Below.set3 (below6 hbw hT9.below) (by omega) _ _ _, og.set3 _ _ _⟩ : (fun w' => Below w.heap.size w w' ∧ Own w' (w.heap.size + 1 + 1) 27 [.bool nz, .string sz, .string tz]) ((((w9.setCell ⟨w.heap.size + 1 + 1, 0, none⟩ (.bool nz)).setCell ⟨w.heap.size + 1 + 1, 1, none⟩ (.string sz)).setCell ⟨w.heap.size + 1 + 1, 2, none⟩ (.string tz)))); go_simp; exact hK9 undef _ HE.out trivial
    case s3_10 =>
      rw [if_neg (by decide)]
      constructor
      · rw [if_pos (by rfl)]; trivial
      · rw [if_neg (by decide)]; intro t9 w9 hV9 hO9 K9 hK9; obtain ⟨x9_8, p9_8, q9_8⟩ := hV9.g 8 52 rfl rfl (by kernel_rfl); obtain ⟨_, q9_8⟩ := q9_8.pre (by decide); obtain rfl : x9_8 = ?v3_8 := q9_8; clear hV9 hO9; go_simp
        (refine hK9 _ ?_; exact rfl)
    case k3 =>
      intro i9 v9 w9 x9 h9 g9
      match i9, h9 with
      | 0, h9 => exact h9
      | 1, h9 => exact h9
      | 2, h9 => (replace h9 : (fun v w' => BigV w' v (a * d)) v9 w9 := h9); exact BigV.below h9 g9
      | 3, h9 => (replace h9 : (fun v w' => BigV w' v (c * b)) v9 w9 := h9); exact BigV.below h9 g9
      | 4, h9 => (replace h9 : (fun v w' => BigV w' v ((a * d) + (c * b))) v9 w9 := h9); exact BigV.below h9 g9
      | 5, h9 => (replace h9 : (fun v w' => BigV w' v (b * d)) v9 w9 := h9); exact BigV.below h9 g9
      | 6, h9 => exact h9
      | 7, h9 => exact h9
      | 8, h9 => exact h9
      | 9, h9 => exact h9
      | 10, h9 => exact h9
      | _ + 11, h9 => exact trivial
    case m3 =>
      intro i9 v9 w9 x9 a s h
      match i9, a, s, h with
      | 0, a, _, _ => exact absurd (by decide) a
      | 1, a, _, _ => exact absurd (by decide) a
      | 2, a, _, _ => exact absurd (by decide) a
      | 3, a, _, _ => exact absurd (by decide) a
      | 4, a, _, _ => exact absurd (by decide) a
      | 5, a, _, _ => exact absurd (by decide) a
      | 6, a, _, _ => exact absurd (by decide) a
      | 7, a, _, _ => exact absurd (by decide) a
      | 8, a, _, _ => exact absurd (by decide) a
      | 9, _, s, _ => exact absurd rfl s
      | 10, _, _, h => exact False.elim h
      | _ + 11, _, _, _ => exact trivial
    intro u9 w9 hE9 hu9; obtain ⟨_, r9_0⟩ := (hu9 0 (by decide)).pre (by decide); replace r9_0 : u9 0 = ?v3_0 := r9_0; obtain ⟨_, r9_1⟩ := (hu9 1 (by decide)).pre (by decide); replace r9_1 : u9 1 = ?v3_1 := r9_1; obtain ⟨_, r9_6⟩ := (hu9 6 (by decide)).pre (by decide); replace r9_6 : u9 6 = (.tuple #[.agg #[.bool nz, .string sz, .string tz], .int .i64 kz]) := r9_6; obtain ⟨_, r9_7⟩ := (hu9 7 (by decide)).pre (by decide); replace r9_7 : u9 7 = ?v3_7 := r9_7; obtain ⟨_, r9_8⟩ := (hu9 8 (by decide)).pre (by decide); replace r9_8 : u9 8 = ?v3_8 := r9_8; have r9_10 : u9 10 = ?w3_10 := (hu9 10 (by decide)).late (by decide); clear hu9; obtain ⟨sz9, oz⟩ := hE9
    simp only [putAll, Act.put, List.setIfInBounds_toArray, List.set_cons_succ, List.set_cons_zero, List.getD_cons_succ, List.getD_cons_zero, Nat.reduceAdd, Nat.zero_add]
    simp only [r9_0, r9_1, r9_6, r9_7, r9_8, r9_10]
    clear r9_0 r9_1 r9_6 r9_7 r9_8 r9_10
    go_wp2_with fail
    obtain ⟨z0, z1, z2⟩ := oz.cells3; exact bodyPost_ret (v := .tuple #[.agg #[.bool nz, .string sz, .string tz], .int .i64 kz]) (by simp [results, Tryz.results64, go_sem, z0, z1, z2]) rfl ⟨HRES.out, sz9⟩
  · obtain rfl : n2 = !n1 := by cases n1 <;> cases n2 <;> simp_all
    clear hn; have hnb : (n1 == !n1) = false := by cases n1 <;> rfl
    by_cases hle : c * b ≤ a * d
    · have HQ := Lib.hid (HZ.out.trans (rat_sub_ge n1 a b c d HB.out HD.out hle).symm); have HLE := Lib.hid hle; have tt1 : decide ((0 : Int) ≤ cmpI (a * d) (c * b)) = true := by
        apply decide_eq_true
        unfold cmpI; rw [if_neg (by omega)]; split <;> omega
      clear hle HZ
      go_wp2_with fail
      refine (less_ref _ x6 x7).mono ?_; rintro e wg ⟨rfl, hb2⟩; replace x6 := x6.below hb2; replace x7 := x7.below hb2; replace x8 := x8.below hb2; clear c10 c11 c12 c20 c21 c22; replace o1 := o1.below hb2 o1.lt; replace o2 := o2.below hb2 o2.lt; replace o3 := o3.below hb2 o3.lt; replace hbw := below6 hbw hb2; clear hb2; obtain ⟨c10, c11, c12⟩ := o1.cells3; obtain ⟨c20, c21, c22⟩ := o2.cells3
      go_upto_region 8 with (fail)
      refine wp_reg_st [some 57, some 58, some 59, some 60, some 61, some 62, some 63, some 64, some 65, none, some 5] [isV ?v4_0, isV ?v4_1, (fun v w' => BigV w' v (a * d)), (fun v w' => BigV w' v (c * b)), (fun v w' => BigV w' v ((a * d) - (c * b))), (fun v w' => BigV w' v (b * d)), isV (.tuple #[.agg #[.bool nz, .string sz, .string tz], .int .i64 kz]), isV ?v4_7, isV ?v4_8, fun _ _ => False, fun _ _ => False] [anyV, anyV, anyV, anyV, anyV, anyV, anyV, anyV, anyV, anyV, isV ?w4_10] 9 [0, 1, 2, 3, 4, 5, 6, 7, 8] (fun _ => fun w' => Below w.heap.size w w' ∧ Own w' (w.heap.size + 1 + 1) 27 [.bool nz, .string sz, .string tz]) rfl (by kernel_rfl) rfl rfl (by decide) (by kernel_rfl) (by kernel_rfl) (fun _ _ _ _ h => h) ?k4 ?m4 ⟨?s4_0, ?s4_1, ?s4_2, ?s4_3, ?s4_4, ?s4_5, ?s4_6, ?s4_7, ?s4_8, ?s4_9, ?s4_10, trivial⟩ ?p4
      case s4_0 =>
        rw [if_neg (by decide)]
        constructor
        · rw [if_neg (by decide)]; intro t9 w9 hT9 hV9 hO9 K9 hK9; have o9_2 := hO9 2 _ (.inl (show List.contains _ _ = false from by kernel_rfl)) rfl; clear hV9 hO9; go_simp
          (refine hK9 _ _ (Grow.refl _) ?_; exact rfl)
        · rw [if_pos (by decide)]; trivial
      case s4_1 =>
        rw [if_neg (by decide)]
        constructor
        · rw [if_neg (by decide)]; intro t9 w9 hT9 hV9 hO9 K9 hK9; obtain ⟨x9_0, p9_0, q9_0⟩ := hV9.g 0 57 rfl rfl (by kernel_rfl); obtain rfl : x9_0 = ?v4_0 := q9_0; clear hV9 hO9; have d9_0 := grow_cell hT9 c10; have d9_1 := grow_cell hT9 c11; have d9_2 := grow_cell hT9 c12; have d9_3 := grow_cell hT9 c20; have d9_4 := grow_cell hT9 c21; have d9_5 := grow_cell hT9 c22; go_simp
          (refine hK9 _ _ (Grow.refl _) ?_; exact rfl)
        · rw [if_pos (by decide)]; trivial
      case s4_2 =>
        rw [if_neg (by decide)]
        constructor
        · rw [if_neg (by decide)]; intro t9 w9 hT9 hV9 hO9 K9 hK9; have o9_6 := hO9 6 _ (.inl (show List.contains _ _ = false from by kernel_rfl)) rfl; clear hV9 hO9; go_simp; exact hK9 _ _ (Grow.refl _) (x6.below hT9.below)
        · rw [if_pos (by decide)]; trivial
      case s4_3 =>
        rw [if_neg (by decide)]
        constructor
        · rw [if_neg (by decide)]; intro t9 w9 hT9 hV9 hO9 K9 hK9; have o9_7 := hO9 7 _ (.inl (show List.contains _ _ = false from by kernel_rfl)) rfl; clear hV9 hO9; go_simp; exact hK9 _ _ (Grow.refl _) (x7.below hT9.below)
        · rw [if_pos (by decide)]; trivial
      case s4_4 =>
        rw [if_neg (by decide)]
        constructor
        · rw [if_neg (by decide)]; intro t9 w9 hT9 hV9 hO9 K9 hK9; obtain ⟨x9_2, p9_2, q9_2⟩ := hV9.g 2 59 rfl rfl (by kernel_rfl); replace q9_2 : ((fun v w' => BigV w' v (a * d))) x9_2 _ := q9_2; obtain ⟨x9_3, p9_3, q9_3⟩ := hV9.g 3 60 rfl rfl (by kernel_rfl); replace q9_3 : ((fun v w' => BigV w' v (c * b))) x9_3 _ := q9_3; clear hV9 hO9; go_simp; refine (minus_ref _ q9_2 q9_3 (by omega) HLE.out).mono ?_; rintro _ w8 ⟨v8, rfl, hv8, hb8⟩; exact hK9 _ _ hb8 hv8
        · rw [if_pos (by decide)]; trivial
      case s4_5 =>
        rw [if_neg (by decide)]
        constructor
        · rw [if_neg (by decide)]; intro t9 w9 hT9 hV9 hO9 K9 hK9; have o9_8 := hO9 8 _ (.inl (show List.contains _ _ = false from by kernel_rfl)) rfl; clear hV9 hO9; go_simp; exact hK9 _ _ (Grow.refl _) (x8.below hT9.below)
        · rw [if_pos (by decide)]; trivial
      case s4_6 =>
        rw [if_neg (by decide)]
        constructor
        · rw [if_neg (by decide)]; intro t9 w9 hT9 hV9 hO9 K9 hK9; obtain ⟨x9_1, p9_1, q9_1⟩ := hV9.g 1 58 rfl rfl (by kernel_rfl); obtain rfl : x9_1 = ?v4_1 := q9_1; obtain ⟨x9_4, p9_4, q9_4⟩ := hV9.g 4 61 rfl rfl (by kernel_rfl); replace q9_4 : ((fun v w' => BigV w' v ((a * d) - (c * b)))) x9_4 _ := q9_4; obtain ⟨x9_5, p9_5, q9_5⟩ := hV9.g 5 62 rfl rfl (by kernel_rfl); replace q9_5 : ((fun v w' => BigV w' v (b * d))) x9_5 _ := q9_5; clear hV9 hO9; go_simp; refine (lowest_ref n1 _ _ ((a * d) - (c * b)) (b * d) _ q9_4 q9_5 (by omega) (by omega) HBD.out).mono ?_; rintro e w8 ⟨hl, hb8⟩; have he := HEND.out _ (by rw [HQ.out]; exact hl.toRat HBD.out); subst he; exact hK9 _ _ hb8 rfl
        · rw [if_pos (by decide)]; trivial
      case s4_7 =>
        rw [if_neg (by decide)]
        constructor
        · rw [if_neg (by decide)]; intro t9 w9 hT9 hV9 hO9 K9 hK9; obtain ⟨x9_6, p9_6, q9_6⟩ := hV9.g 6 63 rfl rfl (by kernel_rfl); obtain rfl : x9_6 = (.tuple #[.agg #[.bool nz, .string sz, .string tz], .int .i64 kz]) := q9_6; clear hV9 hO9; go_simp
          (refine hK9 _ _ (Grow.refl _) ?_; exact rfl)
        · rw [if_pos (by decide)]; trivial
      case s4_8 =>
        rw [if_neg (by decide)]
        constructor
        · rw [if_neg (by decide)]; intro t9 w9 hT9 hV9 hO9 K9 hK9; obtain ⟨x9_6, p9_6, q9_6⟩ := hV9.g 6 63 rfl rfl (by kernel_rfl); obtain rfl : x9_6 = (.tuple #[.agg #[.bool nz, .string sz, .string tz], .int .i64 kz]) := q9_6; clear hV9 hO9; go_simp
          (refine hK9 _ _ (Grow.refl _) ?_; exact rfl)
        · rw [if_pos (by decide)]; trivial
      case s4_9 =>
        rw [if_pos (by decide)]; intro t9 w9 hT9 hV9 hO9 K9 hK9; obtain ⟨x9_7, p9_7, q9_7⟩ := hV9.g 7 64 (by decide) rfl (by kernel_rfl); obtain rfl : x9_7 = ?v4_7 := q9_7; have o9_4 := hO9 4 _ (.inl (show List.contains _ _ = false from by kernel_rfl)) rfl; clear hV9 hO9; have og := o3.below hT9.below o3.lt; obtain ⟨hg0, hg1, hg2⟩ := og.cells3; obtain ⟨hf0, hf1, hf2⟩ := og.frozens3; have HE := Lib.hid (⟨Below.set3 (below6 hbw hT9.below) (by omega) _ _ _, og.set3 _ _ _⟩ : (fun w' => Below w.heap.size w w' ∧ Own w' (w.heap.size + 1 + 1) 27 [.bool nz, .string sz, .string tz]) ((((w9.setCell ⟨w.heap.size + 1 + 1, 0, none⟩ (.bool nz)).setCell ⟨w.heap.size + 1 + 1, 1, none⟩ (.string sz)).setCell ⟨w.heap.size + 1 + 1, 2, none⟩ (.string tz)))); go_simp; exact hK9 undef _ HE.out trivial
      case s4_10 =>
        rw [if_neg (by decide)]
        constructor
        · rw [if_pos (by rfl)]; trivial
        · rw [if_neg (by decide)]; intro t9 w9 hV9 hO9 K9 hK9; obtain ⟨x9_8, p9_8, q9_8⟩ := hV9.g 8 65 rfl rfl (by kernel_rfl); obtain ⟨_, q9_8⟩ := q9_8.pre (by decide); obtain rfl : x9_8 = ?v4_8 := q9_8; clear hV9 hO9; go_simp
          (refine hK9 _ ?_; exact rfl)
      case k4 =>
        intro i9 v9 w9 x9 h9 g9
        match i9, h9 with
        | 0, h9 => exact h9
        | 1, h9 => exact h9
        | 2, h9 => (replace h9 : (fun v w' => BigV w' v (a * d)) v9 w9 := h9); exact BigV.below h9 g9
        | 3, h9 => (replace h9 : (fun v w' => BigV w' v (c * b)) v9 w9 := h9); exact BigV.below h9 g9
        | 4, h9 => (replace h9 : (fun v w' => BigV w' v ((a * d) - (c * b))) v9 w9 := h9); exact BigV.below h9 g9
        | 5, h9 => (replace h9 : (fun v w' => BigV w' v (b * d)) v9 w9 := h9); exact BigV.below h9 g9
        | 6, h9 => exact h9
        | 7, h9 => exact h9
        | 8, h9 => exact h9
        | 9, h9 => exact h9
        | 10, h9 => exact h9
        | _ + 11, h9 => exact trivial
      case m4 =>
        intro i9 v9 w9 x9 a s h
        match i9, a, s, h with
        | 0, a, _, _ => exact absurd (by decide) a
        | 1, a, _, _ => exact absurd (by decide) a
        | 2, a, _, _ => exact absurd (by decide) a
        | 3, a, _, _ => exact absurd (by decide) a
        | 4, a, _, _ => exact absurd (by decide) a
        | 5, a, _, _ => exact absurd (by decide) a
        | 6, a, _, _ => exact absurd (by decide) a
        | 7, a, _, _ => exact absurd (by decide) a
        | 8, a, _, _ => exact absurd (by decide) a
        | 9, _, s, _ => exact absurd rfl s
        | 10, _, _, h => exact False.elim h
        | _ + 11, _, _, _ => exact trivial
      intro u9 w9 hE9 hu9; obtain ⟨_, r9_0⟩ := (hu9 0 (by decide)).pre (by decide); replace r9_0 : u9 0 = ?v4_0 := r9_0; obtain ⟨_, r9_1⟩ := (hu9 1 (by decide)).pre (by decide); replace r9_1 : u9 1 = ?v4_1 := r9_1; obtain ⟨_, r9_6⟩ := (hu9 6 (by decide)).pre (by decide); replace r9_6 : u9 6 = (.tuple #[.agg #[.bool nz, .string sz, .string tz], .int .i64 kz]) := r9_6; obtain ⟨_, r9_7⟩ := (hu9 7 (by decide)).pre (by decide); replace r9_7 : u9 7 = ?v4_7 := r9_7; obtain ⟨_, r9_8⟩ := (hu9 8 (by decide)).pre (by decide); replace r9_8 : u9 8 = ?v4_8 := r9_8; have r9_10 : u9 10 = ?w4_10 := (hu9 10 (by decide)).late (by decide); clear hu9; obtain ⟨sz9, oz⟩ := hE9
      simp only [putAll, Act.put, List.setIfInBounds_toArray, List.set_cons_succ, List.set_cons_zero, List.getD_cons_succ, List.getD_cons_zero, Nat.reduceAdd, Nat.zero_add]
      simp only [r9_0, r9_1, r9_6, r9_7, r9_8, r9_10]
      clear r9_0 r9_1 r9_6 r9_7 r9_8 r9_10
      go_wp2_with fail
      obtain ⟨z0, z1, z2⟩ := oz.cells3; exact bodyPost_ret (v := .tuple #[.agg #[.bool nz, .string sz, .string tz], .int .i64 kz]) (by simp [results, Tryz.results64, go_sem, z0, z1, z2]) rfl ⟨HRES.out, sz9⟩
    · have HQ := Lib.hid (HZ.out.trans (rat_sub_lt n1 a b c d HB.out HD.out (by omega)).symm); have HLE := Lib.hid (show a * d ≤ c * b by omega); have tt1 : decide ((0 : Int) ≤ cmpI (a * d) (c * b)) = false := by
        apply decide_eq_false
        unfold cmpI; rw [if_pos (by omega)]; omega
      clear hle HZ
      go_wp2_with fail
      refine (less_ref _ x6 x7).mono ?_; rintro e wg ⟨rfl, hb2⟩; replace x6 := x6.below hb2; replace x7 := x7.below hb2; replace x8 := x8.below hb2; clear c10 c11 c12 c20 c21 c22; replace o1 := o1.below hb2 o1.lt; replace o2 := o2.below hb2 o2.lt; replace o3 := o3.below hb2 o3.lt; replace hbw := below6 hbw hb2; clear hb2; obtain ⟨c10, c11, c12⟩ := o1.cells3; obtain ⟨c20, c21, c22⟩ := o2.cells3
      go_upto_region 9 with (fail)
      refine wp_reg_st [some 66, some 67, some 68, some 69, some 70, some 71, some 72, some 73, some 74, none, some 5] [isV ?v5_0, isV ?v5_1, (fun v w' => BigV w' v (c * b)), (fun v w' => BigV w' v (a * d)), (fun v w' => BigV w' v ((c * b) - (a * d))), (fun v w' => BigV w' v (b * d)), isV (.tuple #[.agg #[.bool nz, .string sz, .string tz], .int .i64 kz]), isV ?v5_7, isV ?v5_8, fun _ _ => False, fun _ _ => False] [anyV, anyV, anyV, anyV, anyV, anyV, anyV, anyV, anyV, anyV, isV ?w5_10] 9 [0, 1, 2, 3, 4, 5, 6, 7, 8] (fun _ => fun w' => Below w.heap.size w w' ∧ Own w' (w.heap.size + 1 + 1) 27 [.bool nz, .string sz, .string tz]) rfl (by kernel_rfl) rfl rfl (by decide) (by kernel_rfl) (by kernel_rfl) (fun _ _ _ _ h => h) ?k5 ?m5 ⟨?s5_0, ?s5_1, ?s5_2, ?s5_3, ?s5_4, ?s5_5, ?s5_6, ?s5_7, ?s5_8, ?s5_9, ?s5_10, trivial⟩ ?p5
      case s5_0 =>
        rw [if_neg (by decide)]
        constructor
        · rw [if_neg (by decide)]; intro t9 w9 hT9 hV9 hO9 K9 hK9; have o9_3 := hO9 3 _ (.inl (show List.contains _ _ = false from by kernel_rfl)) rfl; clear hV9 hO9; go_simp
          (refine hK9 _ _ (Grow.refl _) ?_; exact rfl)
        · rw [if_pos (by decide)]; trivial
      case s5_1 =>
        rw [if_neg (by decide)]
        constructor
        · rw [if_neg (by decide)]; intro t9 w9 hT9 hV9 hO9 K9 hK9; obtain ⟨x9_0, p9_0, q9_0⟩ := hV9.g 0 66 rfl rfl (by kernel_rfl); obtain rfl : x9_0 = ?v5_0 := q9_0; clear hV9 hO9; have d9_0 := grow_cell hT9 c10; have d9_1 := grow_cell hT9 c11; have d9_2 := grow_cell hT9 c12; have d9_3 := grow_cell hT9 c20; have d9_4 := grow_cell hT9 c21; have d9_5 := grow_cell hT9 c22; go_simp
          (refine hK9 _ _ (Grow.refl _) ?_; exact rfl)
        · rw [if_pos (by decide)]; trivial
      case s5_2 =>
        rw [if_neg (by decide)]
        constructor
        · rw [if_neg (by decide)]; intro t9 w9 hT9 hV9 hO9 K9 hK9; have o9_7 := hO9 7 _ (.inl (show List.contains _ _ = false from by kernel_rfl)) rfl; clear hV9 hO9; go_simp; exact hK9 _ _ (Grow.refl _) (x7.below hT9.below)
        · rw [if_pos (by decide)]; trivial
      case s5_3 =>
        rw [if_neg (by decide)]
        constructor
        · rw [if_neg (by decide)]; intro t9 w9 hT9 hV9 hO9 K9 hK9; have o9_6 := hO9 6 _ (.inl (show List.contains _ _ = false from by kernel_rfl)) rfl; clear hV9 hO9; go_simp; exact hK9 _ _ (Grow.refl _) (x6.below hT9.below)
        · rw [if_pos (by decide)]; trivial
      case s5_4 =>
        rw [if_neg (by decide)]
        constructor
        · rw [if_neg (by decide)]; intro t9 w9 hT9 hV9 hO9 K9 hK9; obtain ⟨x9_2, p9_2, q9_2⟩ := hV9.g 2 68 rfl rfl (by kernel_rfl); replace q9_2 : ((fun v w' => BigV w' v (c * b))) x9_2 _ := q9_2; obtain ⟨x9_3, p9_3, q9_3⟩ := hV9.g 3 69 rfl rfl (by kernel_rfl); replace q9_3 : ((fun v w' => BigV w' v (a * d))) x9_3 _ := q9_3; clear hV9 hO9; go_simp; refine (minus_ref _ q9_2 q9_3 (by omega) HLE.out).mono ?_; rintro _ w8 ⟨v8, rfl, hv8, hb8⟩; exact hK9 _ _ hb8 hv8
        · rw [if_pos (by decide)]; trivial
      case s5_5 =>
        rw [if_neg (by decide)]
        constructor
        · rw [if_neg (by decide)]; intro t9 w9 hT9 hV9 hO9 K9 hK9; have o9_8 := hO9 8 _ (.inl (show List.contains _ _ = false from by kernel_rfl)) rfl; clear hV9 hO9; go_simp; exact hK9 _ _ (Grow.refl _) (x8.below hT9.below)
        · rw [if_pos (by decide)]; trivial
      case s5_6 =>
        rw [if_neg (by decide)]
        constructor
        · rw [if_neg (by decide)]; intro t9 w9 hT9 hV9 hO9 K9 hK9; obtain ⟨x9_1, p9_1, q9_1⟩ := hV9.g 1 67 rfl rfl (by kernel_rfl); obtain rfl : x9_1 = ?v5_1 := q9_1; obtain ⟨x9_4, p9_4, q9_4⟩ := hV9.g 4 70 rfl rfl (by kernel_rfl); replace q9_4 : ((fun v w' => BigV w' v ((c * b) - (a * d)))) x9_4 _ := q9_4; obtain ⟨x9_5, p9_5, q9_5⟩ := hV9.g 5 71 rfl rfl (by kernel_rfl); replace q9_5 : ((fun v w' => BigV w' v (b * d))) x9_5 _ := q9_5; clear hV9 hO9; go_simp; refine (lowest_ref (!n1) _ _ ((c * b) - (a * d)) (b * d) _ q9_4 q9_5 (by omega) (by omega) HBD.out).mono ?_; rintro e w8 ⟨hl, hb8⟩; have he := HEND.out _ (by rw [HQ.out]; exact hl.toRat HBD.out); subst he; exact hK9 _ _ hb8 rfl
        · rw [if_pos (by decide)]; trivial
      case s5_7 =>
        rw [if_neg (by decide)]
        constructor
        · rw [if_neg (by decide)]; intro t9 w9 hT9 hV9 hO9 K9 hK9; obtain ⟨x9_6, p9_6, q9_6⟩ := hV9.g 6 72 rfl rfl (by kernel_rfl); obtain rfl : x9_6 = (.tuple #[.agg #[.bool nz, .string sz, .string tz], .int .i64 kz]) := q9_6; clear hV9 hO9; go_simp
          (refine hK9 _ _ (Grow.refl _) ?_; exact rfl)
        · rw [if_pos (by decide)]; trivial
      case s5_8 =>
        rw [if_neg (by decide)]
        constructor
        · rw [if_neg (by decide)]; intro t9 w9 hT9 hV9 hO9 K9 hK9; obtain ⟨x9_6, p9_6, q9_6⟩ := hV9.g 6 72 rfl rfl (by kernel_rfl); obtain rfl : x9_6 = (.tuple #[.agg #[.bool nz, .string sz, .string tz], .int .i64 kz]) := q9_6; clear hV9 hO9; go_simp
          (refine hK9 _ _ (Grow.refl _) ?_; exact rfl)
        · rw [if_pos (by decide)]; trivial
      case s5_9 =>
        rw [if_pos (by decide)]; intro t9 w9 hT9 hV9 hO9 K9 hK9; obtain ⟨x9_7, p9_7, q9_7⟩ := hV9.g 7 73 (by decide) rfl (by kernel_rfl); obtain rfl : x9_7 = ?v5_7 := q9_7; have o9_4 := hO9 4 _ (.inl (show List.contains _ _ = false from by kernel_rfl)) rfl; clear hV9 hO9; have og := o3.below hT9.below o3.lt; obtain ⟨hg0, hg1, hg2⟩ := og.cells3; obtain ⟨hf0, hf1, hf2⟩ := og.frozens3; have HE := Lib.hid (⟨Below.set3 (below6 hbw hT9.below) (by omega) _ _ _, og.set3 _ _ _⟩ : (fun w' => Below w.heap.size w w' ∧ Own w' (w.heap.size + 1 + 1) 27 [.bool nz, .string sz, .string tz]) ((((w9.setCell ⟨w.heap.size + 1 + 1, 0, none⟩ (.bool nz)).setCell ⟨w.heap.size + 1 + 1, 1, none⟩ (.string sz)).setCell ⟨w.heap.size + 1 + 1, 2, none⟩ (.string tz)))); go_simp; exact hK9 undef _ HE.out trivial
      case s5_10 =>
        rw [if_neg (by decide)]
        constructor
        · rw [if_pos (by rfl)]; trivial
        · rw [if_neg (by decide)]; intro t9 w9 hV9 hO9 K9 hK9; obtain ⟨x9_8, p9_8, q9_8⟩ := hV9.g 8 74 rfl rfl (by kernel_rfl); obtain ⟨_, q9_8⟩ := q9_8.pre (by decide); obtain rfl : x9_8 = ?v5_8 := q9_8; clear hV9 hO9; go_simp
          (refine hK9 _ ?_; exact rfl)
      case k5 =>
        intro i9 v9 w9 x9 h9 g9
        match i9, h9 with
        | 0, h9 => exact h9
        | 1, h9 => exact h9
        | 2, h9 => (replace h9 : (fun v w' => BigV w' v (c * b)) v9 w9 := h9); exact BigV.below h9 g9
        | 3, h9 => (replace h9 : (fun v w' => BigV w' v (a * d)) v9 w9 := h9); exact BigV.below h9 g9
        | 4, h9 => (replace h9 : (fun v w' => BigV w' v ((c * b) - (a * d))) v9 w9 := h9); exact BigV.below h9 g9
        | 5, h9 => (replace h9 : (fun v w' => BigV w' v (b * d)) v9 w9 := h9); exact BigV.below h9 g9
        | 6, h9 => exact h9
        | 7, h9 => exact h9
        | 8, h9 => exact h9
        | 9, h9 => exact h9
        | 10, h9 => exact h9
        | _ + 11, h9 => exact trivial
      case m5 =>
        intro i9 v9 w9 x9 a s h
        match i9, a, s, h with
        | 0, a, _, _ => exact absurd (by decide) a
        | 1, a, _, _ => exact absurd (by decide) a
        | 2, a, _, _ => exact absurd (by decide) a
        | 3, a, _, _ => exact absurd (by decide) a
        | 4, a, _, _ => exact absurd (by decide) a
        | 5, a, _, _ => exact absurd (by decide) a
        | 6, a, _, _ => exact absurd (by decide) a
        | 7, a, _, _ => exact absurd (by decide) a
        | 8, a, _, _ => exact absurd (by decide) a
        | 9, _, s, _ => exact absurd rfl s
        | 10, _, _, h => exact False.elim h
        | _ + 11, _, _, _ => exact trivial
      intro u9 w9 hE9 hu9; obtain ⟨_, r9_0⟩ := (hu9 0 (by decide)).pre (by decide); replace r9_0 : u9 0 = ?v5_0 := r9_0; obtain ⟨_, r9_1⟩ := (hu9 1 (by decide)).pre (by decide); replace r9_1 : u9 1 = ?v5_1 := r9_1; obtain ⟨_, r9_6⟩ := (hu9 6 (by decide)).pre (by decide); replace r9_6 : u9 6 = (.tuple #[.agg #[.bool nz, .string sz, .string tz], .int .i64 kz]) := r9_6; obtain ⟨_, r9_7⟩ := (hu9 7 (by decide)).pre (by decide); replace r9_7 : u9 7 = ?v5_7 := r9_7; obtain ⟨_, r9_8⟩ := (hu9 8 (by decide)).pre (by decide); replace r9_8 : u9 8 = ?v5_8 := r9_8; have r9_10 : u9 10 = ?w5_10 := (hu9 10 (by decide)).late (by decide); clear hu9; obtain ⟨sz9, oz⟩ := hE9
      simp only [putAll, Act.put, List.setIfInBounds_toArray, List.set_cons_succ, List.set_cons_zero, List.getD_cons_succ, List.getD_cons_zero, Nat.reduceAdd, Nat.zero_add]
      simp only [r9_0, r9_1, r9_6, r9_7, r9_8, r9_10]
      clear r9_0 r9_1 r9_6 r9_7 r9_8 r9_10
      go_wp2_with fail
      obtain ⟨z0, z1, z2⟩ := oz.cells3; exact bodyPost_ret (v := .tuple #[.agg #[.bool nz, .string sz, .string tz], .int .i64 kz]) (by simp [results, Tryz.results64, go_sem, z0, z1, z2]) rfl ⟨HRES.out, sz9⟩
theorem mulr_core (n1 n2 : Bool) (s1 t1 s2 t2 : ByteArray) (a b c d : Nat) (z : Rat) (hq : z = rat (n1 != n2) (a * c) (b * d)) (i1 : IsYes (.agg #[.bool n1, .string s1, .string t1])) (i2 : IsYes (.agg #[.bool n2, .string s2, .string t2])) (g1 : BigOf s1 a) (g2 : BigOf t1 b) (g3 : BigOf s2 c) (g4 : BigOf t2 d) (hb : 0 < b) (hd : 0 < d) (l1 : (dk a).length ≤ 20000) (l2 : (dk b).length ≤ 20000) (l3 : (dk c).length ≤ 20000) (l4 : (dk d).length ≤ 20000) (w : World) :
    Calls Tryz.prog 41 #[.agg #[.bool n1, .string s1, .string t1], .agg #[.bool n2, .string s2, .string t2]] w fun e w' => RatRes z e ∧ Below w.heap.size w w' := by
  have m1 := dk_mul a c; have m2 := dk_mul b d; have HQ := Lib.hid hq; have HPOS := Lib.hid (Nat.mul_pos hb hd); clear hq; have I1 := Lib.hid i1; have I2 := Lib.hid i2; have G1 := Lib.hid g1; have G2 := Lib.hid g2; have G3 := Lib.hid g3; have G4 := Lib.hid g4; have HB := Lib.hid hb; have HD := Lib.hid hd; obtain ⟨nz, sz, tz, kz, hend, hres⟩ := ratRes_one z; have HEND := Lib.hid hend; have HRES := Lib.hid hres; clear hend hres; clear i1 i2 g1 g2 g3 g4 hb hd; obtain ⟨o1, o2, o3, hbw⟩ := new3 w [.bool n1, .string s1, .string t1] [.bool n2, .string s2, .string t2] [.bool false, .string ⟨#[]⟩, .string ⟨#[]⟩] 27 27 27
  go_enter Tryz.func41, Tryz.ntmps41
  go_upto_region 1 with (fail)
  generalize (((w.alloc (.cells #[.bool n1, .string s1, .string t1] 27)).alloc (.cells #[.bool n2, .string s2, .string t2] 27)).alloc (.cells #[.bool false, .string ⟨#[]⟩, .string ⟨#[]⟩] 27)) = wb at o1 o2 o3 hbw ⊢; obtain ⟨c10, c11, c12⟩ := o1.cells3; obtain ⟨c20, c21, c22⟩ := o2.cells3
  go_wp2_with fail
  refine (I1.out _).mono ?_; rintro e wc ⟨rfl, hb1⟩; clear c10 c11 c12 c20 c21 c22; replace o1 := o1.below hb1 o1.lt; replace o2 := o2.below hb1 o2.lt; replace o3 := o3.below hb1 o3.lt; replace hbw := below6 hbw hb1; clear hb1; obtain ⟨c10, c11, c12⟩ := o1.cells3; obtain ⟨c20, c21, c22⟩ := o2.cells3
  go_wp2_with fail
  refine (I2.out _).mono ?_; rintro e wd ⟨rfl, hb2⟩; clear c10 c11 c12 c20 c21 c22; replace o1 := o1.below hb2 o1.lt; replace o2 := o2.below hb2 o2.lt; replace o3 := o3.below hb2 o3.lt; replace hbw := below6 hbw hb2; clear hb2; obtain ⟨c10, c11, c12⟩ := o1.cells3; obtain ⟨c20, c21, c22⟩ := o2.cells3
  go_upto_region 3 with (fail)
  refine wp_reg_st [some 15, some 16, some 17, some 18, some 19, some 20, some 21, some 22, some 23, some 24, some 25, some 26, some 27, some 28, some 29, some 30, some 31, some 32, some 33, some 34, some 35, some 36, none, some 5] [isV ?v6_0, isV ?v6_1, isV ?v6_2, isV ?v6_3, isV ?v6_4, isV ?v6_5, isV ?v6_6, (fun v w' => BigV w' v (a)), isV ?v6_8, isV ?v6_9, (fun v w' => BigV w' v (c)), (fun v w' => BigV w' v (a * c)), isV ?v6_12, isV ?v6_13, (fun v w' => BigV w' v (b)), isV ?v6_15, isV ?v6_16, (fun v w' => BigV w' v (d)), (fun v w' => BigV w' v (b * d)), isV (.tuple #[.agg #[.bool nz, .string sz, .string tz], .int .i64 kz]), isV ?v6_20, isV ?v6_21, fun _ _ => False, fun _ _ => False] [anyV, anyV, anyV, anyV, anyV, anyV, anyV, anyV, anyV, anyV, anyV, anyV, anyV, anyV, anyV, anyV, anyV, anyV, anyV, anyV, anyV, anyV, anyV, isV ?w6_23] 22 [0, 1, 2, 3, 4, 5, 6, 7, 8, 9, 10, 11, 12, 13, 14, 15, 16, 17, 18, 19, 20, 21] (fun _ => fun w' => Below w.heap.size w w' ∧ Own w' (w.heap.size + 1 + 1) 27 [.bool nz, .string sz, .string tz]) rfl (by kernel_rfl) rfl rfl (by decide) (by kernel_rfl) (by kernel_rfl) (fun _ _ _ _ h => h) ?k6 ?m6 ⟨?s6_0, ?s6_1, ?s6_2, ?s6_3, ?s6_4, ?s6_5, ?s6_6, ?s6_7, ?s6_8, ?s6_9, ?s6_10, ?s6_11, ?s6_12, ?s6_13, ?s6_14, ?s6_15, ?s6_16, ?s6_17, ?s6_18, ?s6_19, ?s6_20, ?s6_21, ?s6_22, ?s6_23, trivial⟩ ?p6
  case s6_0 =>
    rw [if_neg (by decide)]
    constructor
    · rw [if_neg (by decide)]; intro t9 w9 hT9 hV9 hO9 K9 hK9; have o9_2 := hO9 2 _ (.inl (show List.contains _ _ = false from by kernel_rfl)) rfl; clear hV9 hO9; go_simp
      (refine hK9 _ _ (Grow.refl _) ?_; exact rfl)
    · rw [if_pos (by decide)]; trivial
  case s6_1 =>
    rw [if_neg (by decide)]
    constructor
    · rw [if_neg (by decide)]; intro t9 w9 hT9 hV9 hO9 K9 hK9; obtain ⟨x9_0, p9_0, q9_0⟩ := hV9.g 0 15 rfl rfl (by kernel_rfl); obtain rfl : x9_0 = ?v6_0 := q9_0; clear hV9 hO9; have d9_0 := grow_cell hT9 c10; have d9_1 := grow_cell hT9 c11; have d9_2 := grow_cell hT9 c12; have d9_3 := grow_cell hT9 c20; have d9_4 := grow_cell hT9 c21; have d9_5 := grow_cell hT9 c22; go_simp
      (refine hK9 _ _ (Grow.refl _) ?_; exact rfl)
    · rw [if_pos (by decide)]; trivial
  case s6_2 =>
    rw [if_neg (by decide)]
    constructor
    · rw [if_neg (by decide)]; intro t9 w9 hT9 hV9 hO9 K9 hK9; have o9_3 := hO9 3 _ (.inl (show List.contains _ _ = false from by kernel_rfl)) rfl; clear hV9 hO9; go_simp
      (refine hK9 _ _ (Grow.refl _) ?_; exact rfl)
    · rw [if_pos (by decide)]; trivial
  case s6_3 =>
    rw [if_neg (by decide)]
    constructor
    · rw [if_neg (by decide)]; intro t9 w9 hT9 hV9 hO9 K9 hK9; obtain ⟨x9_2, p9_2, q9_2⟩ := hV9.g 2 17 rfl rfl (by kernel_rfl); obtain rfl : x9_2 = ?v6_2 := q9_2; clear hV9 hO9; have d9_0 := grow_cell hT9 c10; have d9_1 := grow_cell hT9 c11; have d9_2 := grow_cell hT9 c12; have d9_3 := grow_cell hT9 c20; have d9_4 := grow_cell hT9 c21; have d9_5 := grow_cell hT9 c22; go_simp
      (refine hK9 _ _ (Grow.refl _) ?_; exact rfl)
    · rw [if_pos (by decide)]; trivial
  case s6_4 =>
    rw [if_neg (by decide)]
    constructor
    · rw [if_neg (by decide)]; intro t9 w9 hT9 hV9 hO9 K9 hK9; obtain ⟨x9_1, p9_1, q9_1⟩ := hV9.g 1 16 rfl rfl (by kernel_rfl); obtain rfl : x9_1 = ?v6_1 := q9_1; obtain ⟨x9_3, p9_3, q9_3⟩ := hV9.g 3 18 rfl rfl (by kernel_rfl); obtain rfl : x9_3 = ?v6_3 := q9_3; clear hV9 hO9; go_simp
      (refine hK9 _ _ (Grow.refl _) ?_; exact rfl)
    · rw [if_pos (by decide)]; trivial
  case s6_5 =>
    rw [if_neg (by decide)]
    constructor
    · rw [if_neg (by decide)]; intro t9 w9 hT9 hV9 hO9 K9 hK9; have o9_2 := hO9 2 _ (.inl (show List.contains _ _ = false from by kernel_rfl)) rfl; clear hV9 hO9; go_simp
      (refine hK9 _ _ (Grow.refl _) ?_; exact rfl)
    · rw [if_pos (by decide)]; trivial
  case s6_6 =>
    rw [if_neg (by decide)]
    constructor
    · rw [if_neg (by decide)]; intro t9 w9 hT9 hV9 hO9 K9 hK9; obtain ⟨x9_5, p9_5, q9_5⟩ := hV9.g 5 20 rfl rfl (by kernel_rfl); obtain rfl : x9_5 = ?v6_5 := q9_5; clear hV9 hO9; have d9_0 := grow_cell hT9 c10; have d9_1 := grow_cell hT9 c11; have d9_2 := grow_cell hT9 c12; have d9_3 := grow_cell hT9 c20; have d9_4 := grow_cell hT9 c21; have d9_5 := grow_cell hT9 c22; go_simp
      (refine hK9 _ _ (Grow.refl _) ?_; exact rfl)
    · rw [if_pos (by decide)]; trivial
  case s6_7 =>
    rw [if_neg (by decide)]
    constructor
    · rw [if_neg (by decide)]; intro t9 w9 hT9 hV9 hO9 K9 hK9; obtain ⟨x9_6, p9_6, q9_6⟩ := hV9.g 6 21 rfl rfl (by kernel_rfl); obtain rfl : x9_6 = ?v6_6 := q9_6; clear hV9 hO9; go_simp; refine (G1.out _).mono ?_; rintro _ w8 ⟨v8, rfl, hv8, hb8⟩; exact hK9 _ _ hb8 hv8
    · rw [if_pos (by decide)]; trivial
  case s6_8 =>
    rw [if_neg (by decide)]
    constructor
    · rw [if_neg (by decide)]; intro t9 w9 hT9 hV9 hO9 K9 hK9; have o9_3 := hO9 3 _ (.inl (show List.contains _ _ = false from by kernel_rfl)) rfl; clear hV9 hO9; go_simp
      (refine hK9 _ _ (Grow.refl _) ?_; exact rfl)
    · rw [if_pos (by decide)]; trivial
  case s6_9 =>
    rw [if_neg (by decide)]
    constructor
    · rw [if_neg (by decide)]; intro t9 w9 hT9 hV9 hO9 K9 hK9; obtain ⟨x9_8, p9_8, q9_8⟩ := hV9.g 8 23 rfl rfl (by kernel_rfl); obtain rfl : x9_8 = ?v6_8 := q9_8; clear hV9 hO9; have d9_0 := grow_cell hT9 c10; have d9_1 := grow_cell hT9 c11; have d9_2 := grow_cell hT9 c12; have d9_3 := grow_cell hT9 c20; have d9_4 := grow_cell hT9 c21; have d9_5 := grow_cell hT9 c22; go_simp
      (refine hK9 _ _ (Grow.refl _) ?_; exact rfl)
    · rw [if_pos (by decide)]; trivial
  case s6_10 =>
    rw [if_neg (by decide)]
    constructor
    · rw [if_neg (by decide)]; intro t9 w9 hT9 hV9 hO9 K9 hK9; obtain ⟨x9_9, p9_9, q9_9⟩ := hV9.g 9 24 rfl rfl (by kernel_rfl); obtain rfl : x9_9 = ?v6_9 := q9_9; clear hV9 hO9; go_simp; refine (G3.out _).mono ?_; rintro _ w8 ⟨v8, rfl, hv8, hb8⟩; exact hK9 _ _ hb8 hv8
    · rw [if_pos (by decide)]; trivial
  case s6_11 =>
    rw [if_neg (by decide)]
    constructor
    · rw [if_neg (by decide)]; intro t9 w9 hT9 hV9 hO9 K9 hK9; obtain ⟨x9_7, p9_7, q9_7⟩ := hV9.g 7 22 rfl rfl (by kernel_rfl); replace q9_7 : ((fun v w' => BigV w' v (a))) x9_7 _ := q9_7; obtain ⟨x9_10, p9_10, q9_10⟩ := hV9.g 10 25 rfl rfl (by kernel_rfl); replace q9_10 : ((fun v w' => BigV w' v (c))) x9_10 _ := q9_10; clear hV9 hO9; go_simp; refine (times_ref _ q9_7 q9_10 (by omega) (by omega)).mono ?_; rintro _ w8 ⟨v8, rfl, hv8, hb8⟩; exact hK9 _ _ hb8 hv8
    · rw [if_pos (by decide)]; trivial
  case s6_12 =>
    rw [if_neg (by decide)]
    constructor
    · rw [if_neg (by decide)]; intro t9 w9 hT9 hV9 hO9 K9 hK9; have o9_2 := hO9 2 _ (.inl (show List.contains _ _ = false from by kernel_rfl)) rfl; clear hV9 hO9; go_simp
      (refine hK9 _ _ (Grow.refl _) ?_; exact rfl)
    · rw [if_pos (by decide)]; trivial
  case s6_13 =>
    rw [if_neg (by decide)]
    constructor
    · rw [if_neg (by decide)]; intro t9 w9 hT9 hV9 hO9 K9 hK9; obtain ⟨x9_12, p9_12, q9_12⟩ := hV9.g 12 27 rfl rfl (by kernel_rfl); obtain rfl : x9_12 = ?v6_12 := q9_12; clear hV9 hO9; have d9_0 := grow_cell hT9 c10; have d9_1 := grow_cell hT9 c11; have d9_2 := grow_cell hT9 c12; have d9_3 := grow_cell hT9 c20; have d9_4 := grow_cell hT9 c21; have d9_5 := grow_cell hT9 c22; go_simp
      (refine hK9 _ _ (Grow.refl _) ?_; exact rfl)
    · rw [if_pos (by decide)]; trivial
  case s6_14 =>
    rw [if_neg (by decide)]
    constructor
    · rw [if_neg (by decide)]; intro t9 w9 hT9 hV9 hO9 K9 hK9; obtain ⟨x9_13, p9_13, q9_13⟩ := hV9.g 13 28 rfl rfl (by kernel_rfl); obtain rfl : x9_13 = ?v6_13 := q9_13; clear hV9 hO9; go_simp; refine (G2.out _).mono ?_; rintro _ w8 ⟨v8, rfl, hv8, hb8⟩; exact hK9 _ _ hb8 hv8
    · rw [if_pos (by decide)]; trivial
  case s6_15 =>
    rw [if_neg (by decide)]
    constructor
    · rw [if_neg (by decide)]; intro t9 w9 hT9 hV9 hO9 K9 hK9; have o9_3 := hO9 3 _ (.inl (show List.contains _ _ = false from by kernel_rfl)) rfl; clear hV9 hO9; go_simp
      (refine hK9 _ _ (Grow.refl _) ?_; exact rfl)
    · rw [if_pos (by decide)]; trivial
  case s6_16 =>
    rw [if_neg (by decide)]
    constructor
    · rw [if_neg (by decide)]; intro t9 w9 hT9 hV9 hO9 K9 hK9; obtain ⟨x9_15, p9_15, q9_15⟩ := hV9.g 15 30 rfl rfl (by kernel_rfl); obtain rfl : x9_15 = ?v6_15 := q9_15; clear hV9 hO9; have d9_0 := grow_cell hT9 c10; have d9_1 := grow_cell hT9 c11; have d9_2 := grow_cell hT9 c12; have d9_3 := grow_cell hT9 c20; have d9_4 := grow_cell hT9 c21; have d9_5 := grow_cell hT9 c22; go_simp
      (refine hK9 _ _ (Grow.refl _) ?_; exact rfl)
    · rw [if_pos (by decide)]; trivial
  case s6_17 =>
    rw [if_neg (by decide)]
    constructor
    · rw [if_neg (by decide)]; intro t9 w9 hT9 hV9 hO9 K9 hK9; obtain ⟨x9_16, p9_16, q9_16⟩ := hV9.g 16 31 rfl rfl (by kernel_rfl); obtain rfl : x9_16 = ?v6_16 := q9_16; clear hV9 hO9; go_simp; refine (G4.out _).mono ?_; rintro _ w8 ⟨v8, rfl, hv8, hb8⟩; exact hK9 _ _ hb8 hv8
    · rw [if_pos (by decide)]; trivial
  case s6_18 =>
    rw [if_neg (by decide)]
    constructor
    · rw [if_neg (by decide)]; intro t9 w9 hT9 hV9 hO9 K9 hK9; obtain ⟨x9_14, p9_14, q9_14⟩ := hV9.g 14 29 rfl rfl (by kernel_rfl); replace q9_14 : ((fun v w' => BigV w' v (b))) x9_14 _ := q9_14; obtain ⟨x9_17, p9_17, q9_17⟩ := hV9.g 17 32 rfl rfl (by kernel_rfl); replace q9_17 : ((fun v w' => BigV w' v (d))) x9_17 _ := q9_17; clear hV9 hO9; go_simp; refine (times_ref _ q9_14 q9_17 (by omega) (by omega)).mono ?_; rintro _ w8 ⟨v8, rfl, hv8, hb8⟩; exact hK9 _ _ hb8 hv8
    · rw [if_pos (by decide)]; trivial
  case s6_19 =>
    rw [if_neg (by decide)]
    constructor
    · rw [if_neg (by decide)]; intro t9 w9 hT9 hV9 hO9 K9 hK9; obtain ⟨x9_4, p9_4, q9_4⟩ := hV9.g 4 19 rfl rfl (by kernel_rfl); obtain rfl : x9_4 = ?v6_4 := q9_4; obtain ⟨x9_11, p9_11, q9_11⟩ := hV9.g 11 26 rfl rfl (by kernel_rfl); replace q9_11 : ((fun v w' => BigV w' v (a * c))) x9_11 _ := q9_11; obtain ⟨x9_18, p9_18, q9_18⟩ := hV9.g 18 33 rfl rfl (by kernel_rfl); replace q9_18 : ((fun v w' => BigV w' v (b * d))) x9_18 _ := q9_18; clear hV9 hO9; go_simp; refine (lowest_ref _ _ _ (a * c) (b * d) _ q9_11 q9_18 (by omega) (by omega) HPOS.out).mono ?_; rintro e w8 ⟨hl, hb8⟩; have he := HEND.out _ (by rw [HQ.out]; exact hl.toRat HPOS.out); subst he; exact hK9 _ _ hb8 rfl
    · rw [if_pos (by decide)]; trivial
  case s6_20 =>
    rw [if_neg (by decide)]
    constructor
    · rw [if_neg (by decide)]; intro t9 w9 hT9 hV9 hO9 K9 hK9; obtain ⟨x9_19, p9_19, q9_19⟩ := hV9.g 19 34 rfl rfl (by kernel_rfl); obtain rfl : x9_19 = (.tuple #[.agg #[.bool nz, .string sz, .string tz], .int .i64 kz]) := q9_19; clear hV9 hO9; go_simp
      (refine hK9 _ _ (Grow.refl _) ?_; exact rfl)
    · rw [if_pos (by decide)]; trivial
  case s6_21 =>
    rw [if_neg (by decide)]
    constructor
    · rw [if_neg (by decide)]; intro t9 w9 hT9 hV9 hO9 K9 hK9; obtain ⟨x9_19, p9_19, q9_19⟩ := hV9.g 19 34 rfl rfl (by kernel_rfl); obtain rfl : x9_19 = (.tuple #[.agg #[.bool nz, .string sz, .string tz], .int .i64 kz]) := q9_19; clear hV9 hO9; go_simp
      (refine hK9 _ _ (Grow.refl _) ?_; exact rfl)
    · rw [if_pos (by decide)]; trivial
  case s6_22 =>
    rw [if_pos (by decide)]; intro t9 w9 hT9 hV9 hO9 K9 hK9; obtain ⟨x9_20, p9_20, q9_20⟩ := hV9.g 20 35 (by decide) rfl (by kernel_rfl); obtain rfl : x9_20 = ?v6_20 := q9_20; have o9_4 := hO9 4 _ (.inl (show List.contains _ _ = false from by kernel_rfl)) rfl; clear hV9 hO9; have og := o3.below hT9.below o3.lt; obtain ⟨hg0, hg1, hg2⟩ := og.cells3; obtain ⟨hf0, hf1, hf2⟩ := og.frozens3; have HE := Lib.hid (⟨Below.set3 (below6 hbw hT9.below) (by omega) _ _ _, og.set3 _ _ _⟩ : (fun w' => Below w.heap.size w w' ∧ Own w' (w.heap.size + 1 + 1) 27 [.bool nz, .string sz, .string tz]) ((((w9.setCell ⟨w.heap.size + 1 + 1, 0, none⟩ (.bool nz)).setCell ⟨w.heap.size + 1 + 1, 1, none⟩ (.string sz)).setCell ⟨w.heap.size + 1 + 1, 2, none⟩ (.string tz)))); go_simp; exact hK9 undef _ HE.out trivial
  case s6_23 =>
    rw [if_neg (by decide)]
    constructor
    · rw [if_pos (by rfl)]; trivial
    · rw [if_neg (by decide)]; intro t9 w9 hV9 hO9 K9 hK9; obtain ⟨x9_21, p9_21, q9_21⟩ := hV9.g 21 36 rfl rfl (by kernel_rfl); obtain ⟨_, q9_21⟩ := q9_21.pre (by decide); obtain rfl : x9_21 = ?v6_21 := q9_21; clear hV9 hO9; go_simp
      (refine hK9 _ ?_; exact rfl)
  case k6 =>
    intro i9 v9 w9 x9 h9 g9
    match i9, h9 with
    | 0, h9 => exact h9
    | 1, h9 => exact h9
    | 2, h9 => exact h9
    | 3, h9 => exact h9
    | 4, h9 => exact h9
    | 5, h9 => exact h9
    | 6, h9 => exact h9
    | 7, h9 => (replace h9 : (fun v w' => BigV w' v (a)) v9 w9 := h9); exact BigV.below h9 g9
    | 8, h9 => exact h9
    | 9, h9 => exact h9
    | 10, h9 => (replace h9 : (fun v w' => BigV w' v (c)) v9 w9 := h9); exact BigV.below h9 g9
    | 11, h9 => (replace h9 : (fun v w' => BigV w' v (a * c)) v9 w9 := h9); exact BigV.below h9 g9
    | 12, h9 => exact h9
    | 13, h9 => exact h9
    | 14, h9 => (replace h9 : (fun v w' => BigV w' v (b)) v9 w9 := h9); exact BigV.below h9 g9
    | 15, h9 => exact h9
    | 16, h9 => exact h9
    | 17, h9 => (replace h9 : (fun v w' => BigV w' v (d)) v9 w9 := h9); exact BigV.below h9 g9
    | 18, h9 => (replace h9 : (fun v w' => BigV w' v (b * d)) v9 w9 := h9); exact BigV.below h9 g9
    | 19, h9 => exact h9
    | 20, h9 => exact h9
    | 21, h9 => exact h9
    | 22, h9 => exact h9
    | 23, h9 => exact h9
    | _ + 24, h9 => exact trivial
  case m6 =>
    intro i9 v9 w9 x9 a s h
    match i9, a, s, h with
    | 0, a, _, _ => exact absurd (by decide) a
    | 1, a, _, _ => exact absurd (by decide) a
    | 2, a, _, _ => exact absurd (by decide) a
    | 3, a, _, _ => exact absurd (by decide) a
    | 4, a, _, _ => exact absurd (by decide) a
    | 5, a, _, _ => exact absurd (by decide) a
    | 6, a, _, _ => exact absurd (by decide) a
    | 7, a, _, _ => exact absurd (by decide) a
    | 8, a, _, _ => exact absurd (by decide) a
    | 9, a, _, _ => exact absurd (by decide) a
    | 10, a, _, _ => exact absurd (by decide) a
    | 11, a, _, _ => exact absurd (by decide) a
    | 12, a, _, _ => exact absurd (by decide) a
    | 13, a, _, _ => exact absurd (by decide) a
    | 14, a, _, _ => exact absurd (by decide) a
    | 15, a, _, _ => exact absurd (by decide) a
    | 16, a, _, _ => exact absurd (by decide) a
    | 17, a, _, _ => exact absurd (by decide) a
    | 18, a, _, _ => exact absurd (by decide) a
    | 19, a, _, _ => exact absurd (by decide) a
    | 20, a, _, _ => exact absurd (by decide) a
    | 21, a, _, _ => exact absurd (by decide) a
    | 22, _, s, _ => exact absurd rfl s
    | 23, _, _, h => exact False.elim h
    | _ + 24, _, _, _ => exact trivial
  intro u9 w9 hE9 hu9; obtain ⟨_, r9_0⟩ := (hu9 0 (by decide)).pre (by decide); replace r9_0 : u9 0 = ?v6_0 := r9_0; obtain ⟨_, r9_1⟩ := (hu9 1 (by decide)).pre (by decide); replace r9_1 : u9 1 = ?v6_1 := r9_1; obtain ⟨_, r9_2⟩ := (hu9 2 (by decide)).pre (by decide); replace r9_2 : u9 2 = ?v6_2 := r9_2; obtain ⟨_, r9_3⟩ := (hu9 3 (by decide)).pre (by decide); replace r9_3 : u9 3 = ?v6_3 := r9_3; obtain ⟨_, r9_4⟩ := (hu9 4 (by decide)).pre (by decide); replace r9_4 : u9 4 = ?v6_4 := r9_4; obtain ⟨_, r9_5⟩ := (hu9 5 (by decide)).pre (by decide); replace r9_5 : u9 5 = ?v6_5 := r9_5; obtain ⟨_, r9_6⟩ := (hu9 6 (by decide)).pre (by decide); replace r9_6 : u9 6 = ?v6_6 := r9_6; obtain ⟨_, r9_8⟩ := (hu9 8 (by decide)).pre (by decide); replace r9_8 : u9 8 = ?v6_8 := r9_8; obtain ⟨_, r9_9⟩ := (hu9 9 (by decide)).pre (by decide); replace r9_9 : u9 9 = ?v6_9 := r9_9; obtain ⟨_, r9_12⟩ := (hu9 12 (by decide)).pre (by decide)
  replace r9_12 : u9 12 = ?v6_12 := r9_12; obtain ⟨_, r9_13⟩ := (hu9 13 (by decide)).pre (by decide); replace r9_13 : u9 13 = ?v6_13 := r9_13; obtain ⟨_, r9_15⟩ := (hu9 15 (by decide)).pre (by decide); replace r9_15 : u9 15 = ?v6_15 := r9_15; obtain ⟨_, r9_16⟩ := (hu9 16 (by decide)).pre (by decide); replace r9_16 : u9 16 = ?v6_16 := r9_16; obtain ⟨_, r9_19⟩ := (hu9 19 (by decide)).pre (by decide); replace r9_19 : u9 19 = (.tuple #[.agg #[.bool nz, .string sz, .string tz], .int .i64 kz]) := r9_19; obtain ⟨_, r9_20⟩ := (hu9 20 (by decide)).pre (by decide); replace r9_20 : u9 20 = ?v6_20 := r9_20; obtain ⟨_, r9_21⟩ := (hu9 21 (by decide)).pre (by decide); replace r9_21 : u9 21 = ?v6_21 := r9_21; have r9_23 : u9 23 = ?w6_23 := (hu9 23 (by decide)).late (by decide); clear hu9; obtain ⟨sz9, oz⟩ := hE9
  simp only [putAll, Act.put, List.setIfInBounds_toArray, List.set_cons_succ, List.set_cons_zero, List.getD_cons_succ, List.getD_cons_zero, Nat.reduceAdd, Nat.zero_add]
  simp only [r9_0, r9_1, r9_2, r9_3, r9_4, r9_5, r9_6, r9_8, r9_9, r9_12, r9_13, r9_15, r9_16, r9_19, r9_20, r9_21, r9_23]
  clear r9_0 r9_1 r9_2 r9_3 r9_4 r9_5 r9_6 r9_8 r9_9 r9_12 r9_13 r9_15 r9_16 r9_19 r9_20 r9_21 r9_23
  go_wp2_with fail
  obtain ⟨z0, z1, z2⟩ := oz.cells3; exact bodyPost_ret (v := .tuple #[.agg #[.bool nz, .string sz, .string tz], .int .i64 kz]) (by simp [results, Tryz.results41, go_sem, z0, z1, z2]) rfl ⟨HRES.out, sz9⟩
theorem quor_core (n1 n2 : Bool) (s1 t1 s2 t2 : ByteArray) (a b c d : Nat) (z : Rat) (hq : z = rat (n1 != n2) (a * d) (b * c)) (hc : 0 < c) (hs : (s2.toList == [48]) = false) (i1 : IsYes (.agg #[.bool n1, .string s1, .string t1])) (i2 : IsYes (.agg #[.bool n2, .string s2, .string t2])) (g1 : BigOf s1 a) (g2 : BigOf t1 b) (g3 : BigOf s2 c) (g4 : BigOf t2 d) (hb : 0 < b) (hd : 0 < d) (l1 : (dk a).length ≤ 20000) (l2 : (dk b).length ≤ 20000) (l3 : (dk c).length ≤ 20000) (l4 : (dk d).length ≤ 20000) (w : World) :
    Calls Tryz.prog 42 #[.agg #[.bool n1, .string s1, .string t1], .agg #[.bool n2, .string s2, .string t2]] w fun e w' => RatRes z e ∧ Below w.heap.size w w' := by
  have m1 := dk_mul a d; have m2 := dk_mul b c; have HQ := Lib.hid hq; have HPOS := Lib.hid (Nat.mul_pos hb hc); clear hq hc; have I1 := Lib.hid i1; have I2 := Lib.hid i2; have G1 := Lib.hid g1; have G2 := Lib.hid g2; have G3 := Lib.hid g3; have G4 := Lib.hid g4; have HB := Lib.hid hb; have HD := Lib.hid hd; obtain ⟨nz, sz, tz, kz, hend, hres⟩ := ratRes_one z; have HEND := Lib.hid hend; have HRES := Lib.hid hres; clear hend hres; clear i1 i2 g1 g2 g3 g4 hb hd; obtain ⟨o1, o2, o3, hbw⟩ := new3 w [.bool n1, .string s1, .string t1] [.bool n2, .string s2, .string t2] [.bool false, .string ⟨#[]⟩, .string ⟨#[]⟩] 27 27 27
  go_enter Tryz.func42, Tryz.ntmps42
  go_upto_region 1 with (fail)
  generalize (((w.alloc (.cells #[.bool n1, .string s1, .string t1] 27)).alloc (.cells #[.bool n2, .string s2, .string t2] 27)).alloc (.cells #[.bool false, .string ⟨#[]⟩, .string ⟨#[]⟩] 27)) = wb at o1 o2 o3 hbw ⊢; obtain ⟨c10, c11, c12⟩ := o1.cells3; obtain ⟨c20, c21, c22⟩ := o2.cells3
  go_wp2_with fail
  refine (I1.out _).mono ?_; rintro e wc ⟨rfl, hb1⟩; clear c10 c11 c12 c20 c21 c22; replace o1 := o1.below hb1 o1.lt; replace o2 := o2.below hb1 o2.lt; replace o3 := o3.below hb1 o3.lt; replace hbw := below6 hbw hb1; clear hb1; obtain ⟨c10, c11, c12⟩ := o1.cells3; obtain ⟨c20, c21, c22⟩ := o2.cells3
  go_wp2_with fail
  refine (I2.out _).mono ?_; rintro e wd ⟨rfl, hb2⟩; clear c10 c11 c12 c20 c21 c22; replace o1 := o1.below hb2 o1.lt; replace o2 := o2.below hb2 o2.lt; replace o3 := o3.below hb2 o3.lt; replace hbw := below6 hbw hb2; clear hb2; obtain ⟨c10, c11, c12⟩ := o1.cells3; obtain ⟨c20, c21, c22⟩ := o2.cells3
  go_upto_region 5 with (fail)
  refine wp_reg_st [some 19, some 20, some 21, some 22, some 23, some 24, some 25, some 26, some 27, some 28, some 29, some 30, some 31, some 32, some 33, some 34, some 35, some 36, some 37, some 38, some 39, some 40, none, some 5] [isV ?v7_0, isV ?v7_1, isV ?v7_2, isV ?v7_3, isV ?v7_4, isV ?v7_5, isV ?v7_6, (fun v w' => BigV w' v (a)), isV ?v7_8, isV ?v7_9, (fun v w' => BigV w' v (d)), (fun v w' => BigV w' v (a * d)), isV ?v7_12, isV ?v7_13, (fun v w' => BigV w' v (b)), isV ?v7_15, isV ?v7_16, (fun v w' => BigV w' v (c)), (fun v w' => BigV w' v (b * c)), isV (.tuple #[.agg #[.bool nz, .string sz, .string tz], .int .i64 kz]), isV ?v7_20, isV ?v7_21, fun _ _ => False, fun _ _ => False] [anyV, anyV, anyV, anyV, anyV, anyV, anyV, anyV, anyV, anyV, anyV, anyV, anyV, anyV, anyV, anyV, anyV, anyV, anyV, anyV, anyV, anyV, anyV, isV ?w7_23] 22 [0, 1, 2, 3, 4, 5, 6, 7, 8, 9, 10, 11, 12, 13, 14, 15, 16, 17, 18, 19, 20, 21] (fun _ => fun w' => Below w.heap.size w w' ∧ Own w' (w.heap.size + 1 + 1) 27 [.bool nz, .string sz, .string tz]) rfl (by kernel_rfl) rfl rfl (by decide) (by kernel_rfl) (by kernel_rfl) (fun _ _ _ _ h => h) ?k7 ?m7 ⟨?s7_0, ?s7_1, ?s7_2, ?s7_3, ?s7_4, ?s7_5, ?s7_6, ?s7_7, ?s7_8, ?s7_9, ?s7_10, ?s7_11, ?s7_12, ?s7_13, ?s7_14, ?s7_15, ?s7_16, ?s7_17, ?s7_18, ?s7_19, ?s7_20, ?s7_21, ?s7_22, ?s7_23, trivial⟩ ?p7
  case s7_0 =>
    rw [if_neg (by decide)]
    constructor
    · rw [if_neg (by decide)]; intro t9 w9 hT9 hV9 hO9 K9 hK9; have o9_2 := hO9 2 _ (.inl (show List.contains _ _ = false from by kernel_rfl)) rfl; clear hV9 hO9; go_simp
      (refine hK9 _ _ (Grow.refl _) ?_; exact rfl)
    · rw [if_pos (by decide)]; trivial
  case s7_1 =>
    rw [if_neg (by decide)]
    constructor
    · rw [if_neg (by decide)]; intro t9 w9 hT9 hV9 hO9 K9 hK9; obtain ⟨x9_0, p9_0, q9_0⟩ := hV9.g 0 19 rfl rfl (by kernel_rfl); obtain rfl : x9_0 = ?v7_0 := q9_0; clear hV9 hO9; have d9_0 := grow_cell hT9 c10; have d9_1 := grow_cell hT9 c11; have d9_2 := grow_cell hT9 c12; have d9_3 := grow_cell hT9 c20; have d9_4 := grow_cell hT9 c21; have d9_5 := grow_cell hT9 c22; go_simp
      (refine hK9 _ _ (Grow.refl _) ?_; exact rfl)
    · rw [if_pos (by decide)]; trivial
  case s7_2 =>
    rw [if_neg (by decide)]
    constructor
    · rw [if_neg (by decide)]; intro t9 w9 hT9 hV9 hO9 K9 hK9; have o9_3 := hO9 3 _ (.inl (show List.contains _ _ = false from by kernel_rfl)) rfl; clear hV9 hO9; go_simp
      (refine hK9 _ _ (Grow.refl _) ?_; exact rfl)
    · rw [if_pos (by decide)]; trivial
  case s7_3 =>
    rw [if_neg (by decide)]
    constructor
    · rw [if_neg (by decide)]; intro t9 w9 hT9 hV9 hO9 K9 hK9; obtain ⟨x9_2, p9_2, q9_2⟩ := hV9.g 2 21 rfl rfl (by kernel_rfl); obtain rfl : x9_2 = ?v7_2 := q9_2; clear hV9 hO9; have d9_0 := grow_cell hT9 c10; have d9_1 := grow_cell hT9 c11; have d9_2 := grow_cell hT9 c12; have d9_3 := grow_cell hT9 c20; have d9_4 := grow_cell hT9 c21; have d9_5 := grow_cell hT9 c22; go_simp
      (refine hK9 _ _ (Grow.refl _) ?_; exact rfl)
    · rw [if_pos (by decide)]; trivial
  case s7_4 =>
    rw [if_neg (by decide)]
    constructor
    · rw [if_neg (by decide)]; intro t9 w9 hT9 hV9 hO9 K9 hK9; obtain ⟨x9_1, p9_1, q9_1⟩ := hV9.g 1 20 rfl rfl (by kernel_rfl); obtain rfl : x9_1 = ?v7_1 := q9_1; obtain ⟨x9_3, p9_3, q9_3⟩ := hV9.g 3 22 rfl rfl (by kernel_rfl); obtain rfl : x9_3 = ?v7_3 := q9_3; clear hV9 hO9; go_simp
      (refine hK9 _ _ (Grow.refl _) ?_; exact rfl)
    · rw [if_pos (by decide)]; trivial
  case s7_5 =>
    rw [if_neg (by decide)]
    constructor
    · rw [if_neg (by decide)]; intro t9 w9 hT9 hV9 hO9 K9 hK9; have o9_2 := hO9 2 _ (.inl (show List.contains _ _ = false from by kernel_rfl)) rfl; clear hV9 hO9; go_simp
      (refine hK9 _ _ (Grow.refl _) ?_; exact rfl)
    · rw [if_pos (by decide)]; trivial
  case s7_6 =>
    rw [if_neg (by decide)]
    constructor
    · rw [if_neg (by decide)]; intro t9 w9 hT9 hV9 hO9 K9 hK9; obtain ⟨x9_5, p9_5, q9_5⟩ := hV9.g 5 24 rfl rfl (by kernel_rfl); obtain rfl : x9_5 = ?v7_5 := q9_5; clear hV9 hO9; have d9_0 := grow_cell hT9 c10; have d9_1 := grow_cell hT9 c11; have d9_2 := grow_cell hT9 c12; have d9_3 := grow_cell hT9 c20; have d9_4 := grow_cell hT9 c21; have d9_5 := grow_cell hT9 c22; go_simp
      (refine hK9 _ _ (Grow.refl _) ?_; exact rfl)
    · rw [if_pos (by decide)]; trivial
  case s7_7 =>
    rw [if_neg (by decide)]
    constructor
    · rw [if_neg (by decide)]; intro t9 w9 hT9 hV9 hO9 K9 hK9; obtain ⟨x9_6, p9_6, q9_6⟩ := hV9.g 6 25 rfl rfl (by kernel_rfl); obtain rfl : x9_6 = ?v7_6 := q9_6; clear hV9 hO9; go_simp; refine (G1.out _).mono ?_; rintro _ w8 ⟨v8, rfl, hv8, hb8⟩; exact hK9 _ _ hb8 hv8
    · rw [if_pos (by decide)]; trivial
  case s7_8 =>
    rw [if_neg (by decide)]
    constructor
    · rw [if_neg (by decide)]; intro t9 w9 hT9 hV9 hO9 K9 hK9; have o9_3 := hO9 3 _ (.inl (show List.contains _ _ = false from by kernel_rfl)) rfl; clear hV9 hO9; go_simp
      (refine hK9 _ _ (Grow.refl _) ?_; exact rfl)
    · rw [if_pos (by decide)]; trivial
  case s7_9 =>
    rw [if_neg (by decide)]
    constructor
    · rw [if_neg (by decide)]; intro t9 w9 hT9 hV9 hO9 K9 hK9; obtain ⟨x9_8, p9_8, q9_8⟩ := hV9.g 8 27 rfl rfl (by kernel_rfl); obtain rfl : x9_8 = ?v7_8 := q9_8; clear hV9 hO9; have d9_0 := grow_cell hT9 c10; have d9_1 := grow_cell hT9 c11; have d9_2 := grow_cell hT9 c12; have d9_3 := grow_cell hT9 c20; have d9_4 := grow_cell hT9 c21; have d9_5 := grow_cell hT9 c22; go_simp
      (refine hK9 _ _ (Grow.refl _) ?_; exact rfl)
    · rw [if_pos (by decide)]; trivial
  case s7_10 =>
    rw [if_neg (by decide)]
    constructor
    · rw [if_neg (by decide)]; intro t9 w9 hT9 hV9 hO9 K9 hK9; obtain ⟨x9_9, p9_9, q9_9⟩ := hV9.g 9 28 rfl rfl (by kernel_rfl); obtain rfl : x9_9 = ?v7_9 := q9_9; clear hV9 hO9; go_simp; refine (G4.out _).mono ?_; rintro _ w8 ⟨v8, rfl, hv8, hb8⟩; exact hK9 _ _ hb8 hv8
    · rw [if_pos (by decide)]; trivial
  case s7_11 =>
    rw [if_neg (by decide)]
    constructor
    · rw [if_neg (by decide)]; intro t9 w9 hT9 hV9 hO9 K9 hK9; obtain ⟨x9_7, p9_7, q9_7⟩ := hV9.g 7 26 rfl rfl (by kernel_rfl); replace q9_7 : ((fun v w' => BigV w' v (a))) x9_7 _ := q9_7; obtain ⟨x9_10, p9_10, q9_10⟩ := hV9.g 10 29 rfl rfl (by kernel_rfl); replace q9_10 : ((fun v w' => BigV w' v (d))) x9_10 _ := q9_10; clear hV9 hO9; go_simp; refine (times_ref _ q9_7 q9_10 (by omega) (by omega)).mono ?_; rintro _ w8 ⟨v8, rfl, hv8, hb8⟩; exact hK9 _ _ hb8 hv8
    · rw [if_pos (by decide)]; trivial
  case s7_12 =>
    rw [if_neg (by decide)]
    constructor
    · rw [if_neg (by decide)]; intro t9 w9 hT9 hV9 hO9 K9 hK9; have o9_2 := hO9 2 _ (.inl (show List.contains _ _ = false from by kernel_rfl)) rfl; clear hV9 hO9; go_simp
      (refine hK9 _ _ (Grow.refl _) ?_; exact rfl)
    · rw [if_pos (by decide)]; trivial
  case s7_13 =>
    rw [if_neg (by decide)]
    constructor
    · rw [if_neg (by decide)]; intro t9 w9 hT9 hV9 hO9 K9 hK9; obtain ⟨x9_12, p9_12, q9_12⟩ := hV9.g 12 31 rfl rfl (by kernel_rfl); obtain rfl : x9_12 = ?v7_12 := q9_12; clear hV9 hO9; have d9_0 := grow_cell hT9 c10; have d9_1 := grow_cell hT9 c11; have d9_2 := grow_cell hT9 c12; have d9_3 := grow_cell hT9 c20; have d9_4 := grow_cell hT9 c21; have d9_5 := grow_cell hT9 c22; go_simp
      (refine hK9 _ _ (Grow.refl _) ?_; exact rfl)
    · rw [if_pos (by decide)]; trivial
  case s7_14 =>
    rw [if_neg (by decide)]
    constructor
    · rw [if_neg (by decide)]; intro t9 w9 hT9 hV9 hO9 K9 hK9; obtain ⟨x9_13, p9_13, q9_13⟩ := hV9.g 13 32 rfl rfl (by kernel_rfl); obtain rfl : x9_13 = ?v7_13 := q9_13; clear hV9 hO9; go_simp; refine (G2.out _).mono ?_; rintro _ w8 ⟨v8, rfl, hv8, hb8⟩; exact hK9 _ _ hb8 hv8
    · rw [if_pos (by decide)]; trivial
  case s7_15 =>
    rw [if_neg (by decide)]
    constructor
    · rw [if_neg (by decide)]; intro t9 w9 hT9 hV9 hO9 K9 hK9; have o9_3 := hO9 3 _ (.inl (show List.contains _ _ = false from by kernel_rfl)) rfl; clear hV9 hO9; go_simp
      (refine hK9 _ _ (Grow.refl _) ?_; exact rfl)
    · rw [if_pos (by decide)]; trivial
  case s7_16 =>
    rw [if_neg (by decide)]
    constructor
    · rw [if_neg (by decide)]; intro t9 w9 hT9 hV9 hO9 K9 hK9; obtain ⟨x9_15, p9_15, q9_15⟩ := hV9.g 15 34 rfl rfl (by kernel_rfl); obtain rfl : x9_15 = ?v7_15 := q9_15; clear hV9 hO9; have d9_0 := grow_cell hT9 c10; have d9_1 := grow_cell hT9 c11; have d9_2 := grow_cell hT9 c12; have d9_3 := grow_cell hT9 c20; have d9_4 := grow_cell hT9 c21; have d9_5 := grow_cell hT9 c22; go_simp
      (refine hK9 _ _ (Grow.refl _) ?_; exact rfl)
    · rw [if_pos (by decide)]; trivial
  case s7_17 =>
    rw [if_neg (by decide)]
    constructor
    · rw [if_neg (by decide)]; intro t9 w9 hT9 hV9 hO9 K9 hK9; obtain ⟨x9_16, p9_16, q9_16⟩ := hV9.g 16 35 rfl rfl (by kernel_rfl); obtain rfl : x9_16 = ?v7_16 := q9_16; clear hV9 hO9; go_simp; refine (G3.out _).mono ?_; rintro _ w8 ⟨v8, rfl, hv8, hb8⟩; exact hK9 _ _ hb8 hv8
    · rw [if_pos (by decide)]; trivial
  case s7_18 =>
    rw [if_neg (by decide)]
    constructor
    · rw [if_neg (by decide)]; intro t9 w9 hT9 hV9 hO9 K9 hK9; obtain ⟨x9_14, p9_14, q9_14⟩ := hV9.g 14 33 rfl rfl (by kernel_rfl); replace q9_14 : ((fun v w' => BigV w' v (b))) x9_14 _ := q9_14; obtain ⟨x9_17, p9_17, q9_17⟩ := hV9.g 17 36 rfl rfl (by kernel_rfl); replace q9_17 : ((fun v w' => BigV w' v (c))) x9_17 _ := q9_17; clear hV9 hO9; go_simp; refine (times_ref _ q9_14 q9_17 (by omega) (by omega)).mono ?_; rintro _ w8 ⟨v8, rfl, hv8, hb8⟩; exact hK9 _ _ hb8 hv8
    · rw [if_pos (by decide)]; trivial
  case s7_19 =>
    rw [if_neg (by decide)]
    constructor
    · rw [if_neg (by decide)]; intro t9 w9 hT9 hV9 hO9 K9 hK9; obtain ⟨x9_4, p9_4, q9_4⟩ := hV9.g 4 23 rfl rfl (by kernel_rfl); obtain rfl : x9_4 = ?v7_4 := q9_4; obtain ⟨x9_11, p9_11, q9_11⟩ := hV9.g 11 30 rfl rfl (by kernel_rfl); replace q9_11 : ((fun v w' => BigV w' v (a * d))) x9_11 _ := q9_11; obtain ⟨x9_18, p9_18, q9_18⟩ := hV9.g 18 37 rfl rfl (by kernel_rfl); replace q9_18 : ((fun v w' => BigV w' v (b * c))) x9_18 _ := q9_18; clear hV9 hO9; go_simp; refine (lowest_ref _ _ _ (a * d) (b * c) _ q9_11 q9_18 (by omega) (by omega) HPOS.out).mono ?_; rintro e w8 ⟨hl, hb8⟩; have he := HEND.out _ (by rw [HQ.out]; exact hl.toRat HPOS.out); subst he; exact hK9 _ _ hb8 rfl
    · rw [if_pos (by decide)]; trivial
  case s7_20 =>
    rw [if_neg (by decide)]
    constructor
    · rw [if_neg (by decide)]; intro t9 w9 hT9 hV9 hO9 K9 hK9; obtain ⟨x9_19, p9_19, q9_19⟩ := hV9.g 19 38 rfl rfl (by kernel_rfl); obtain rfl : x9_19 = (.tuple #[.agg #[.bool nz, .string sz, .string tz], .int .i64 kz]) := q9_19; clear hV9 hO9; go_simp
      (refine hK9 _ _ (Grow.refl _) ?_; exact rfl)
    · rw [if_pos (by decide)]; trivial
  case s7_21 =>
    rw [if_neg (by decide)]
    constructor
    · rw [if_neg (by decide)]; intro t9 w9 hT9 hV9 hO9 K9 hK9; obtain ⟨x9_19, p9_19, q9_19⟩ := hV9.g 19 38 rfl rfl (by kernel_rfl); obtain rfl : x9_19 = (.tuple #[.agg #[.bool nz, .string sz, .string tz], .int .i64 kz]) := q9_19; clear hV9 hO9; go_simp
      (refine hK9 _ _ (Grow.refl _) ?_; exact rfl)
    · rw [if_pos (by decide)]; trivial
  case s7_22 =>
    rw [if_pos (by decide)]; intro t9 w9 hT9 hV9 hO9 K9 hK9; obtain ⟨x9_20, p9_20, q9_20⟩ := hV9.g 20 39 (by decide) rfl (by kernel_rfl); obtain rfl : x9_20 = ?v7_20 := q9_20; have o9_4 := hO9 4 _ (.inl (show List.contains _ _ = false from by kernel_rfl)) rfl; clear hV9 hO9; have og := o3.below hT9.below o3.lt; obtain ⟨hg0, hg1, hg2⟩ := og.cells3; obtain ⟨hf0, hf1, hf2⟩ := og.frozens3; have HE := Lib.hid (⟨Below.set3 (below6 hbw hT9.below) (by omega) _ _ _, og.set3 _ _ _⟩ : (fun w' => Below w.heap.size w w' ∧ Own w' (w.heap.size + 1 + 1) 27 [.bool nz, .string sz, .string tz]) ((((w9.setCell ⟨w.heap.size + 1 + 1, 0, none⟩ (.bool nz)).setCell ⟨w.heap.size + 1 + 1, 1, none⟩ (.string sz)).setCell ⟨w.heap.size + 1 + 1, 2, none⟩ (.string tz)))); go_simp; exact hK9 undef _ HE.out trivial
  case s7_23 =>
    rw [if_neg (by decide)]
    constructor
    · rw [if_pos (by rfl)]; trivial
    · rw [if_neg (by decide)]; intro t9 w9 hV9 hO9 K9 hK9; obtain ⟨x9_21, p9_21, q9_21⟩ := hV9.g 21 40 rfl rfl (by kernel_rfl); obtain ⟨_, q9_21⟩ := q9_21.pre (by decide); obtain rfl : x9_21 = ?v7_21 := q9_21; clear hV9 hO9; go_simp
      (refine hK9 _ ?_; exact rfl)
  case k7 =>
    intro i9 v9 w9 x9 h9 g9
    match i9, h9 with
    | 0, h9 => exact h9
    | 1, h9 => exact h9
    | 2, h9 => exact h9
    | 3, h9 => exact h9
    | 4, h9 => exact h9
    | 5, h9 => exact h9
    | 6, h9 => exact h9
    | 7, h9 => (replace h9 : (fun v w' => BigV w' v (a)) v9 w9 := h9); exact BigV.below h9 g9
    | 8, h9 => exact h9
    | 9, h9 => exact h9
    | 10, h9 => (replace h9 : (fun v w' => BigV w' v (d)) v9 w9 := h9); exact BigV.below h9 g9
    | 11, h9 => (replace h9 : (fun v w' => BigV w' v (a * d)) v9 w9 := h9); exact BigV.below h9 g9
    | 12, h9 => exact h9
    | 13, h9 => exact h9
    | 14, h9 => (replace h9 : (fun v w' => BigV w' v (b)) v9 w9 := h9); exact BigV.below h9 g9
    | 15, h9 => exact h9
    | 16, h9 => exact h9
    | 17, h9 => (replace h9 : (fun v w' => BigV w' v (c)) v9 w9 := h9); exact BigV.below h9 g9
    | 18, h9 => (replace h9 : (fun v w' => BigV w' v (b * c)) v9 w9 := h9); exact BigV.below h9 g9
    | 19, h9 => exact h9
    | 20, h9 => exact h9
    | 21, h9 => exact h9
    | 22, h9 => exact h9
    | 23, h9 => exact h9
    | _ + 24, h9 => exact trivial
  case m7 =>
    intro i9 v9 w9 x9 a s h
    match i9, a, s, h with
    | 0, a, _, _ => exact absurd (by decide) a
    | 1, a, _, _ => exact absurd (by decide) a
    | 2, a, _, _ => exact absurd (by decide) a
    | 3, a, _, _ => exact absurd (by decide) a
    | 4, a, _, _ => exact absurd (by decide) a
    | 5, a, _, _ => exact absurd (by decide) a
    | 6, a, _, _ => exact absurd (by decide) a
    | 7, a, _, _ => exact absurd (by decide) a
    | 8, a, _, _ => exact absurd (by decide) a
    | 9, a, _, _ => exact absurd (by decide) a
    | 10, a, _, _ => exact absurd (by decide) a
    | 11, a, _, _ => exact absurd (by decide) a
    | 12, a, _, _ => exact absurd (by decide) a
    | 13, a, _, _ => exact absurd (by decide) a
    | 14, a, _, _ => exact absurd (by decide) a
    | 15, a, _, _ => exact absurd (by decide) a
    | 16, a, _, _ => exact absurd (by decide) a
    | 17, a, _, _ => exact absurd (by decide) a
    | 18, a, _, _ => exact absurd (by decide) a
    | 19, a, _, _ => exact absurd (by decide) a
    | 20, a, _, _ => exact absurd (by decide) a
    | 21, a, _, _ => exact absurd (by decide) a
    | 22, _, s, _ => exact absurd rfl s
    | 23, _, _, h => exact False.elim h
    | _ + 24, _, _, _ => exact trivial
  intro u9 w9 hE9 hu9; obtain ⟨_, r9_0⟩ := (hu9 0 (by decide)).pre (by decide); replace r9_0 : u9 0 = ?v7_0 := r9_0; obtain ⟨_, r9_1⟩ := (hu9 1 (by decide)).pre (by decide); replace r9_1 : u9 1 = ?v7_1 := r9_1; obtain ⟨_, r9_2⟩ := (hu9 2 (by decide)).pre (by decide); replace r9_2 : u9 2 = ?v7_2 := r9_2; obtain ⟨_, r9_3⟩ := (hu9 3 (by decide)).pre (by decide); replace r9_3 : u9 3 = ?v7_3 := r9_3; obtain ⟨_, r9_4⟩ := (hu9 4 (by decide)).pre (by decide); replace r9_4 : u9 4 = ?v7_4 := r9_4; obtain ⟨_, r9_5⟩ := (hu9 5 (by decide)).pre (by decide); replace r9_5 : u9 5 = ?v7_5 := r9_5; obtain ⟨_, r9_6⟩ := (hu9 6 (by decide)).pre (by decide); replace r9_6 : u9 6 = ?v7_6 := r9_6; obtain ⟨_, r9_8⟩ := (hu9 8 (by decide)).pre (by decide); replace r9_8 : u9 8 = ?v7_8 := r9_8; obtain ⟨_, r9_9⟩ := (hu9 9 (by decide)).pre (by decide); replace r9_9 : u9 9 = ?v7_9 := r9_9; obtain ⟨_, r9_12⟩ := (hu9 12 (by decide)).pre (by decide)
  replace r9_12 : u9 12 = ?v7_12 := r9_12; obtain ⟨_, r9_13⟩ := (hu9 13 (by decide)).pre (by decide); replace r9_13 : u9 13 = ?v7_13 := r9_13; obtain ⟨_, r9_15⟩ := (hu9 15 (by decide)).pre (by decide); replace r9_15 : u9 15 = ?v7_15 := r9_15; obtain ⟨_, r9_16⟩ := (hu9 16 (by decide)).pre (by decide); replace r9_16 : u9 16 = ?v7_16 := r9_16; obtain ⟨_, r9_19⟩ := (hu9 19 (by decide)).pre (by decide); replace r9_19 : u9 19 = (.tuple #[.agg #[.bool nz, .string sz, .string tz], .int .i64 kz]) := r9_19; obtain ⟨_, r9_20⟩ := (hu9 20 (by decide)).pre (by decide); replace r9_20 : u9 20 = ?v7_20 := r9_20; obtain ⟨_, r9_21⟩ := (hu9 21 (by decide)).pre (by decide); replace r9_21 : u9 21 = ?v7_21 := r9_21; have r9_23 : u9 23 = ?w7_23 := (hu9 23 (by decide)).late (by decide); clear hu9; obtain ⟨sz9, oz⟩ := hE9
  simp only [putAll, Act.put, List.setIfInBounds_toArray, List.set_cons_succ, List.set_cons_zero, List.getD_cons_succ, List.getD_cons_zero, Nat.reduceAdd, Nat.zero_add]
  simp only [r9_0, r9_1, r9_2, r9_3, r9_4, r9_5, r9_6, r9_8, r9_9, r9_12, r9_13, r9_15, r9_16, r9_19, r9_20, r9_21, r9_23]
  clear r9_0 r9_1 r9_2 r9_3 r9_4 r9_5 r9_6 r9_8 r9_9 r9_12 r9_13 r9_15 r9_16 r9_19 r9_20 r9_21 r9_23
  go_wp2_with fail
  obtain ⟨z0, z1, z2⟩ := oz.cells3; exact bodyPost_ret (v := .tuple #[.agg #[.bool nz, .string sz, .string tz], .int .i64 kz]) (by simp [results, Tryz.results42, go_sem, z0, z1, z2]) rfl ⟨HRES.out, sz9⟩
theorem cmpR_sgn (x y : Rat) (a b c d : Nat) (n1 n2 : Bool) (hx : x = rat n1 a b) (hy : y = rat n2 c d) (hb : 0 < b) (hd : 0 < d) (h1 : ¬ (n1 = true ∧ a = 0)) (h2 : ¬ (n2 = true ∧ c = 0)) :
    (n1 = true → n2 = false → cmpR x y = -1) ∧ (n1 = false → n2 = true → cmpR x y = 1) ∧ (n1 = false → n2 = false → cmpR x y = cmpI (a * d) (c * b)) ∧ (n1 = true → n2 = true → cmpR x y = -cmpI (a * d) (c * b)) := by
  have key : ∀ m n : Bool, x = rat m a b → y = rat n c d → (x < y ↔ (if m then -(a : Int) else a) * d < (if n then -(c : Int) else c) * b) ∧ (x = y ↔ (if m then -(a : Int) else a) * d = (if n then -(c : Int) else c) * b) := by
    intro m n hx hy; have hb' : (0 : Int) < b := by omega
    have hd' : (0 : Int) < d := by omega
    constructor
    · rw [hx, hy]; unfold rat; rw [Rat.mkRat_eq_div, Rat.mkRat_eq_div]; have hb9 : (0 : Rat) < (b : Rat) := Rat.natCast_pos.2 hb; have hd9 : (0 : Rat) < (d : Rat) := Rat.natCast_pos.2 hd; rw [Rat.div_lt_iff hb9]; have e : ∀ p q r : Rat, p / q * r = p * r / q := by intro p q r; rw [Rat.div_def, Rat.div_def, Rat.mul_assoc, Rat.mul_comm q⁻¹, ← Rat.mul_assoc]
      rw [e, Rat.lt_div_iff hd9]; generalize (if m then -(a : Int) else (a : Int)) = p; generalize (if n then -(c : Int) else (c : Int)) = q; have e1 : (p : Rat) * (d : Rat) = ((p * d : Int) : Rat) := by rw [Rat.intCast_mul]; rfl
      have e2 : (q : Rat) * (b : Rat) = ((q * b : Int) : Rat) := by rw [Rat.intCast_mul]; rfl
      rw [e1, e2, Rat.intCast_lt_intCast]
    · rw [hx, hy]; unfold rat; rw [Rat.mkRat_eq_iff (by omega) (by omega)]
  have pa : (0 : Int) ≤ (a : Int) * d := Int.mul_nonneg (by omega) (by omega); have pc : (0 : Int) ≤ (c : Int) * b := Int.mul_nonneg (by omega) (by omega); have e1 : ((a * d : Nat) : Int) = (a : Int) * d := by simp
  have e2 : ((c * b : Nat) : Int) = (c : Int) * b := by simp
  refine ⟨fun g1 g2 => ?_, fun g1 g2 => ?_, fun g1 g2 => ?_, fun g1 g2 => ?_⟩
  · subst g1; subst g2
    obtain ⟨k1, k2⟩ := key true false hx hy; have h0 : 0 < a := by rcases Nat.eq_zero_or_pos a with e | e; exact absurd ⟨rfl, e⟩ h1; exact e
    have h3 : 0 < a * d := Nat.mul_pos h0 hd
    simp only [if_true, Bool.false_eq_true, if_false, Int.neg_mul] at k1
    unfold cmpR; rw [if_pos (k1.2 (by omega))]
  · subst g1; subst g2
    obtain ⟨k1, k2⟩ := key false true hx hy; have h0 : 0 < c := by rcases Nat.eq_zero_or_pos c with e | e; exact absurd ⟨rfl, e⟩ h2; exact e
    have h3 : 0 < c * b := Nat.mul_pos h0 hb
    simp only [if_true, Bool.false_eq_true, if_false, Int.neg_mul] at k1 k2
    unfold cmpR; rw [if_neg (fun h => by have := k1.1 h; omega), if_neg (fun h => by have := k2.1 h; omega)]
  · subst g1; subst g2
    obtain ⟨k1, k2⟩ := key false false hx hy
    simp only [Bool.false_eq_true, if_false] at k1 k2
    unfold cmpR cmpI; have q1 : (x < y) ↔ a * d < c * b := by rw [k1]; omega
    have q2 : (x = y) ↔ a * d = c * b := by rw [k2]; omega
    simp only [q1, q2]
  · subst g1; subst g2
    obtain ⟨k1, k2⟩ := key true true hx hy
    simp only [if_true, Int.neg_mul] at k1 k2
    unfold cmpR cmpI; have q1 : (x < y) ↔ c * b < a * d := by rw [k1]; omega
    have q2 : (x = y) ↔ a * d = c * b := by rw [k2]; omega
    simp only [q1, q2]
    rcases Nat.lt_trichotomy (a * d) (c * b) with h | h | h
    · rw [if_neg (by omega), if_neg (by omega), if_pos h]; try rfl
    · rw [if_neg (by omega), if_pos h, if_neg (by omega)]; try rfl
    · rw [if_pos h, if_neg (by omega), if_neg (by omega)]; try rfl
theorem cmpr_core (n1 n2 : Bool) (s1 t1 s2 t2 : ByteArray) (a b c d : Nat) (z : Int) (hz : (n1 = true → n2 = false → z = -1) ∧ (n1 = false → n2 = true → z = 1) ∧ (n1 = false → n2 = false → z = cmpI (a * d) (c * b)) ∧ (n1 = true → n2 = true → z = -cmpI (a * d) (c * b))) (i1 : IsYes (.agg #[.bool n1, .string s1, .string t1])) (i2 : IsYes (.agg #[.bool n2, .string s2, .string t2])) (g1 : BigOf s1 a) (g2 : BigOf t1 b) (g3 : BigOf s2 c) (g4 : BigOf t2 d) (hb : 0 < b) (hd : 0 < d) (l1 : (dk a).length ≤ 20000) (l2 : (dk b).length ≤ 20000) (l3 : (dk c).length ≤ 20000) (l4 : (dk d).length ≤ 20000) (w : World) :
    Calls Tryz.prog 31 #[.agg #[.bool n1, .string s1, .string t1], .agg #[.bool n2, .string s2, .string t2]] w fun e w' => e = .returned (.int .i64 z) ∧ Below w.heap.size w w' := by
  have m1 := dk_mul a d; have m2 := dk_mul c b; have HZ := Lib.hid hz; clear hz; have I1 := Lib.hid i1; have I2 := Lib.hid i2; have G1 := Lib.hid g1; have G2 := Lib.hid g2; have G3 := Lib.hid g3; have G4 := Lib.hid g4; have HB := Lib.hid hb; have HD := Lib.hid hd; clear i1 i2 g1 g2 g3 g4 hb hd; obtain ⟨o1, o2, hbw⟩ := new2 w [.bool n1, .string s1, .string t1] [.bool n2, .string s2, .string t2] 27 27
  go_enter Tryz.func31, Tryz.ntmps31
  go_upto_region 1 with (fail)
  generalize ((w.alloc (.cells #[.bool n1, .string s1, .string t1] 27)).alloc (.cells #[.bool n2, .string s2, .string t2] 27)) = wb at o1 o2 hbw ⊢; obtain ⟨c10, c11, c12⟩ := o1.cells3; obtain ⟨c20, c21, c22⟩ := o2.cells3
  go_wp2_with fail
  refine (I1.out _).mono ?_; rintro e wc ⟨rfl, hb1⟩; clear c10 c11 c12 c20 c21 c22; replace o1 := o1.below hb1 o1.lt; replace o2 := o2.below hb1 o2.lt; replace hbw := below6 hbw hb1; clear hb1; obtain ⟨c10, c11, c12⟩ := o1.cells3; obtain ⟨c20, c21, c22⟩ := o2.cells3
  go_wp2_with fail
  refine (I2.out _).mono ?_; rintro e wd ⟨rfl, hb2⟩; clear c10 c11 c12 c20 c21 c22; replace o1 := o1.below hb2 o1.lt; replace o2 := o2.below hb2 o2.lt; replace hbw := below6 hbw hb2; clear hb2; obtain ⟨c10, c11, c12⟩ := o1.cells3; obtain ⟨c20, c21, c22⟩ := o2.cells3
  by_cases hn : n1 = n2
  · subst hn
    go_upto_region 7 with (fail)
    refine wp_reg_ra [some 21, some 22, some 23, some 24, some 25, some 26, some 27, some 28, some 29, some 30, some 31, some 32, some 33, some 34, some 35, some 5] [isV ?v8_0, isV ?v8_1, (fun v w' => BigV w' v (a)), isV ?v8_3, isV ?v8_4, (fun v w' => BigV w' v (d)), (fun v w' => BigV w' v (a * d)), isV ?v8_7, isV ?v8_8, (fun v w' => BigV w' v (c)), isV ?v8_10, isV ?v8_11, (fun v w' => BigV w' v (b)), (fun v w' => BigV w' v (c * b)), isV (.int .i64 (cmpI (a * d) (c * b))), isV ?v8_15] rfl (by kernel_rfl) rfl rfl ?k8 ⟨?s8_0, ?s8_1, ?s8_2, ?s8_3, ?s8_4, ?s8_5, ?s8_6, ?s8_7, ?s8_8, ?s8_9, ?s8_10, ?s8_11, ?s8_12, ?s8_13, ?s8_14, ?s8_15, trivial⟩ ?p8
    case s8_0 =>
      intro t9 w9 hT9 hV9 hO9 K9 hK9; have o9_2 := hO9 2 _ (show List.contains _ _ = false from by kernel_rfl) rfl; clear hV9 hO9; go_simp
      (refine hK9 _ _ (Grow.refl _) ?_; exact rfl)
    case s8_1 =>
      intro t9 w9 hT9 hV9 hO9 K9 hK9; obtain ⟨x9_0, p9_0, q9_0⟩ := hV9.g 0 21 rfl rfl (by kernel_rfl); obtain rfl : x9_0 = ?v8_0 := q9_0; clear hV9 hO9; have d9_0 := grow_cell hT9 c10; have d9_1 := grow_cell hT9 c11; have d9_2 := grow_cell hT9 c12; have d9_3 := grow_cell hT9 c20; have d9_4 := grow_cell hT9 c21; have d9_5 := grow_cell hT9 c22; go_simp
      (refine hK9 _ _ (Grow.refl _) ?_; exact rfl)
    case s8_2 =>
      intro t9 w9 hT9 hV9 hO9 K9 hK9; obtain ⟨x9_1, p9_1, q9_1⟩ := hV9.g 1 22 rfl rfl (by kernel_rfl); obtain rfl : x9_1 = ?v8_1 := q9_1; clear hV9 hO9; go_simp; refine (G1.out _).mono ?_; rintro _ w8 ⟨v8, rfl, hv8, hb8⟩; exact hK9 _ _ hb8 hv8
    case s8_3 =>
      intro t9 w9 hT9 hV9 hO9 K9 hK9; have o9_3 := hO9 3 _ (show List.contains _ _ = false from by kernel_rfl) rfl; clear hV9 hO9; go_simp
      (refine hK9 _ _ (Grow.refl _) ?_; exact rfl)
    case s8_4 =>
      intro t9 w9 hT9 hV9 hO9 K9 hK9; obtain ⟨x9_3, p9_3, q9_3⟩ := hV9.g 3 24 rfl rfl (by kernel_rfl); obtain rfl : x9_3 = ?v8_3 := q9_3; clear hV9 hO9; have d9_0 := grow_cell hT9 c10; have d9_1 := grow_cell hT9 c11; have d9_2 := grow_cell hT9 c12; have d9_3 := grow_cell hT9 c20; have d9_4 := grow_cell hT9 c21; have d9_5 := grow_cell hT9 c22; go_simp
      (refine hK9 _ _ (Grow.refl _) ?_; exact rfl)
    case s8_5 =>
      intro t9 w9 hT9 hV9 hO9 K9 hK9; obtain ⟨x9_4, p9_4, q9_4⟩ := hV9.g 4 25 rfl rfl (by kernel_rfl); obtain rfl : x9_4 = ?v8_4 := q9_4; clear hV9 hO9; go_simp; refine (G4.out _).mono ?_; rintro _ w8 ⟨v8, rfl, hv8, hb8⟩; exact hK9 _ _ hb8 hv8
    case s8_6 =>
      intro t9 w9 hT9 hV9 hO9 K9 hK9; obtain ⟨x9_2, p9_2, q9_2⟩ := hV9.g 2 23 rfl rfl (by kernel_rfl); replace q9_2 : ((fun v w' => BigV w' v (a))) x9_2 _ := q9_2; obtain ⟨x9_5, p9_5, q9_5⟩ := hV9.g 5 26 rfl rfl (by kernel_rfl); replace q9_5 : ((fun v w' => BigV w' v (d))) x9_5 _ := q9_5; clear hV9 hO9; go_simp; refine (times_ref _ q9_2 q9_5 (by omega) (by omega)).mono ?_; rintro _ w8 ⟨v8, rfl, hv8, hb8⟩; exact hK9 _ _ hb8 hv8
    case s8_7 =>
      intro t9 w9 hT9 hV9 hO9 K9 hK9; have o9_3 := hO9 3 _ (show List.contains _ _ = false from by kernel_rfl) rfl; clear hV9 hO9; go_simp
      (refine hK9 _ _ (Grow.refl _) ?_; exact rfl)
    case s8_8 =>
      intro t9 w9 hT9 hV9 hO9 K9 hK9; obtain ⟨x9_7, p9_7, q9_7⟩ := hV9.g 7 28 rfl rfl (by kernel_rfl); obtain rfl : x9_7 = ?v8_7 := q9_7; clear hV9 hO9; have d9_0 := grow_cell hT9 c10; have d9_1 := grow_cell hT9 c11; have d9_2 := grow_cell hT9 c12; have d9_3 := grow_cell hT9 c20; have d9_4 := grow_cell hT9 c21; have d9_5 := grow_cell hT9 c22; go_simp
      (refine hK9 _ _ (Grow.refl _) ?_; exact rfl)
    case s8_9 =>
      intro t9 w9 hT9 hV9 hO9 K9 hK9; obtain ⟨x9_8, p9_8, q9_8⟩ := hV9.g 8 29 rfl rfl (by kernel_rfl); obtain rfl : x9_8 = ?v8_8 := q9_8; clear hV9 hO9; go_simp; refine (G3.out _).mono ?_; rintro _ w8 ⟨v8, rfl, hv8, hb8⟩; exact hK9 _ _ hb8 hv8
    case s8_10 =>
      intro t9 w9 hT9 hV9 hO9 K9 hK9; have o9_2 := hO9 2 _ (show List.contains _ _ = false from by kernel_rfl) rfl; clear hV9 hO9; go_simp
      (refine hK9 _ _ (Grow.refl _) ?_; exact rfl)
    case s8_11 =>
      intro t9 w9 hT9 hV9 hO9 K9 hK9; obtain ⟨x9_10, p9_10, q9_10⟩ := hV9.g 10 31 rfl rfl (by kernel_rfl); obtain rfl : x9_10 = ?v8_10 := q9_10; clear hV9 hO9; have d9_0 := grow_cell hT9 c10; have d9_1 := grow_cell hT9 c11; have d9_2 := grow_cell hT9 c12; have d9_3 := grow_cell hT9 c20; have d9_4 := grow_cell hT9 c21; have d9_5 := grow_cell hT9 c22; go_simp
      (refine hK9 _ _ (Grow.refl _) ?_; exact rfl)
    case s8_12 =>
      intro t9 w9 hT9 hV9 hO9 K9 hK9; obtain ⟨x9_11, p9_11, q9_11⟩ := hV9.g 11 32 rfl rfl (by kernel_rfl); obtain rfl : x9_11 = ?v8_11 := q9_11; clear hV9 hO9; go_simp; refine (G2.out _).mono ?_; rintro _ w8 ⟨v8, rfl, hv8, hb8⟩; exact hK9 _ _ hb8 hv8
    case s8_13 =>
      intro t9 w9 hT9 hV9 hO9 K9 hK9; obtain ⟨x9_9, p9_9, q9_9⟩ := hV9.g 9 30 rfl rfl (by kernel_rfl); replace q9_9 : ((fun v w' => BigV w' v (c))) x9_9 _ := q9_9; obtain ⟨x9_12, p9_12, q9_12⟩ := hV9.g 12 33 rfl rfl (by kernel_rfl); replace q9_12 : ((fun v w' => BigV w' v (b))) x9_12 _ := q9_12; clear hV9 hO9; go_simp; refine (times_ref _ q9_9 q9_12 (by omega) (by omega)).mono ?_; rintro _ w8 ⟨v8, rfl, hv8, hb8⟩; exact hK9 _ _ hb8 hv8
    case s8_14 =>
      intro t9 w9 hT9 hV9 hO9 K9 hK9; obtain ⟨x9_6, p9_6, q9_6⟩ := hV9.g 6 27 rfl rfl (by kernel_rfl); replace q9_6 : ((fun v w' => BigV w' v (a * d))) x9_6 _ := q9_6; obtain ⟨x9_13, p9_13, q9_13⟩ := hV9.g 13 34 rfl rfl (by kernel_rfl); replace q9_13 : ((fun v w' => BigV w' v (c * b))) x9_13 _ := q9_13; clear hV9 hO9; go_simp; refine (less_ref _ q9_6 q9_13).mono ?_; rintro _ w8 ⟨rfl, hb8⟩; exact hK9 _ _ hb8 rfl
    case s8_15 =>
      intro t9 w9 hT9 hV9 hO9 K9 hK9; obtain ⟨x9_14, p9_14, q9_14⟩ := hV9.g 14 35 rfl rfl (by kernel_rfl); obtain rfl : x9_14 = (.int .i64 (cmpI (a * d) (c * b))) := q9_14; clear hV9 hO9; go_simp
      (refine hK9 _ _ (Grow.refl _) ?_; exact rfl)
    case k8 =>
      intro i9 v9 w9 x9 h9 g9
      match i9, h9 with
      | 0, h9 => exact h9
      | 1, h9 => exact h9
      | 2, h9 => (replace h9 : (fun v w' => BigV w' v (a)) v9 w9 := h9); exact BigV.below h9 g9
      | 3, h9 => exact h9
      | 4, h9 => exact h9
      | 5, h9 => (replace h9 : (fun v w' => BigV w' v (d)) v9 w9 := h9); exact BigV.below h9 g9
      | 6, h9 => (replace h9 : (fun v w' => BigV w' v (a * d)) v9 w9 := h9); exact BigV.below h9 g9
      | 7, h9 => exact h9
      | 8, h9 => exact h9
      | 9, h9 => (replace h9 : (fun v w' => BigV w' v (c)) v9 w9 := h9); exact BigV.below h9 g9
      | 10, h9 => exact h9
      | 11, h9 => exact h9
      | 12, h9 => (replace h9 : (fun v w' => BigV w' v (b)) v9 w9 := h9); exact BigV.below h9 g9
      | 13, h9 => (replace h9 : (fun v w' => BigV w' v (c * b)) v9 w9 := h9); exact BigV.below h9 g9
      | 14, h9 => exact h9
      | 15, h9 => exact h9
      | _ + 16, h9 => exact trivial
    intro u9 w9 hE9 hu9; have r9_0 : u9 0 = ?v8_0 := hu9 0 (by decide); have r9_1 : u9 1 = ?v8_1 := hu9 1 (by decide); have r9_2 : (fun v w' => BigV w' v (a)) (u9 2) w9 := hu9 2 (by decide); have r9_3 : u9 3 = ?v8_3 := hu9 3 (by decide); have r9_4 : u9 4 = ?v8_4 := hu9 4 (by decide); have r9_5 : (fun v w' => BigV w' v (d)) (u9 5) w9 := hu9 5 (by decide); have r9_6 : (fun v w' => BigV w' v (a * d)) (u9 6) w9 := hu9 6 (by decide); have r9_7 : u9 7 = ?v8_7 := hu9 7 (by decide); have r9_8 : u9 8 = ?v8_8 := hu9 8 (by decide); have r9_9 : (fun v w' => BigV w' v (c)) (u9 9) w9 := hu9 9 (by decide); have r9_10 : u9 10 = ?v8_10 := hu9 10 (by decide); have r9_11 : u9 11 = ?v8_11 := hu9 11 (by decide); have r9_12 : (fun v w' => BigV w' v (b)) (u9 12) w9 := hu9 12 (by decide); have r9_13 : (fun v w' => BigV w' v (c * b)) (u9 13) w9 := hu9 13 (by decide); have r9_14 : u9 14 = (.int .i64 (cmpI (a * d) (c * b))) := hu9 14 (by decide)
    have r9_15 : u9 15 = ?v8_15 := hu9 15 (by decide); clear hu9
    simp only [putAll, Act.put, List.setIfInBounds_toArray, List.set_cons_succ, List.set_cons_zero, List.getD_cons_succ, List.getD_cons_zero, Nat.reduceAdd, Nat.zero_add]
    simp only [r9_0, r9_1, r9_3, r9_4, r9_7, r9_8, r9_10, r9_11, r9_14, r9_15]
    clear r9_0 r9_1 r9_3 r9_4 r9_7 r9_8 r9_10 r9_11 r9_14 r9_15; clear c10 c11 c12 c20 c21 c22; replace o1 := o1.below hE9 o1.lt; replace o2 := o2.below hE9 o2.lt; replace hbw := below6 hbw hE9; clear hE9; have HC : Hid (∃ k : Int, cmpI (a * d) (c * b) = k ∧ -1 ≤ k ∧ k ≤ 1) := ⟨_, rfl, by unfold cmpI; split <;> (try split) <;> omega, by unfold cmpI; split <;> (try split) <;> omega⟩; obtain ⟨k, hk, hk1, hk2⟩ := HC.out; rw [hk] at HZ ⊢; have c10 : w9.cell? ⟨w.heap.size, 0, none⟩ = some (.bool n1) := o1.cell 0; clear HC hk
    cases n1 with
    | true =>
      have z1 : IntKind.i64.wrap (-k) = -k := IntWalk.i64_in _ (by omega)
      go_wp2
      go_ret
      exact ⟨ret_int (HZ.out.2.2.2 (by simp) (by simp)).symm, hbw⟩
    | false =>
      go_wp2
      go_ret
      exact ⟨ret_int (HZ.out.2.2.1 (by simp) (by simp)).symm, hbw⟩
  · obtain rfl : n2 = !n1 := by cases n1 <;> cases n2 <;> simp_all
    clear hn
    cases n1 with
    | true =>
      go_wp2
      go_ret
      exact ⟨ret_int (HZ.out.1 (by simp) (by simp)).symm, hbw⟩
    | false =>
      go_wp2
      go_ret
      exact ⟨ret_int (HZ.out.2.1 (by simp) (by simp)).symm, hbw⟩
end Go.Proofs.YtocknfhgjmaibaaGreatDoor
