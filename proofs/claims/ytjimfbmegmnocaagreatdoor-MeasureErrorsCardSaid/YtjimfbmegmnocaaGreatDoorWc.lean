/- Parts of the proof: Wc. No condition of its own. -/
import Derived.Test.YtjimfbmegmnocaaGreatDoorKp
import Derived.Test.YtjimfbmegmnocaaGreatDoorCma
set_option linter.unusedSimpArgs false
set_option linter.unusedVariables false
set_option maxRecDepth 100000
set_option maxHeartbeats 4000000
namespace Go.Proofs.YtjimfbmegmnocaaGreatDoor
open Go.RowKit Go.Sort

def GD (w w' : World) : Prop := Below w.heap.size w w' /\ w.drawn <= w'.drawn
section
variable {w w' w'' : World}
theorem GD.refl (w : World) : GD w w := ⟨Below.refl _ _, Nat.le_refl _⟩
theorem GD.trans (h : GD w w') (h' : GD w' w'') : GD w w'' := ⟨h.1.trans (h'.1.mono h.1.size), Nat.le_trans h.2 h'.2⟩
theorem GD.drew (h : GD w w') : GD w w'.drew := ⟨⟨h.1.os, h.1.tape, h.1.output, h.1.size, h.1.block⟩, Nat.le_trans h.2 (Nat.le_succ _)⟩
theorem GD.alloc (h : GD w w') (o : Obj) : GD w (w'.alloc o) := ⟨h.1.alloc h.1.size o, h.2⟩
theorem GD.chg {S : Nat -> Prop} (h : GD w w') : Chg S w w' := Chg.grow9 h.1
theorem GD.grow (h : GD w w') : ∃ q os, w' = Go.Sort.grow (w.drewN q) os := by
 refine ⟨w'.drawn - w.drawn, w'.heap.extract w.heap.size w'.heap.size, ?_⟩; obtain ⟨⟨h1, h2, h3, h4, h5⟩, h6⟩ := h; have e1 : w'.heap = w.heap ++ w'.heap.extract w.heap.size w'.heap.size := by
  apply Array.ext
  ·simp; omega
  ·intro i hi1 hi2; rw [Array.getElem_append]
   split
   ·rename_i hlt
    have := h5 i hlt; rw [Array.getElem?_eq_getElem hi1, Array.getElem?_eq_getElem hlt] at this; exact Option.some.inj this
   ·rename_i hge
    rw [Array.getElem_extract]
    congr 1
    omega
 have e2 : w'.drawn = w.drawn + (w'.drawn - w.drawn) := by omega
 cases w; cases w'
 simp only at h1 h2 h3
 subst h1 h2 h3; unfold Go.Sort.grow World.drewN
 simp only at e1 e2 |-
 rw [<- e1, <- e2]
end
theorem nanI_any (x : Int) (w : World) : Calls Tryz.prog 56 #[.int .i64 x] w fun e w' => e = .returned (.bool false) /\ w = w' := by
 go_enter Tryz.func56, Tryz.ntmps56
 go_wp2
 go_ret
 exact ⟨rfl, rfl⟩
theorem nanS_any (x : ByteArray) (w : World) : Calls Tryz.prog 57 #[.string x] w fun e w' => e = .returned (.bool false) /\ w = w' := by
 have d : (x.toList == x.toList) = true := by rw [str_beq]; exact decide_eq_true rfl
 go_enter Tryz.func57, Tryz.ntmps57
 go_wp2
 go_ret
 exact ⟨rfl, rfl⟩
theorem cmpI_any (x y : Int) (w : World) : Calls Tryz.prog 27 #[.int .i64 x, .int .i64 y] w fun e w' => e = .returned (.int .i64 (Lib.compareInt x y)) /\ w = w' := by
 rcases Int.lt_trichotomy x y with h | h | h
 ·have H : Hid (Lib.compareInt x y = -1) := by show _ = _; simp [Lib.compareInt, h]
  have d1 : decide (x < y) = true := decide_eq_true h
  go_enter Tryz.func27, Tryz.ntmps27
  go_wp2_with (refine (nanI_any _ _).mono ?_; rintro e w' ⟨rfl, rfl⟩)
  go_ret
  exact ⟨by rw [H.out]; rfl, rfl⟩
 ·subst h; have H : Hid (Lib.compareInt x x = 0) := by show _ = _; simp [Lib.compareInt]
  have d1 : decide (x < x) = false := decide_eq_false (by omega)
  go_enter Tryz.func27, Tryz.ntmps27
  go_wp2_with (refine (nanI_any _ _).mono ?_; rintro e w' ⟨rfl, rfl⟩)
  go_ret
  exact ⟨by rw [H.out]; rfl, rfl⟩
 ·have H : Hid (Lib.compareInt x y = 1) := by show _ = _; unfold Lib.compareInt; rw [if_neg (by omega), if_pos h]
  have d1 : decide (x < y) = false := decide_eq_false (by omega); have d2 : decide (y < x) = true := decide_eq_true h
  go_enter Tryz.func27, Tryz.ntmps27
  go_wp2_with (refine (nanI_any _ _).mono ?_; rintro e w' ⟨rfl, rfl⟩)
  go_ret
  exact ⟨by rw [H.out]; rfl, rfl⟩
theorem cmpS_any (x y : ByteArray) (w : World) : Calls Tryz.prog 29 #[.string x, .string y] w fun e w' => e = .returned (.int .i64 (cmpW x y)) /\ w = w' := by
 rcases ltS_total x y with h | h | h
 ·have H : Hid (cmpW x y = -1) := by show _ = _; simp [cmpW, h]
  have d1 : Op.bytesLess x.toList y.toList = true := h
  go_enter Tryz.func29, Tryz.ntmps29
  go_wp2_with (refine (nanS_any _ _).mono ?_; rintro e w' ⟨rfl, rfl⟩)
  go_ret
  exact ⟨by rw [H.out]; rfl, rfl⟩
 ·subst h; have H : Hid (cmpW x x = 0) := by show _ = _; simp [cmpW, ltS_irrefl]
  have d1 : Op.bytesLess x.toList x.toList = false := ltS_irrefl x
  go_enter Tryz.func29, Tryz.ntmps29
  go_wp2_with (refine (nanS_any _ _).mono ?_; rintro e w' ⟨rfl, rfl⟩)
  go_ret
  exact ⟨by rw [H.out]; rfl, rfl⟩
 ·have H : Hid (cmpW x y = 1) := by show _ = _; simp [cmpW, h, ltS_asymm h]
  have d1 : Op.bytesLess x.toList y.toList = false := ltS_asymm h; have d2 : Op.bytesLess y.toList x.toList = true := h; have d3 : (x.toList == y.toList) = false := by rw [str_beq]; exact decide_eq_false fun e => by rw [e, ltS_irrefl] at h; cases h
  go_enter Tryz.func29, Tryz.ntmps29
  go_wp2_with (refine (nanS_any _ _).mono ?_; rintro e w' ⟨rfl, rfl⟩)
  go_ret
  exact ⟨by rw [H.out]; rfl, rfl⟩
theorem or2_any (x y : Int) (g : Nat) (w : World) (ho : Own w g 3 [.int .i64 x, .int .i64 y]) : Calls Tryz.prog 28 #[.slice (some ⟨g, 0, none⟩) 2 2] w fun e w' => e = .returned (.int .i64 (if x = 0 then y else x)) /\ w = w' := by
 obtain ⟨k0, k1⟩ := ho.cells2; clear ho
 by_cases h : x = 0
 ·subst h
  by_cases h2 : y = 0
  ·subst h2
   go_enter Tryz.func28, Tryz.ntmps28
   go_wp2
   refine wp_loop_rounds 3 ?_; rw [rounds_succ]
   go_wp2
   rw [rounds_succ]
   go_wp2
   rw [rounds_succ]
   go_wp2
   go_ret
   exact ⟨rfl, rfl⟩
  ·have d1 : (y == (0 : Int)) = false := beq_eq_false_iff_ne.2 h2; have d2 : (y != (0 : Int)) = true := by rw [bne_iff_ne]; exact h2
   go_enter Tryz.func28, Tryz.ntmps28
   go_wp2
   refine wp_loop_rounds 2 ?_; rw [rounds_succ]
   go_wp2
   rw [rounds_succ]
   go_wp2
   go_ret
   exact ⟨rfl, rfl⟩
 ·have d1 : (x == (0 : Int)) = false := beq_eq_false_iff_ne.2 h; have d2 : (x != (0 : Int)) = true := by rw [bne_iff_ne]; exact h
  go_enter Tryz.func28, Tryz.ntmps28
  go_wp2
  refine wp_loop_rounds 1 ?_; rw [rounds_succ]
  go_wp2
  go_ret
  exact ⟨rfl, rfl⟩
def BW (x y : Int) (v : Value) (w : World) : Prop := ∃ g, v = .slice (some ⟨g, 0, none⟩) 2 2 /\ Own w g 3 [.int .i64 x, .int .i64 y]
theorem BW.gd {x y : Int} {v : Value} {w w' : World} (h : BW x y v w) (hc : GD w w') : BW x y v w' := by
 obtain ⟨g, rfl, h2⟩ := h; exact ⟨g, rfl, (hc.chg (S := fun _ => False)).own h2 id⟩
theorem cmpC_any (x y : ByteArray) (x1 x2 x3 x4 y1 y2 y3 y4 : Int) (w : World) : Calls Tryz.prog 39 #[.agg #[.string x, .int .i64 x1, .int .i64 x2, .int .i64 x3, .int .i64 x4], .agg #[.string y, .int .i64 y1, .int .i64 y2, .int .i64 y3, .int .i64 y4]] w fun e w' => e = .returned (.int .i64 (if Lib.compareInt y1 x1 = 0 then cmpW x y else Lib.compareInt y1 x1)) /\ GD w w' := by
 obtain ⟨res, hres⟩ : ∃ res, res = (if Lib.compareInt y1 x1 = 0 then cmpW x y else Lib.compareInt y1 x1) := ⟨_, rfl⟩; rw [<- hres]; have HR := Z' hres; clear hres; obtain ⟨o_x, o_y, hbw⟩ := new2 w [.string x, .int .i64 x1, .int .i64 x2, .int .i64 x3, .int .i64 x4] [.string y, .int .i64 y1, .int .i64 y2, .int .i64 y3, .int .i64 y4] 49 49; have hgd : GD w ((w.alloc (.cells #[.string x, .int .i64 x1, .int .i64 x2, .int .i64 x3, .int .i64 x4] 49)).alloc (.cells #[.string y, .int .i64 y1, .int .i64 y2, .int .i64 y3, .int .i64 y4] 49)) := ((GD.refl w).alloc _).alloc _; have hsz : ((w.alloc (.cells #[.string x, .int .i64 x1, .int .i64 x2, .int .i64 x3, .int .i64 x4] 49)).alloc (.cells #[.string y, .int .i64 y1, .int .i64 y2, .int .i64 y3, .int .i64 y4] 49)).heap.size = w.heap.size + 1 + 1 := by simp
 go_enter Tryz.func39, Tryz.ntmps39
 go_upto_region 1 with (fail)
 generalize ((w.alloc (.cells #[.string x, .int .i64 x1, .int .i64 x2, .int .i64 x3, .int .i64 x4] 49)).alloc (.cells #[.string y, .int .i64 y1, .int .i64 y2, .int .i64 y3, .int .i64 y4] 49)) = wb at o_x o_y hbw hgd hsz |-; generalize w.heap.size = B at o_x o_y hsz |-; obtain ⟨x_0, x_1, x_2, x_3, x_4⟩ := o_x.cells5; obtain ⟨y_0, y_1, y_2, y_3, y_4⟩ := o_y.cells5; have nf : ∀ g : Nat, ¬ (fun _ : Nat => False) g := fun _ => id; refine wp_reg_t (fun a b => GD a b) ((fun a => GD.refl a)) ((fun _ _ _ h h' => h.trans h')) [some 5, some 6, some 7, some 8, some 9, some 10, some 11, some 12, some 13, some 14, some 15, some 16, some 17, some 18, some 4] [isV ?v1_0, isV ?v1_1, isV ?v1_2, isV ?v1_3, isV ?v1_4, isV ?v1_5, isV (.int .i64 (Lib.compareInt y1 x1)), isV ?v1_7, isV ?v1_8, isV ?v1_9, isV ?v1_10, isV (.int .i64 (cmpW x y)), (BW (Lib.compareInt y1 x1) (cmpW x y)), isV (.int .i64 res), isV ?v1_14] rfl (by kernel_rfl) rfl rfl ?k1 ⟨?s1_0, ?s1_1, ?s1_2, ?s1_3, ?s1_4, ?s1_5, ?s1_6, ?s1_7, ?s1_8, ?s1_9, ?s1_10, ?s1_11, ?s1_12, ?s1_13, ?s1_14, trivial⟩ ?p1
 case s1_0 =>
  intro t9 w9 hT9 hV9 hO9 K9 hK9; have o9_3 := hO9.l 3; clear hV9 hO9; go_simp
  (refine hK9 _ _ ((fun a => GD.refl a) w9) ?_; exact rfl)
 case s1_1 =>
  intro t w T V O K k; have p0 : t[5]? = some ?v1_0 := V.v 0 5 rfl rfl (by kernel_rfl) rfl; clear V O; go_simp
  (refine k _ _ ((fun a => GD.refl a) w) ?_; exact rfl)
 case s1_2 =>
  intro t w T V O K k; have p1 : t[6]? = some ?v1_1 := V.v 1 6 rfl rfl (by kernel_rfl) rfl; clear V O; have d0 := below_cell T.1 x_0; have d1 := below_cell T.1 x_1; have d2 := below_cell T.1 y_0; have d3 := below_cell T.1 y_1; go_simp
  (refine k _ _ ((fun a => GD.refl a) w) ?_; exact rfl)
 case s1_3 =>
  intro t9 w9 hT9 hV9 hO9 K9 hK9; have o9_2 := hO9.l 2; clear hV9 hO9; go_simp
  (refine hK9 _ _ ((fun a => GD.refl a) w9) ?_; exact rfl)
 case s1_4 =>
  intro t w T V O K k; have p3 : t[8]? = some ?v1_3 := V.v 3 8 rfl rfl (by kernel_rfl) rfl; clear V O; go_simp
  (refine k _ _ ((fun a => GD.refl a) w) ?_; exact rfl)
 case s1_5 =>
  intro t w T V O K k; have p4 : t[9]? = some ?v1_4 := V.v 4 9 rfl rfl (by kernel_rfl) rfl; clear V O; have d0 := below_cell T.1 x_0; have d1 := below_cell T.1 x_1; have d2 := below_cell T.1 y_0; have d3 := below_cell T.1 y_1; go_simp
  (refine k _ _ ((fun a => GD.refl a) w) ?_; exact rfl)
 case s1_6 =>
  intro t w T V O K k; have p9_2 : t[7]? = some ?v1_2 := V.v 2 7 rfl rfl (by kernel_rfl) rfl; have p9_5 : t[10]? = some ?v1_5 := V.v 5 10 rfl rfl (by kernel_rfl) rfl; clear V O; have d9_0 := below_cell T.1 x_0; have d9_1 := below_cell T.1 x_1; have d9_2 := below_cell T.1 y_0; have d9_3 := below_cell T.1 y_1; go_simp; refine (cmpI_any y1 x1 _).mono ?_; rintro _ _ ⟨rfl, rfl⟩; exact k _ _ (GD.refl _) rfl
 case s1_7 =>
  intro t9 w9 hT9 hV9 hO9 K9 hK9; have o9_2 := hO9.l 2; clear hV9 hO9; go_simp
  (refine hK9 _ _ ((fun a => GD.refl a) w9) ?_; exact rfl)
 case s1_8 =>
  intro t w T V O K k; have p7 : t[12]? = some ?v1_7 := V.v 7 12 rfl rfl (by kernel_rfl) rfl; clear V O; have d0 := below_cell T.1 x_0; have d1 := below_cell T.1 x_1; have d2 := below_cell T.1 y_0; have d3 := below_cell T.1 y_1; go_simp
  (refine k _ _ ((fun a => GD.refl a) w) ?_; exact rfl)
 case s1_9 =>
  intro t9 w9 hT9 hV9 hO9 K9 hK9; have o9_3 := hO9.l 3; clear hV9 hO9; go_simp
  (refine hK9 _ _ ((fun a => GD.refl a) w9) ?_; exact rfl)
 case s1_10 =>
  intro t w T V O K k; have p9 : t[14]? = some ?v1_9 := V.v 9 14 rfl rfl (by kernel_rfl) rfl; clear V O; have d0 := below_cell T.1 x_0; have d1 := below_cell T.1 x_1; have d2 := below_cell T.1 y_0; have d3 := below_cell T.1 y_1; go_simp
  (refine k _ _ ((fun a => GD.refl a) w) ?_; exact rfl)
 case s1_11 =>
  intro t w T V O K k; have p8 : t[13]? = some ?v1_8 := V.v 8 13 rfl rfl (by kernel_rfl) rfl; have p10 : t[15]? = some ?v1_10 := V.v 10 15 rfl rfl (by kernel_rfl) rfl; clear V O; have d0 := below_cell T.1 x_0; have d1 := below_cell T.1 x_1; have d2 := below_cell T.1 y_0; have d3 := below_cell T.1 y_1; go_simp; refine (cmpS_any x y _).mono ?_; rintro _ _ ⟨rfl, rfl⟩; exact k _ _ (GD.refl _) rfl
 case s1_12 =>
  intro t w T V O K k; have p9_6 : t[11]? = some ((.int .i64 (Lib.compareInt y1 x1))) := V.v 6 11 rfl rfl (by kernel_rfl) rfl; have p9_11 : t[16]? = some ((.int .i64 (cmpW x y))) := V.v 11 16 rfl rfl (by kernel_rfl) rfl; clear V O; have d9_0 := below_cell T.1 x_0; have d9_1 := below_cell T.1 x_1; have d9_2 := below_cell T.1 y_0; have d9_3 := below_cell T.1 y_1; go_simp; exact k _ _ ((GD.refl _).alloc _) ⟨_, rfl, Own.new _ _ _⟩
 case s1_13 =>
  intro t w T V O K k; obtain ⟨x9_12, p9_12, q9_12⟩ := V 12 17 rfl rfl (of_decide_eq_true (by kernel_rfl)); replace q9_12 : ((BW (Lib.compareInt y1 x1) (cmpW x y))) x9_12 w := q9_12; clear V O; have d9_0 := below_cell T.1 x_0; have d9_1 := below_cell T.1 x_1; have d9_2 := below_cell T.1 y_0; have d9_3 := below_cell T.1 y_1; obtain ⟨g9, rfl, ho9⟩ := q9_12; go_simp; refine (or2_any _ _ _ _ ho9).mono ?_; rintro _ _ ⟨rfl, rfl⟩; exact k _ _ (GD.refl _) (congrArg (Value.int .i64) HR.out.symm)
 case s1_14 =>
  intro t w T V O K k; have p13 : t[18]? = some ((.int .i64 res)) := V.v 13 18 rfl rfl (by kernel_rfl) rfl; clear V O; go_simp
  (refine k _ _ ((fun a => GD.refl a) w) ?_; exact rfl)
 case k1 =>
  intro i9 v9 w9 x9 h9 g9
  match i9, h9 with
  | 0, h9 => exact h9
  | 1, h9 => exact h9
  | 2, h9 => exact h9
  | 3, h9 => exact h9
  | 4, h9 => exact h9
  | 5, h9 => exact h9
  | 6, h9 => exact h9
  | 7, h9 => exact h9
  | 8, h9 => exact h9
  | 9, h9 => exact h9
  | 10, h9 => exact h9
  | 11, h9 => exact h9
  | 12, h9 => (replace h9 : (BW (Lib.compareInt y1 x1) (cmpW x y)) v9 w9 := h9); exact h9.gd g9
  | 13, h9 => exact h9
  | 14, h9 => exact h9
  | _ + 15, h9 => exact trivial
 intro u9 w9 hE9 hu9; have r9_0 : u9 0 = ?v1_0 := hu9 0 (by decide); have r9_1 : u9 1 = ?v1_1 := hu9 1 (by decide); have r9_2 : u9 2 = ?v1_2 := hu9 2 (by decide); have r9_3 : u9 3 = ?v1_3 := hu9 3 (by decide); have r9_4 : u9 4 = ?v1_4 := hu9 4 (by decide); have r9_5 : u9 5 = ?v1_5 := hu9 5 (by decide); have r9_6 : u9 6 = (.int .i64 (Lib.compareInt y1 x1)) := hu9 6 (by decide); have r9_7 : u9 7 = ?v1_7 := hu9 7 (by decide); have r9_8 : u9 8 = ?v1_8 := hu9 8 (by decide); have r9_9 : u9 9 = ?v1_9 := hu9 9 (by decide); have r9_10 : u9 10 = ?v1_10 := hu9 10 (by decide); have r9_11 : u9 11 = (.int .i64 (cmpW x y)) := hu9 11 (by decide); have r9_12 : (BW (Lib.compareInt y1 x1) (cmpW x y)) (u9 12) w9 := hu9 12 (by decide); have r9_13 : u9 13 = (.int .i64 res) := hu9 13 (by decide); have r9_14 : u9 14 = ?v1_14 := hu9 14 (by decide); clear hu9
 simp only [putAll, Act.put, List.setIfInBounds_toArray, List.set_cons_succ, List.set_cons_zero, List.getD_cons_succ, List.getD_cons_zero, Nat.reduceAdd, Nat.zero_add]
 simp only [r9_0, r9_1, r9_2, r9_3, r9_4, r9_5, r9_6, r9_7, r9_8, r9_9, r9_10, r9_11, r9_13, r9_14]
 clear r9_0 r9_1 r9_2 r9_3 r9_4 r9_5 r9_6 r9_7 r9_8 r9_9 r9_10 r9_11 r9_13 r9_14; clear r9_12
 go_wp2
 go_ret
 exact ⟨rfl, hgd.trans ((GD.refl wb).drew.trans hE9)⟩
def qV (nx mx ny my : Nat) : Int := if mx = 0 \/ my = 0 then Lib.compareInt (min (mx : Int) 1) (min (my : Int) 1) else Lib.compareInt ((ny : Int) * (mx : Int)) ((nx : Int) * (my : Int))
def cV (nx mx ny my : Nat) (x y : ByteArray) : Int := if qV nx mx ny my = 0 then cmpW x y else qV nx mx ny my
theorem mul_fit9 {a b : Nat} (ha : a <= 1000000) (hb : b <= 1000000) : wrap64 ((a : Int) * (b : Int)) = (a : Int) * (b : Int) := by
 have h : a * b <= 1000000 * 1000000 := Nat.mul_le_mul ha hb; have e : (a : Int) * (b : Int) = ((a * b : Nat) : Int) := by simp
 rw [e]; unfold wrap64
 omega
theorem cmpK_any (x y : ByteArray) (nx mx sx ny my sy : Nat) (x2 x4 y2 y4 : Int) (hsx : sx = nx + mx) (hsy : sy = ny + my) (h1 : nx <= 1000000) (h2 : mx <= 1000000) (h3 : ny <= 1000000) (h4 : my <= 1000000) (w : World) :
  Calls Tryz.prog 26 #[.agg #[.string x, .int .i64 (nx : Int), .int .i64 x2, .int .i64 (sx : Int), .int .i64 x4], .agg #[.string y, .int .i64 (ny : Int), .int .i64 y2, .int .i64 (sy : Int), .int .i64 y4]] w fun e w' => e = .returned (.int .i64 (cV nx mx ny my x y)) /\ GD w w' := by
 obtain ⟨res, hres⟩ : ∃ res, res = cV nx mx ny my x y := ⟨_, rfl⟩; rw [<- hres]; have HR := Z' hres; clear hres; have z1 : IntKind.i64.wrap ((sx : Int) - (nx : Int)) = (mx : Int) := (IntWalk.i64_in _ (by omega)).trans (by omega); have z2 : IntKind.i64.wrap ((sy : Int) - (ny : Int)) = (my : Int) := (IntWalk.i64_in _ (by omega)).trans (by omega); obtain ⟨P, hP⟩ : ∃ P : Int, P = (ny : Int) * (mx : Int) := ⟨_, rfl⟩; obtain ⟨Q, hQ⟩ : ∃ Q : Int, Q = (nx : Int) * (my : Int) := ⟨_, rfl⟩; have hP1 := mul_fit9 h3 h2; have hQ1 := mul_fit9 h1 h4; have z3 : wrap64 ((ny : Int) * (mx : Int)) = P := hP ▸ hP1; have z4 : wrap64 ((nx : Int) * (my : Int)) = Q := hQ ▸ hQ1; have HP := Z' hP; have HQ := Z' hQ; clear hP hQ hP1 hQ1; obtain ⟨o_x, o_y, hbw⟩ := new2 w [.string x, .int .i64 (nx : Int), .int .i64 x2, .int .i64 (sx : Int), .int .i64 x4] [.string y, .int .i64 (ny : Int), .int .i64 y2, .int .i64 (sy : Int), .int .i64 y4] 49 49
 have hgd : GD w ((w.alloc (.cells #[.string x, .int .i64 (nx : Int), .int .i64 x2, .int .i64 (sx : Int), .int .i64 x4] 49)).alloc (.cells #[.string y, .int .i64 (ny : Int), .int .i64 y2, .int .i64 (sy : Int), .int .i64 y4] 49)) := ((GD.refl w).alloc _).alloc _; have hsz : ((w.alloc (.cells #[.string x, .int .i64 (nx : Int), .int .i64 x2, .int .i64 (sx : Int), .int .i64 x4] 49)).alloc (.cells #[.string y, .int .i64 (ny : Int), .int .i64 y2, .int .i64 (sy : Int), .int .i64 y4] 49)).heap.size = w.heap.size + 1 + 1 := by simp
 clear hsx hsy h1 h2 h3 h4
 go_enter Tryz.func26, Tryz.ntmps26
 go_upto_region 1 with (fail)
 generalize ((w.alloc (.cells #[.string x, .int .i64 (nx : Int), .int .i64 x2, .int .i64 (sx : Int), .int .i64 x4] 49)).alloc (.cells #[.string y, .int .i64 (ny : Int), .int .i64 y2, .int .i64 (sy : Int), .int .i64 y4] 49)) = wb at o_x o_y hbw hgd hsz |-; generalize w.heap.size = B at o_x o_y hsz |-; obtain ⟨x_0, x_1, x_2, x_3, x_4⟩ := o_x.cells5; obtain ⟨y_0, y_1, y_2, y_3, y_4⟩ := o_y.cells5; refine wp_reg_t (fun a b => GD a b) ((fun a => GD.refl a)) ((fun _ _ _ h h' => h.trans h')) [some 8, some 9, some 10, some 11, some 12, some 13, some 14, some 15, some 16, some 17, some 18, some 19, some 20, some 21, some 5, some 6] [isV ?v2_0, isV ?v2_1, isV ?v2_2, isV ?v2_3, isV ?v2_4, isV ?v2_5, isV ?v2_6, isV ?v2_7, isV ?v2_8, isV ?v2_9, isV ?v2_10, isV ?v2_11, isV ?v2_12, isV ?v2_13, isV ?v2_14, isV ?v2_15] rfl (by kernel_rfl) rfl rfl ?k2 ⟨?s2_0, ?s2_1, ?s2_2, ?s2_3, ?s2_4, ?s2_5, ?s2_6, ?s2_7, ?s2_8, ?s2_9, ?s2_10, ?s2_11, ?s2_12, ?s2_13, ?s2_14, ?s2_15, trivial⟩ ?p2
 case s2_0 =>
  intro t9 w9 hT9 hV9 hO9 K9 hK9; have o9_2 := hO9.l 2; clear hV9 hO9; go_simp
  (refine hK9 _ _ ((fun a => GD.refl a) w9) ?_; exact rfl)
 case s2_1 =>
  intro t w T V O K k; have p0 : t[8]? = some ?v2_0 := V.v 0 8 rfl rfl (by kernel_rfl) rfl; clear V O; go_simp
  (refine k _ _ ((fun a => GD.refl a) w) ?_; exact rfl)
 case s2_2 =>
  intro t w T V O K k; have p1 : t[9]? = some ?v2_1 := V.v 1 9 rfl rfl (by kernel_rfl) rfl; clear V O; have d0 := below_cell T.1 x_1; have d1 := below_cell T.1 x_3; have d2 := below_cell T.1 y_1; have d3 := below_cell T.1 y_3; go_simp
  (refine k _ _ ((fun a => GD.refl a) w) ?_; exact rfl)
 case s2_3 =>
  intro t9 w9 hT9 hV9 hO9 K9 hK9; have o9_2 := hO9.l 2; clear hV9 hO9; go_simp
  (refine hK9 _ _ ((fun a => GD.refl a) w9) ?_; exact rfl)
 case s2_4 =>
  intro t w T V O K k; have p3 : t[11]? = some ?v2_3 := V.v 3 11 rfl rfl (by kernel_rfl) rfl; clear V O; go_simp
  (refine k _ _ ((fun a => GD.refl a) w) ?_; exact rfl)
 case s2_5 =>
  intro t w T V O K k; have p4 : t[12]? = some ?v2_4 := V.v 4 12 rfl rfl (by kernel_rfl) rfl; clear V O; have d0 := below_cell T.1 x_1; have d1 := below_cell T.1 x_3; have d2 := below_cell T.1 y_1; have d3 := below_cell T.1 y_3; go_simp
  (refine k _ _ ((fun a => GD.refl a) w) ?_; exact rfl)
 case s2_6 =>
  intro t w T V O K k; have p2 : t[10]? = some ?v2_2 := V.v 2 10 rfl rfl (by kernel_rfl) rfl; have p5 : t[13]? = some ?v2_5 := V.v 5 13 rfl rfl (by kernel_rfl) rfl; clear V O; go_simp
  (refine k _ _ ((fun a => GD.refl a) w) ?_; exact rfl)
 case s2_7 =>
  intro t9 w9 hT9 hV9 hO9 K9 hK9; have o9_3 := hO9.l 3; clear hV9 hO9; go_simp
  (refine hK9 _ _ ((fun a => GD.refl a) w9) ?_; exact rfl)
 case s2_8 =>
  intro t w T V O K k; have p7 : t[15]? = some ?v2_7 := V.v 7 15 rfl rfl (by kernel_rfl) rfl; clear V O; go_simp
  (refine k _ _ ((fun a => GD.refl a) w) ?_; exact rfl)
 case s2_9 =>
  intro t w T V O K k; have p8 : t[16]? = some ?v2_8 := V.v 8 16 rfl rfl (by kernel_rfl) rfl; clear V O; have d0 := below_cell T.1 x_1; have d1 := below_cell T.1 x_3; have d2 := below_cell T.1 y_1; have d3 := below_cell T.1 y_3; go_simp
  (refine k _ _ ((fun a => GD.refl a) w) ?_; exact rfl)
 case s2_10 =>
  intro t9 w9 hT9 hV9 hO9 K9 hK9; have o9_3 := hO9.l 3; clear hV9 hO9; go_simp
  (refine hK9 _ _ ((fun a => GD.refl a) w9) ?_; exact rfl)
 case s2_11 =>
  intro t w T V O K k; have p10 : t[18]? = some ?v2_10 := V.v 10 18 rfl rfl (by kernel_rfl) rfl; clear V O; go_simp
  (refine k _ _ ((fun a => GD.refl a) w) ?_; exact rfl)
 case s2_12 =>
  intro t w T V O K k; have p11 : t[19]? = some ?v2_11 := V.v 11 19 rfl rfl (by kernel_rfl) rfl; clear V O; have d0 := below_cell T.1 x_1; have d1 := below_cell T.1 x_3; have d2 := below_cell T.1 y_1; have d3 := below_cell T.1 y_3; go_simp
  (refine k _ _ ((fun a => GD.refl a) w) ?_; exact rfl)
 case s2_13 =>
  intro t w T V O K k; have p9 : t[17]? = some ?v2_9 := V.v 9 17 rfl rfl (by kernel_rfl) rfl; have p12 : t[20]? = some ?v2_12 := V.v 12 20 rfl rfl (by kernel_rfl) rfl; clear V O; go_simp
  (refine k _ _ ((fun a => GD.refl a) w) ?_; exact rfl)
 case s2_14 =>
  intro t w T V O K k; have p6 : t[14]? = some ?v2_6 := V.v 6 14 rfl rfl (by kernel_rfl) rfl; clear V O; go_simp
  (refine k _ _ ((fun a => GD.refl a) w) ?_; exact rfl)
 case s2_15 =>
  intro t w T V O K k; have p13 : t[21]? = some ?v2_13 := V.v 13 21 rfl rfl (by kernel_rfl) rfl; clear V O; go_simp
  (refine k _ _ ((fun a => GD.refl a) w) ?_; exact rfl)
 case k2 =>
  intro i9 v9 w9 x9 h9 g9
  match i9, h9 with
  | 0, h9 => exact h9
  | 1, h9 => exact h9
  | 2, h9 => exact h9
  | 3, h9 => exact h9
  | 4, h9 => exact h9
  | 5, h9 => exact h9
  | 6, h9 => exact h9
  | 7, h9 => exact h9
  | 8, h9 => exact h9
  | 9, h9 => exact h9
  | 10, h9 => exact h9
  | 11, h9 => exact h9
  | 12, h9 => exact h9
  | 13, h9 => exact h9
  | 14, h9 => exact h9
  | 15, h9 => exact h9
  | _ + 16, h9 => exact trivial
 intro u9 w9 hE9 hu9; have r9_0 : u9 0 = ?v2_0 := hu9 0 (by decide); have r9_1 : u9 1 = ?v2_1 := hu9 1 (by decide); have r9_2 : u9 2 = ?v2_2 := hu9 2 (by decide); have r9_3 : u9 3 = ?v2_3 := hu9 3 (by decide); have r9_4 : u9 4 = ?v2_4 := hu9 4 (by decide); have r9_5 : u9 5 = ?v2_5 := hu9 5 (by decide); have r9_6 : u9 6 = ?v2_6 := hu9 6 (by decide); have r9_7 : u9 7 = ?v2_7 := hu9 7 (by decide); have r9_8 : u9 8 = ?v2_8 := hu9 8 (by decide); have r9_9 : u9 9 = ?v2_9 := hu9 9 (by decide); have r9_10 : u9 10 = ?v2_10 := hu9 10 (by decide); have r9_11 : u9 11 = ?v2_11 := hu9 11 (by decide); have r9_12 : u9 12 = ?v2_12 := hu9 12 (by decide); have r9_13 : u9 13 = ?v2_13 := hu9 13 (by decide); have r9_14 : u9 14 = ?v2_14 := hu9 14 (by decide); have r9_15 : u9 15 = ?v2_15 := hu9 15 (by decide); clear hu9
 simp only [putAll, Act.put, List.setIfInBounds_toArray, List.set_cons_succ, List.set_cons_zero, List.getD_cons_succ, List.getD_cons_zero, Nat.reduceAdd, Nat.zero_add]
 simp only [r9_0, r9_1, r9_2, r9_3, r9_4, r9_5, r9_6, r9_7, r9_8, r9_9, r9_10, r9_11, r9_12, r9_13, r9_14, r9_15]
 clear r9_0 r9_1 r9_2 r9_3 r9_4 r9_5 r9_6 r9_7 r9_8 r9_9 r9_10 r9_11 r9_12 r9_13 r9_14 r9_15; replace hgd := hgd.trans ((GD.refl wb).drew.trans hE9); have v_x_0 := below_cell hE9.1 x_0; have v_x_1 := below_cell hE9.1 x_1; have v_y_0 := below_cell hE9.1 y_0; have v_y_1 := below_cell hE9.1 y_1; clear x_0 x_1 x_2 x_3 x_4 y_0 y_1 y_2 y_3 y_4 o_x o_y z1 z2 hE9
 go_wp2_with fail
 refine (cmpI_any _ _ _).mono ?_; rintro _ _ ⟨rfl, rfl⟩; clear z3 z4; generalize wrap64 ((ny : Int) * (mx : Int)) = P9; generalize wrap64 ((nx : Int) * (my : Int)) = Q9; obtain ⟨c1, hc1⟩ : ∃ c, c = Lib.compareInt P Q := ⟨_, rfl⟩; rw [<- hc1]; have HC1 := Z' hc1; clear hc1
 by_cases hz : mx = 0 \/ my = 0
 ·skip
  by_cases hm : mx = 0
  ·skip
   subst hm
   go_wp2_with fail
   refine (cmpI_any _ _ _).mono ?_; rintro _ _ ⟨rfl, rfl⟩; obtain ⟨q, hq⟩ : ∃ q, q = Lib.compareInt (min (0 : Int) 1) (min (my : Int) 1) := ⟨_, rfl⟩; rw [<- hq]; have HQV : qV nx 0 ny my = q := by rw [hq]; unfold qV; rw [if_pos (by first | exact .inl rfl | exact .inr rfl)]; rfl
   clear hq; have HRq : Hid (res = if q = 0 then cmpW x y else q) := by
    show _ = _
    rw [HR.out, cV, HQV]
   clear HR
   go_wp2_with fail
   refine (cmpS_any x y _).mono ?_; rintro _ _ ⟨rfl, rfl⟩; obtain ⟨o_b, hbb⟩ := new1 w9 [.int .i64 q, .int .i64 (cmpW x y)] 3; have hgb : GD w9 (w9.alloc (.cells #[.int .i64 q, .int .i64 (cmpW x y)] 3)) := (GD.refl _).alloc _
   go_wp2_with fail
   clear v_x_0 v_x_1 v_y_0 v_y_1; refine (or2_any q (cmpW x y) _ _ o_b).mono ?_; rintro _ _ ⟨rfl, rfl⟩; rw [<- HRq.out]
   go_wp2
   go_ret
   exact ⟨rfl, hgd.trans hgb⟩
  ·skip
   obtain rfl : my = 0 := hz.resolve_left hm; have d1 : ((mx : Int) == (0 : Int)) = false := beq_eq_false_iff_ne.2 (by omega); have d1n : ((mx : Nat) == (0 : Nat)) = false := beq_eq_false_iff_ne.2 (by omega); clear hm hz
   go_wp2_with fail
   refine (cmpI_any _ _ _).mono ?_; rintro _ _ ⟨rfl, rfl⟩; obtain ⟨q, hq⟩ : ∃ q, q = Lib.compareInt (min (mx : Int) 1) (min (0 : Int) 1) := ⟨_, rfl⟩; rw [<- hq]; have HQV : qV nx mx ny 0 = q := by rw [hq]; unfold qV; rw [if_pos (by first | exact .inl rfl | exact .inr rfl)]; rfl
   clear hq; have HRq : Hid (res = if q = 0 then cmpW x y else q) := by
    show _ = _
    rw [HR.out, cV, HQV]
   clear HR
   go_wp2_with fail
   refine (cmpS_any x y _).mono ?_; rintro _ _ ⟨rfl, rfl⟩; obtain ⟨o_b, hbb⟩ := new1 w9 [.int .i64 q, .int .i64 (cmpW x y)] 3; have hgb : GD w9 (w9.alloc (.cells #[.int .i64 q, .int .i64 (cmpW x y)] 3)) := (GD.refl _).alloc _
   go_wp2_with fail
   clear v_x_0 v_x_1 v_y_0 v_y_1; refine (or2_any q (cmpW x y) _ _ o_b).mono ?_; rintro _ _ ⟨rfl, rfl⟩; rw [<- HRq.out]
   go_wp2
   go_ret
   exact ⟨rfl, hgd.trans hgb⟩
 ·skip
  have hm1 : ¬ mx = 0 := fun e => hz (.inl e); have hm2 : ¬ my = 0 := fun e => hz (.inr e); have d1 : ((mx : Int) == (0 : Int)) = false := beq_eq_false_iff_ne.2 (by omega); have d1n : ((mx : Nat) == (0 : Nat)) = false := beq_eq_false_iff_ne.2 (by omega); have d2 : ((my : Int) == (0 : Int)) = false := beq_eq_false_iff_ne.2 (by omega); have d2n : ((my : Nat) == (0 : Nat)) = false := beq_eq_false_iff_ne.2 (by omega); clear hm1 hm2; obtain ⟨q, hq⟩ : ∃ q, q = c1 := ⟨_, rfl⟩; rw [<- hq]; have HQV : qV nx mx ny my = q := by rw [hq, HC1.out, HP.out, HQ.out]; unfold qV; rw [if_neg hz]
  clear hq hz; have HRq : Hid (res = if q = 0 then cmpW x y else q) := by
   show _ = _
   rw [HR.out, cV, HQV]
  clear HR
  go_wp2_with fail
  refine (cmpS_any x y _).mono ?_; rintro _ _ ⟨rfl, rfl⟩; obtain ⟨o_b, hbb⟩ := new1 w9 [.int .i64 q, .int .i64 (cmpW x y)] 3; have hgb : GD w9 (w9.alloc (.cells #[.int .i64 q, .int .i64 (cmpW x y)] 3)) := (GD.refl _).alloc _
  go_wp2_with fail
  clear v_x_0 v_x_1 v_y_0 v_y_1; refine (or2_any q (cmpW x y) _ _ o_b).mono ?_; rintro _ _ ⟨rfl, rfl⟩; rw [<- HRq.out]
  go_wp2
  go_ret
  exact ⟨rfl, hgd.trans hgb⟩
end Go.Proofs.YtjimfbmegmnocaaGreatDoor
