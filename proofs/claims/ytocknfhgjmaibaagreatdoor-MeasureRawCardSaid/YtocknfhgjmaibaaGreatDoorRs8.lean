/- Parts of the proof: Rs8. No condition of its own. -/
import Derived.Test.YtocknfhgjmaibaaGreatDoorEw
import Derived.Test.YtocknfhgjmaibaaGreatDoorMu
import Derived.Test.YtocknfhgjmaibaaGreatDoorLa
import Derived.Test.YtocknfhgjmaibaaGreatDoorLk
set_option linter.unusedSimpArgs false
set_option linter.unusedVariables false
set_option linter.unusedSectionVars false
set_option maxRecDepth 100000
set_option maxHeartbeats 4000000
namespace Go.Proofs.YtocknfhgjmaibaaGreatDoor
open Go.RowKit Dg

theorem negr_zero (t : ByteArray) : RetV 65 #[.agg #[.bool false, .string ⟨#[48]⟩, .string t]] (.agg #[.bool false, .string ⟨#[48]⟩, .string t]) := by
  intro w; obtain ⟨o_x, o_r, hbw⟩ := new2 w [.bool false, .string ⟨#[48]⟩, .string t] [.bool false, .string ⟨#[]⟩, .string ⟨#[]⟩] 27 27
  go_enter Tryz.func65, Tryz.ntmps65
  go_upto_region 1 with (fail)
  generalize ((w.alloc (.cells #[.bool false, .string ⟨#[48]⟩, .string t] 27)).alloc (.cells #[.bool false, .string ⟨#[]⟩, .string ⟨#[]⟩] 27)) = wb at o_x o_r hbw ⊢; obtain ⟨qx_0, qx_1, qx_2⟩ := o_x.cells3
  go_upto_region 3 with (fail)
  obtain ⟨qr_0, qr_1, qr_2⟩ := o_r.cells3; obtain ⟨fr_0, fr_1, fr_2⟩ := o_r.frozens3; have oz := o_r.set3 (.bool false) (.string ⟨#[48]⟩) (.string t); have sz9 := Below.set3 hbw (g := w.heap.size + 1) (by omega) (.bool false) (.string ⟨#[48]⟩) (.string t)
  go_wp2_with fail
  generalize (((wb.setCell ⟨w.heap.size + 1, 0, none⟩ (.bool false)).setCell ⟨w.heap.size + 1, 1, none⟩ (.string ⟨#[48]⟩)).setCell ⟨w.heap.size + 1, 2, none⟩ (.string t)) = wz at oz sz9 ⊢; obtain ⟨z0, z1, z2⟩ := oz.cells3; exact bodyPost_ret (v := .agg #[.bool false, .string ⟨#[48]⟩, .string t]) (by simp [results, Tryz.results65, go_sem, z0, z1, z2]) rfl ⟨rfl, sz9⟩
theorem negr_flip (s t : ByteArray) (hs : (s.toList == [48]) = false) : RetV 65 #[.agg #[.bool false, .string s, .string t]] (.agg #[.bool true, .string s, .string t]) := by
  intro w; obtain ⟨o_x, o_r, hbw⟩ := new2 w [.bool false, .string s, .string t] [.bool false, .string ⟨#[]⟩, .string ⟨#[]⟩] 27 27
  go_enter Tryz.func65, Tryz.ntmps65
  go_upto_region 1 with (fail)
  generalize ((w.alloc (.cells #[.bool false, .string s, .string t] 27)).alloc (.cells #[.bool false, .string ⟨#[]⟩, .string ⟨#[]⟩] 27)) = wb at o_x o_r hbw ⊢; obtain ⟨qx_0, qx_1, qx_2⟩ := o_x.cells3; have f0 := o_x.frozen 0; have ox : Own (wb.setCell ⟨w.heap.size, 0, none⟩ (.bool true)) w.heap.size 27 [.bool true, .string s, .string t] := o_x.set_ 0 (.bool true); have or9 := o_r.far (p := ⟨w.heap.size, 0, none⟩) (by simp) (.bool true); have hb9 := hbw.setCell (p := ⟨w.heap.size, 0, none⟩) (Nat.le_refl _) (.bool true)
  go_upto_region 3 with (fail)
  generalize (wb.setCell ⟨w.heap.size, 0, none⟩ (.bool true)) = wv at ox or9 hb9 ⊢; clear o_x o_r hbw qx_0 qx_1 qx_2 f0; have o_x := ox; have o_r := or9; have hbw := hb9; clear ox or9 hb9; obtain ⟨qx_0, qx_1, qx_2⟩ := o_x.cells3; obtain ⟨qr_0, qr_1, qr_2⟩ := o_r.cells3; obtain ⟨fr_0, fr_1, fr_2⟩ := o_r.frozens3; have oz := o_r.set3 (.bool true) (.string s) (.string t); have sz9 := Below.set3 hbw (g := w.heap.size + 1) (by omega) (.bool true) (.string s) (.string t)
  go_wp2_with fail
  generalize (((wv.setCell ⟨w.heap.size + 1, 0, none⟩ (.bool true)).setCell ⟨w.heap.size + 1, 1, none⟩ (.string s)).setCell ⟨w.heap.size + 1, 2, none⟩ (.string t)) = wz at oz sz9 ⊢; obtain ⟨z0, z1, z2⟩ := oz.cells3; exact bodyPost_ret (v := .agg #[.bool true, .string s, .string t]) (by simp [results, Tryz.results65, go_sem, z0, z1, z2]) rfl ⟨rfl, sz9⟩
theorem subr_core (nx : Bool) (sx tx : ByteArray) (ny : Bool) (sy ty : ByteArray) (nn : Bool) (sn tn : ByteArray) (nu : Bool) (su tu : ByteArray) (hi : RetV 57 #[.agg #[.bool ny, .string sy, .string ty]] (.bool true)) (hn : RetV 65 #[.agg #[.bool ny, .string sy, .string ty]] (.agg #[.bool nn, .string sn, .string tn])) (ha : RetV 64 #[.agg #[.bool nx, .string sx, .string tx], .agg #[.bool nn, .string sn, .string tn]] (.tuple #[.agg #[.bool nu, .string su, .string tu], .int .i64 0])) :
    RetV 40 #[.agg #[.bool nx, .string sx, .string tx], .agg #[.bool ny, .string sy, .string ty]] (.tuple #[.agg #[.bool nu, .string su, .string tu], .int .i64 0]) := by
  intro w; have HI := Lib.hid hi; have HN := Lib.hid hn; have HA := Lib.hid ha; clear hi hn ha; obtain ⟨o_x, o_y, o_r, hbw⟩ := new3 w [.bool nx, .string sx, .string tx] [.bool ny, .string sy, .string ty] [.bool false, .string ⟨#[]⟩, .string ⟨#[]⟩] 27 27 27
  go_enter Tryz.func40, Tryz.ntmps40
  go_upto_region 1 with (fail)
  generalize (((w.alloc (.cells #[.bool nx, .string sx, .string tx] 27)).alloc (.cells #[.bool ny, .string sy, .string ty] 27)).alloc (.cells #[.bool false, .string ⟨#[]⟩, .string ⟨#[]⟩] 27)) = wb at o_x o_y o_r hbw ⊢; obtain ⟨qy_0, qy_1, qy_2⟩ := o_y.cells3
  go_wp2_with fail
  clear qy_0 qy_1 qy_2; refine (HI.out _).mono ?_; rintro e w1 ⟨rfl, hb1⟩; replace o_x := o_x.below hb1 o_x.lt; replace o_y := o_y.below hb1 o_y.lt; replace o_r := o_r.below hb1 o_r.lt; replace hbw := below6 hbw hb1; clear hb1
  go_upto_region 3 with (fail)
  obtain ⟨qx_0, qx_1, qx_2⟩ := o_x.cells3; obtain ⟨qy_0, qy_1, qy_2⟩ := o_y.cells3; obtain ⟨qr_0, qr_1, qr_2⟩ := o_r.cells3; obtain ⟨fr_0, fr_1, fr_2⟩ := o_r.frozens3; refine wp_reg_st [some 10, some 11, some 12, some 13, some 14, some 15, none, some 5] [isV ?v1_0, isV ?v1_1, isV (.agg #[.bool nn, .string sn, .string tn]), isV (.tuple #[.agg #[.bool nu, .string su, .string tu], .int .i64 0]), isV ?v1_4, isV ?v1_5, fun _ _ => False, fun _ _ => False] [anyV, anyV, anyV, anyV, anyV, anyV, anyV, isV ?w1_7] 6 [0, 1, 2, 3, 4, 5] (fun _ => fun w' => Below w.heap.size w w' ∧ Own w' (w.heap.size + 1 + 1) 27 [.bool nu, .string su, .string tu]) rfl (by kernel_rfl) rfl rfl (by decide) (by kernel_rfl) (by kernel_rfl) (fun _ _ _ _ h => h) ?k1 ?m1 ⟨?s1_0, ?s1_1, ?s1_2, ?s1_3, ?s1_4, ?s1_5, ?s1_6, ?s1_7, trivial⟩ ?p1
  case s1_0 =>
    rw [if_neg (by decide)]
    constructor
    · rw [if_neg (by decide)]; intro t9 w9 hT9 hV9 hO9 K9 hK9; have o9_2 := hO9 2 _ (.inl (show List.contains _ _ = false from by kernel_rfl)) rfl; clear hV9 hO9; have d9_0 := grow_cell hT9 qx_0; have d9_1 := grow_cell hT9 qx_1; have d9_2 := grow_cell hT9 qx_2; have d9_3 := grow_cell hT9 qy_0; have d9_4 := grow_cell hT9 qy_1; have d9_5 := grow_cell hT9 qy_2; go_simp
      (refine hK9 _ _ (Grow.refl _) ?_; exact rfl)
    · rw [if_pos (by decide)]; trivial
  case s1_1 =>
    rw [if_neg (by decide)]
    constructor
    · rw [if_neg (by decide)]; intro t9 w9 hT9 hV9 hO9 K9 hK9; have o9_3 := hO9 3 _ (.inl (show List.contains _ _ = false from by kernel_rfl)) rfl; clear hV9 hO9; have d9_0 := grow_cell hT9 qx_0; have d9_1 := grow_cell hT9 qx_1; have d9_2 := grow_cell hT9 qx_2; have d9_3 := grow_cell hT9 qy_0; have d9_4 := grow_cell hT9 qy_1; have d9_5 := grow_cell hT9 qy_2; go_simp
      (refine hK9 _ _ (Grow.refl _) ?_; exact rfl)
    · rw [if_pos (by decide)]; trivial
  case s1_2 =>
    rw [if_neg (by decide)]
    constructor
    · rw [if_neg (by decide)]; intro t9 w9 hT9 hV9 hO9 K9 hK9; obtain ⟨x9_1, p9_1, q9_1⟩ := hV9.g 1 11 rfl rfl (by kernel_rfl); obtain rfl : x9_1 = ?v1_1 := q9_1; clear hV9 hO9; go_simp; refine (HN.out _).mono ?_; rintro e w8 ⟨rfl, hb8⟩; exact hK9 _ _ hb8 rfl
    · rw [if_pos (by decide)]; trivial
  case s1_3 =>
    rw [if_neg (by decide)]
    constructor
    · rw [if_neg (by decide)]; intro t9 w9 hT9 hV9 hO9 K9 hK9; obtain ⟨x9_0, p9_0, q9_0⟩ := hV9.g 0 10 rfl rfl (by kernel_rfl); obtain rfl : x9_0 = ?v1_0 := q9_0; obtain ⟨x9_2, p9_2, q9_2⟩ := hV9.g 2 12 rfl rfl (by kernel_rfl); obtain rfl : x9_2 = (.agg #[.bool nn, .string sn, .string tn]) := q9_2; clear hV9 hO9; go_simp; refine (HA.out _).mono ?_; rintro e w8 ⟨rfl, hb8⟩; exact hK9 _ _ hb8 rfl
    · rw [if_pos (by decide)]; trivial
  case s1_4 =>
    rw [if_neg (by decide)]
    constructor
    · rw [if_neg (by decide)]; intro t9 w9 hT9 hV9 hO9 K9 hK9; obtain ⟨x9_3, p9_3, q9_3⟩ := hV9.g 3 13 rfl rfl (by kernel_rfl); obtain rfl : x9_3 = (.tuple #[.agg #[.bool nu, .string su, .string tu], .int .i64 0]) := q9_3; clear hV9 hO9; go_simp
      (refine hK9 _ _ (Grow.refl _) ?_; exact rfl)
    · rw [if_pos (by decide)]; trivial
  case s1_5 =>
    rw [if_neg (by decide)]
    constructor
    · rw [if_neg (by decide)]; intro t9 w9 hT9 hV9 hO9 K9 hK9; obtain ⟨x9_3, p9_3, q9_3⟩ := hV9.g 3 13 rfl rfl (by kernel_rfl); obtain rfl : x9_3 = (.tuple #[.agg #[.bool nu, .string su, .string tu], .int .i64 0]) := q9_3; clear hV9 hO9; go_simp
      (refine hK9 _ _ (Grow.refl _) ?_; exact rfl)
    · rw [if_pos (by decide)]; trivial
  case s1_6 =>
    rw [if_pos (by decide)]; intro t9 w9 hT9 hV9 hO9 K9 hK9; obtain ⟨x9_4, p9_4, q9_4⟩ := hV9.g 4 14 (by decide) rfl (by kernel_rfl); obtain rfl : x9_4 = ?v1_4 := q9_4; have o9_4 := hO9 4 _ (.inl (show List.contains _ _ = false from by kernel_rfl)) rfl; clear hV9 hO9; have og := o_r.below hT9.below o_r.lt; obtain ⟨hg0, hg1, hg2⟩ := og.cells3; obtain ⟨hf0, hf1, hf2⟩ := og.frozens3; have HE := Lib.hid (⟨Below.set3 (below6 hbw hT9.below) (g := w.heap.size + 1 + 1) (by omega) (.bool nu) (.string su) (.string tu), og.set3 (.bool nu) (.string su) (.string tu)⟩ : (fun w' => Below w.heap.size w w' ∧ Own w' (w.heap.size + 1 + 1) 27 [.bool nu, .string su, .string tu]) (((w9.setCell ⟨w.heap.size + 1 + 1, 0, none⟩ (.bool nu)).setCell ⟨w.heap.size + 1 + 1, 1, none⟩ (.string su)).setCell ⟨w.heap.size + 1 + 1, 2, none⟩ (.string tu))); go_simp; exact hK9 undef _ HE.out trivial
  case s1_7 =>
    rw [if_neg (by decide)]
    constructor
    · rw [if_pos (by rfl)]; trivial
    · rw [if_neg (by decide)]; intro t9 w9 hV9 hO9 K9 hK9; obtain ⟨x9_5, p9_5, q9_5⟩ := hV9.g 5 15 rfl rfl (by kernel_rfl); obtain ⟨_, q9_5⟩ := q9_5.pre (by decide); obtain rfl : x9_5 = ?v1_5 := q9_5; clear hV9 hO9; go_simp
      (refine hK9 _ ?_; exact rfl)
  case k1 =>
    intro i9 v9 w9 x9 h9 g9
    match i9, h9 with
    | 0, h9 => exact h9
    | 1, h9 => exact h9
    | 2, h9 => exact h9
    | 3, h9 => exact h9
    | 4, h9 => exact h9
    | 5, h9 => exact h9
    | 6, h9 => exact h9
    | 7, h9 => exact h9
    | _ + 8, h9 => exact trivial
  case m1 =>
    intro i9 v9 w9 x9 a s h
    match i9, a, s, h with
    | 0, a, _, _ => exact absurd (by decide) a
    | 1, a, _, _ => exact absurd (by decide) a
    | 2, a, _, _ => exact absurd (by decide) a
    | 3, a, _, _ => exact absurd (by decide) a
    | 4, a, _, _ => exact absurd (by decide) a
    | 5, a, _, _ => exact absurd (by decide) a
    | 6, _, s, _ => exact absurd rfl s
    | 7, _, _, h => exact False.elim h
    | _ + 8, _, _, _ => exact trivial
  intro u9 w9 hE9 hu9; obtain ⟨_, r9_0⟩ := (hu9 0 (by decide)).pre (by decide); replace r9_0 : u9 0 = ?v1_0 := r9_0; obtain ⟨_, r9_1⟩ := (hu9 1 (by decide)).pre (by decide); replace r9_1 : u9 1 = ?v1_1 := r9_1; obtain ⟨_, r9_2⟩ := (hu9 2 (by decide)).pre (by decide); replace r9_2 : u9 2 = (.agg #[.bool nn, .string sn, .string tn]) := r9_2; obtain ⟨_, r9_3⟩ := (hu9 3 (by decide)).pre (by decide); replace r9_3 : u9 3 = (.tuple #[.agg #[.bool nu, .string su, .string tu], .int .i64 0]) := r9_3; obtain ⟨_, r9_4⟩ := (hu9 4 (by decide)).pre (by decide); replace r9_4 : u9 4 = ?v1_4 := r9_4; obtain ⟨_, r9_5⟩ := (hu9 5 (by decide)).pre (by decide); replace r9_5 : u9 5 = ?v1_5 := r9_5; have r9_7 : u9 7 = ?w1_7 := (hu9 7 (by decide)).late (by decide); clear hu9; obtain ⟨sz9, oz⟩ := hE9
  simp only [putAll, Act.put, List.setIfInBounds_toArray, List.set_cons_succ, List.set_cons_zero, List.getD_cons_succ, List.getD_cons_zero, Nat.reduceAdd, Nat.zero_add]
  simp only [r9_0, r9_1, r9_2, r9_3, r9_4, r9_5, r9_7]
  clear r9_0 r9_1 r9_2 r9_3 r9_4 r9_5 r9_7
  go_wp2_with fail
  obtain ⟨z0, z1, z2⟩ := oz.cells3; exact bodyPost_ret (v := .tuple #[.agg #[.bool nu, .string su, .string tu], .int .i64 0]) (by simp [results, Tryz.results40, go_sem, z0, z1, z2]) rfl ⟨rfl, sz9⟩
theorem num0_ne8 {x : Rat} (h : x ≠ 0) : S x.num.natAbs ≠ ⟨#[48]⟩ := by
  rw [← okS_0]; exact S_ne_0 (num_pos h)
theorem negr_yes {x : Rat} (h0 : 0 ≤ x) : RetV 65 #[RV x] (RV (-x)) := by
  rcases Rat.le_iff_lt_or_eq.1 h0 with h | h
  · have hn := pos_num h; have e1 : decide (x.num < 0) = false := decide_eq_false (by omega); have e2 : decide ((-x).num < 0) = true := decide_eq_true (by rw [Rat.neg_num]; omega); have e3 : (-x).num.natAbs = x.num.natAbs := by rw [Rat.neg_num, Int.natAbs_neg]
    have e4 : (-x).den = x.den := Rat.neg_den x; unfold RV; rw [e1, e2, e3, e4]; exact negr_flip _ _ (str_ne (num0_ne8 (by intro h9; rw [h9] at h; exact absurd h (by decide))))
  · subst h; have e : (-(0 : Rat)) = 0 := by grind
    rw [e, RV_zero]; exact negr_zero _
theorem subr_yes {x y : Rat} (hx : OkR x) (hy : OkR y) (h0 : 0 ≤ y) (hz : OkR (x - y)) : RetV 40 #[RV x, RV y] (.tuple #[RV (x - y), .int .i64 0]) := by
  have hn : OkR (-y) := by
    refine ⟨?_, ?_⟩
    · rw [Rat.neg_num, Int.natAbs_neg]; exact hy.1
    · rw [Rat.neg_den]; exact hy.2
  have ha := raddr_yes hx hn (by rw [← Rat.sub_eq_add_neg]; exact hz); rw [← Rat.sub_eq_add_neg] at ha; exact subr_core _ _ _ _ _ _ _ _ _ _ _ _ (fun w => isratior_yes w hy) (negr_yes h0) ha
theorem quor_yes {x y : Rat} (hx : OkR x) (hy : OkR y) (h0 : 0 < y) (hz : OkR (x / y)) : RetV 42 #[RV x, RV y] (.tuple #[RV (x / y), .int .i64 0]) := fun w => by
  have hn := pos_num h0; have hne : y ≠ 0 := by intro h9; rw [h9] at h0; exact absurd h0 (by decide)
  refine (quor_core _ _ _ _ _ _ x.num.natAbs x.den y.num.natAbs y.den (x / y) (by rw [rat_mul, rat_inv (c := y.num.natAbs), rat_self, rat_self, Rat.div_def]) (by omega) (str_ne (num0_ne8 hne)) (fun w => isratior_yes w hx) (fun w => isratior_yes w hy) (fun w => big_S _ w hx.1) (fun w => big_S _ w hx.2) (fun w => big_S _ w hy.1) (fun w => big_S _ w hy.2) (den_pos x) (den_pos y) hx.1.dk hx.2.dk hy.1.dk hy.2.dk w).mono fun e w' ⟨g, hb⟩ => ⟨g.ok hz, hb⟩
theorem maker_one (n : Nat) (hn : n ≤ 1000000000000) : RetV 39 #[.int .i64 (n : Int), .int .i64 1] (.tuple #[RV (rat false n 1), .int .i64 0]) := by
  intro w; refine (maker_any (n : Int) 1 w (by omega) (by omega) (by omega) (by omega) (by decide)).mono ?_; rintro e w1 ⟨g, hb⟩; have e1 : (decide ((n : Int) < 0) != decide ((1 : Int) < 0)) = false := by rw [decide_eq_false (by omega)]; rfl
  rw [e1] at g; have e2 : (n : Int).natAbs = n := by omega
  rw [e2] at g; exact ⟨g.ok ((one_few (k := 13) (by decide) (by omega)).ok (by decide)), hb⟩
end Go.Proofs.YtocknfhgjmaibaaGreatDoor
