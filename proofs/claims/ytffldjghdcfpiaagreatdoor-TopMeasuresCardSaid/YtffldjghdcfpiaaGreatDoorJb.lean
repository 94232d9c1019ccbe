/- Parts of the proof: If, Jb. No condition of its own. -/
import Derived.Test.YtffldjghdcfpiaaGreatDoorId
import Derived.Test.YtffldjghdcfpiaaGreatDoorJa
set_option linter.unusedSimpArgs false
set_option linter.unusedVariables false
set_option linter.unusedSectionVars false
set_option maxRecDepth 100000
set_option maxHeartbeats 4000000
namespace Go.Proofs.YtffldjghdcfpiaaGreatDoor
open Go.RowKit Dg

def cmpR (x y : Rat) : Int := if x < y then -1 else if x = y then 0 else 1
def sgnR (z : Rat) : Int := if z < 0 then -1 else if z = 0 then 0 else 1
theorem sgn_sub (x y : Rat) : sgnR (x - y) = cmpR x y := by
  unfold sgnR cmpR; have h1 : x - y < 0 ↔ x < y := by rw [Rat.sub_lt_iff, Rat.zero_add]
  have h2 : x - y = 0 ↔ x = y := by
    constructor
    · intro h; have := Rat.sub_add_cancel (a := x) (b := y); rw [h, Rat.zero_add] at this; exact this.symm
    · rintro rfl; exact Rat.sub_self
  simp only [h1, h2]
theorem rat_lt0 {neg : Bool} {a b : Nat} (hb : 0 < b) : rat neg a b < 0 ↔ neg = true ∧ 0 < a := by
  have h := rat_neg neg (a := a) hb; have h2 : rat neg a b < 0 ↔ (rat neg a b).num < 0 := by
    rw [← Rat.not_le, ← Rat.num_nonneg]; omega
  rw [h2]; have h3 : (decide ((rat neg a b).num < 0) = true) ↔ (neg && decide (0 < a)) = true := by rw [h]
  simpa using h3
theorem rat_eq0 {neg : Bool} {a b : Nat} (hb : 0 < b) : rat neg a b = 0 ↔ a = 0 := by
  unfold rat; rw [Rat.mkRat_eq_zero (by omega)]
  cases neg <;> simp
theorem sgn_zero {z : Rat} {neg : Bool} {b : Nat} (hb : 0 < b) (h : z = rat neg 0 b) : sgnR z = 0 := by
  unfold sgnR; rw [if_neg (by rw [h, rat_lt0 hb]; omega), if_pos (by rw [h, rat_eq0 hb])]
theorem sgn_neg {z : Rat} {a b : Nat} (hb : 0 < b) (ha : 0 < a) (h : z = rat true a b) : sgnR z = -1 := by
  unfold sgnR; rw [if_pos (by rw [h, rat_lt0 hb]; exact ⟨rfl, ha⟩)]
theorem sgn_pos {z : Rat} {a b : Nat} (hb : 0 < b) (ha : 0 < a) (h : z = rat false a b) : sgnR z = 1 := by
  unfold sgnR; rw [if_neg (by rw [h, rat_lt0 hb]; simp), if_neg (by rw [h, rat_eq0 hb]; omega)]
theorem cmp_core (n1 n2 : Bool) (s1 t1 s2 t2 : ByteArray) (a b c d : Nat) (z : Rat) (hr : Rd2 n1 n2 s1 t1 s2 t2 a b c d) (hq : z = rat n1 a b + rat (!n2) c d) (hb : 0 < b) (hd : 0 < d) (l1 : (dw a).length ≤ 20000) (l2 : (dw b).length ≤ 20000) (l3 : (dw c).length ≤ 20000) (l4 : (dw d).length ≤ 20000) (w : World) :
    Calls Tryz.prog 11 #[.agg #[.bool n1, .string s1, .string t1], .agg #[.bool n2, .string s2, .string t2]] w fun e w' => e = .returned (.int .i64 (sgnR z)) ∧ Below w.heap.size w w' := by
  have HREAD := Lib.hid hr; have HQ := Lib.hid hq; have HB := Lib.hid hb; have HD := Lib.hid hd; clear hr hq hb hd; obtain ⟨o1, o2, hbw⟩ := new2 w [.bool n1, .string s1, .string t1] [.bool n2, .string s2, .string t2] 26 26
  go_enter Tryz.func11, Tryz.ntmps11
  go_upto_region 1 with (fail)
  generalize ((w.alloc (.cells #[.bool n1, .string s1, .string t1] 26)).alloc (.cells #[.bool n2, .string s2, .string t2] 26)) = wb at o1 o2 hbw ⊢; obtain ⟨c10, c11, c12⟩ := o1.cells3; obtain ⟨c20, c21, c22⟩ := o2.cells3; obtain ⟨o4, hb4⟩ := new1 wb [.bool n1, .string s1, .string t1, .bool n2, .string s2, .string t2] 26
  go_wp2_with fail
  generalize (wb.alloc (.cells #[.bool n1, .string s1, .string t1, .bool n2, .string s2, .string t2] 26)) = wc at o4 hb4 ⊢; clear c10 c11 c12 c20 c21 c22 o1 o2; replace hbw := below6 hbw hb4; clear hb4; have hgb := hbw.size; refine (HREAD.out _ _ o4).mono ?_; rintro e wd ⟨r, cap, A1, k1, A2, k2, A3, k3, A4, k4, rest, rfl, hcap, hcap2, hr, orow, v1, v2, v3, v4, hb5⟩; unfold maxLen at hcap2; have hrw : w.heap.size ≤ r := by omega
  replace hbw := below6 hbw hb5; clear hb5 o4 HREAD; have c3 : wd.cell? ⟨r, 3, none⟩ = some (.bool n2) := orow.cell 3; have f3 := orow.frozen 3; have orow2 := orow.set_ 3 (.bool !n2); have hcg : Chg (fun k => k = r) wd (wd.setCell ⟨r, 3, none⟩ (.bool !n2)) := Chg.setCell (S := fun k => k = r) (p := ⟨r, 3, none⟩) (Chg.refl _ _) rfl _; replace v1 := v1.chg hcg; replace v2 := v2.chg hcg; replace v3 := v3.chg hcg; replace v4 := v4.chg hcg; replace hbw := hbw.setCell (p := ⟨r, 3, none⟩) (show w.heap.size ≤ r by omega) (.bool !n2); clear hcg
  go_upto_region 5 with (fail)
  generalize (wd.setCell ⟨r, 3, none⟩ (.bool !n2)) = we at orow2 v1 v2 v3 v4 hbw ⊢; replace orow : Own we r 47 (.bool n1 :: .slice A1 (dw a).length k1 :: .slice A2 (dw b).length k2 :: .bool (!n2) :: .slice A3 (dw c).length k3 :: .slice A4 (dw d).length k4 :: rest) := orow2; clear c3 f3 orow2; have c0 : we.cell? ⟨r, 0, none⟩ = some (.bool n1) := orow.cell 0; have c1 : we.cell? ⟨r, 1, none⟩ = some (.slice A1 (dw a).length k1) := orow.cell 1; have c2 : we.cell? ⟨r, 2, none⟩ = some (.slice A2 (dw b).length k2) := orow.cell 2; have c3 : we.cell? ⟨r, 3, none⟩ = some (.bool (!n2)) := orow.cell 3; have c4 : we.cell? ⟨r, 4, none⟩ = some (.slice A3 (dw c).length k3) := orow.cell 4; have c5 : we.cell? ⟨r, 5, none⟩ = some (.slice A4 (dw d).length k4) := orow.cell 5; have m1 := Lib.hid v1.nat; have m2 := Lib.hid v2.nat; have m3 := Lib.hid v3.nat; have m4 := Lib.hid v4.nat; refine wp_reg_st [some 25, some 26, some 27, some 28, some 29, some 30, some 31, some 7, none] [isV ?v1_0, isV ?v1_1, isV ?v1_2, isV ?v1_3, isV ?v1_4, isV ?v1_5, (fun v w' => NumOk 100000 z w' v), (fun v w' => ∃ b5, v = .pointer (some ⟨b5, 0, none⟩) ∧ w.heap.size ≤ b5 ∧ Own w' b5 47 [.bool false, .slice none 0 0, .slice none 0 0]), fun _ _ => False] [anyV, anyV, anyV, anyV, anyV, anyV, anyV, anyV, anyV] 8 [0, 1, 2, 3, 4, 5, 6, 7] (fun u w' => ∃ b5 neg y1 y2 a9 b9, u 7 = .pointer (some ⟨b5, 0, none⟩) ∧ Own w' b5 47 [.bool neg, y1, y2] ∧ NatV w' y1 a9 ∧ 0 < b9 ∧ (dw a9).length ≤ 100000 ∧ z = rat neg a9 b9 ∧ Below w.heap.size w w') rfl (by kernel_rfl) rfl rfl (by decide) (by kernel_rfl) (by kernel_rfl) (by rintro u u' w9 h ⟨b5, neg, y1, y2, a9, b9, e, hrest⟩; exact ⟨b5, neg, y1, y2, a9, b9, (h 7 (by decide) rfl).symm.trans e, hrest⟩) ?k1 ?m1 ⟨?s1_0, ?s1_1, ?s1_2, ?s1_3, ?s1_4, ?s1_5, ?s1_6, ?s1_7, ?s1_8, trivial⟩ ?p1
  case s1_0 =>
    rw [if_neg (by decide)]
    constructor
    · rw [if_neg (by decide)]; intro t9 w9 hT9 hV9 hO9 K9 hK9; have o9_5 := hO9 5 _ (.inl (show List.contains _ _ = false from by kernel_rfl)) rfl; clear hV9 hO9; go_simp
      (refine hK9 _ _ (Grow.refl _) ?_; exact rfl)
    · rw [if_pos (by decide)]; trivial
  case s1_1 =>
    rw [if_neg (by decide)]
    constructor
    · rw [if_neg (by decide)]; intro t9 w9 hT9 hV9 hO9 K9 hK9; obtain ⟨x9_0, p9_0, q9_0⟩ := hV9.g 0 25 rfl rfl (by kernel_rfl); obtain rfl : x9_0 = ?v1_0 := q9_0; clear hV9 hO9; go_simp
      (refine hK9 _ _ (Grow.refl _) ?_; exact rfl)
    · rw [if_pos (by decide)]; trivial
  case s1_2 =>
    rw [if_neg (by decide)]
    constructor
    · rw [if_neg (by decide)]; intro t9 w9 hT9 hV9 hO9 K9 hK9; obtain ⟨x9_1, p9_1, q9_1⟩ := hV9.g 1 26 rfl rfl (by kernel_rfl); obtain rfl : x9_1 = ?v1_1 := q9_1; clear hV9 hO9; have d9_0 := grow_cell hT9 c0; have d9_1 := grow_cell hT9 c1; have d9_2 := grow_cell hT9 c2; have d9_3 := grow_cell hT9 c3; have d9_4 := grow_cell hT9 c4; have d9_5 := grow_cell hT9 c5; go_simp
      (refine hK9 _ _ (Grow.refl _) ?_; exact rfl)
    · rw [if_pos (by decide)]; trivial
  case s1_3 =>
    rw [if_neg (by decide)]
    constructor
    · rw [if_neg (by decide)]; intro t9 w9 hT9 hV9 hO9 K9 hK9; have o9_5 := hO9 5 _ (.inl (show List.contains _ _ = false from by kernel_rfl)) rfl; clear hV9 hO9; go_simp
      (refine hK9 _ _ (Grow.refl _) ?_; exact rfl)
    · rw [if_pos (by decide)]; trivial
  case s1_4 =>
    rw [if_neg (by decide)]
    constructor
    · rw [if_neg (by decide)]; intro t9 w9 hT9 hV9 hO9 K9 hK9; obtain ⟨x9_3, p9_3, q9_3⟩ := hV9.g 3 28 rfl rfl (by kernel_rfl); obtain rfl : x9_3 = ?v1_3 := q9_3; clear hV9 hO9; go_simp
      (refine hK9 _ _ (Grow.refl _) ?_; exact rfl)
    · rw [if_pos (by decide)]; trivial
  case s1_5 =>
    rw [if_neg (by decide)]
    constructor
    · rw [if_neg (by decide)]; intro t9 w9 hT9 hV9 hO9 K9 hK9; obtain ⟨x9_4, p9_4, q9_4⟩ := hV9.g 4 29 rfl rfl (by kernel_rfl); obtain rfl : x9_4 = ?v1_4 := q9_4; clear hV9 hO9; have d9_0 := grow_cell hT9 c0; have d9_1 := grow_cell hT9 c1; have d9_2 := grow_cell hT9 c2; have d9_3 := grow_cell hT9 c3; have d9_4 := grow_cell hT9 c4; have d9_5 := grow_cell hT9 c5; go_simp
      (refine hK9 _ _ (Grow.refl _) ?_; exact rfl)
    · rw [if_pos (by decide)]; trivial
  case s1_6 =>
    rw [if_neg (by decide)]
    constructor
    · rw [if_neg (by decide)]; intro t9 w9 hT9 hV9 hO9 K9 hK9; obtain ⟨x9_2, p9_2, q9_2⟩ := hV9.g 2 27 rfl rfl (by kernel_rfl); obtain rfl : x9_2 = ?v1_2 := q9_2; obtain ⟨x9_5, p9_5, q9_5⟩ := hV9.g 5 30 rfl rfl (by kernel_rfl); obtain rfl : x9_5 = ?v1_5 := q9_5; clear hV9 hO9; go_simp; refine (plus_any n1 (!n2) _ _ _ _ a b c d _ (m1.out.below hT9.below) (m2.out.below hT9.below) (m3.out.below hT9.below) (m4.out.below hT9.below) HB.out HD.out (by omega) (by omega) (by omega) (by omega)).mono ?_; rintro _ w8 ⟨⟨v8, rfl, hv8⟩, hb8⟩; exact hK9 _ _ hb8 (by rw [HQ.out]; exact hv8)
    · rw [if_pos (by decide)]; trivial
  case s1_7 =>
    rw [if_neg (by decide)]
    constructor
    · rw [if_neg (by decide)]; intro t9 w9 hT9 hV9 hO9 K9 hK9; clear hV9 hO9; go_simp; have g8 := (Grow.refl w9).al (.cells #[.bool false, .slice none 0 0, .slice none 0 0] 47); exact hK9 _ _ g8 ⟨_, rfl, by have := (below6 hbw hT9.below).size; exact this, Own.new _ _ [_, _, _]⟩
    · rw [if_pos (by decide)]; trivial
  case s1_8 =>
    rw [if_pos (by decide)]; intro t9 w9 hT9 hV9 hO9 K9 hK9; obtain ⟨x9_6, p9_6, q9_6⟩ := hV9.g 6 31 (by decide) rfl (by kernel_rfl); replace q9_6 : ((fun v w' => NumOk 100000 z w' v)) x9_6 _ := q9_6; obtain ⟨x9_7, p9_7, q9_7⟩ := hV9.g 7 7 (by decide) rfl (by kernel_rfl); replace q9_7 : ((fun v w' => ∃ b5, v = .pointer (some ⟨b5, 0, none⟩) ∧ w.heap.size ≤ b5 ∧ Own w' b5 47 [.bool false, .slice none 0 0, .slice none 0 0])) x9_7 _ := q9_7; clear hV9 hO9; obtain ⟨b5, hx7, hb5, hg⟩ := q9_7; subst hx7; obtain ⟨neg, y1, y2, a9, b9, rfl, g1, g2, g3, g4, g5, g6⟩ := q9_6; have G1 := Lib.hid g1; obtain ⟨A7, k7, rfl, -⟩ := g1; obtain ⟨A8, k8, rfl, -⟩ := g2; obtain ⟨hg0, hg1, hg2⟩ := hg.cells3; obtain ⟨hf0, hf1, hf2⟩ := hg.frozens3; have HE := Lib.hid (⟨b5, neg, _, _, a9, b9, fval_of p9_7 rfl, hg.set3 (.bool neg) (.slice A7 (dw a9).length k7) (.slice A8 (dw b9).length k8), NatV.set3 G1.out hg _ _ _ rfl, g3, g4, g6, Below.set3 (below6 hbw hT9.below) hb5 _ _ _⟩ : (fun u w' => ∃ b5 neg y1 y2 a9 b9, u 7 = .pointer (some ⟨b5, 0, none⟩) ∧ Own w' b5 47 [.bool neg, y1, y2] ∧ NatV w' y1 a9 ∧ 0 < b9 ∧ (dw a9).length ≤ 100000 ∧ z = rat neg a9 b9 ∧ Below w.heap.size w w') (fval [some 25, some 26, some 27, some 28, some 29, some 30, some 31, some 7, none] t9) ((((w9.setCell ⟨b5, 0, none⟩ (.bool neg)).setCell ⟨b5, 1, none⟩ (.slice A7 (dw a9).length k7)).setCell ⟨b5, 2, none⟩ (.slice A8 (dw b9).length k8))))
    clear g6; go_simp; exact hK9 undef _ HE.out trivial
  case k1 =>
    intro i9 v9 w9 x9 h9 g9
    match i9, h9 with
    | 0, h9 => exact h9
    | 1, h9 => exact h9
    | 2, h9 => exact h9
    | 3, h9 => exact h9
    | 4, h9 => exact h9
    | 5, h9 => exact h9
    | 6, h9 => (replace h9 : (fun v w' => NumOk 100000 z w' v) v9 w9 := h9); exact NumOk.below h9 g9
    | 7, h9 => (replace h9 : (fun v w' => ∃ b5, v = .pointer (some ⟨b5, 0, none⟩) ∧ w.heap.size ≤ b5 ∧ Own w' b5 47 [.bool false, .slice none 0 0, .slice none 0 0]) v9 w9 := h9); obtain ⟨b5, rfl, h7, h8⟩ := h9; exact ⟨b5, rfl, h7, h8.below g9 h8.lt⟩
    | 8, h9 => exact h9
    | _ + 9, h9 => exact trivial
  case m1 =>
    intro i9 v9 w9 x9 a s h
    match i9, a, s, h with
    | 0, a, _, _ => exact absurd (by decide) a
    | 1, a, _, _ => exact absurd (by decide) a
    | 2, a, _, _ => exact absurd (by decide) a
    | 3, a, _, _ => exact absurd (by decide) a
    | 4, a, _, _ => exact absurd (by decide) a
    | 5, a, _, _ => exact absurd (by decide) a
    | 6, a, _, _ => exact absurd (by decide) a
    | 7, a, _, _ => exact absurd (by decide) a
    | 8, _, s, _ => exact absurd rfl s
    | _ + 9, _, _, _ => exact trivial
  intro u9 w9 hE9 hu9; obtain ⟨_, r9_0⟩ := (hu9 0 (by decide)).pre (by decide); replace r9_0 : u9 0 = ?v1_0 := r9_0; obtain ⟨_, r9_1⟩ := (hu9 1 (by decide)).pre (by decide); replace r9_1 : u9 1 = ?v1_1 := r9_1; obtain ⟨_, r9_2⟩ := (hu9 2 (by decide)).pre (by decide); replace r9_2 : u9 2 = ?v1_2 := r9_2; obtain ⟨_, r9_3⟩ := (hu9 3 (by decide)).pre (by decide); replace r9_3 : u9 3 = ?v1_3 := r9_3; obtain ⟨_, r9_4⟩ := (hu9 4 (by decide)).pre (by decide); replace r9_4 : u9 4 = ?v1_4 := r9_4; obtain ⟨_, r9_5⟩ := (hu9 5 (by decide)).pre (by decide); replace r9_5 : u9 5 = ?v1_5 := r9_5; clear hu9; obtain ⟨b5, neg, y1, y2, a9, b9, hu7, oz, gy1, gb9, gl9, gz, sz9⟩ := hE9
  simp only [putAll, Act.put, List.setIfInBounds_toArray, List.set_cons_succ, List.set_cons_zero, List.getD_cons_succ, List.getD_cons_zero, Nat.reduceAdd, Nat.zero_add]
  simp only [r9_0, r9_1, r9_2, r9_3, r9_4, r9_5]
  clear r9_0 r9_1 r9_2 r9_3 r9_4 r9_5; rw [hu7]; have GZ := Lib.hid gz; have GB := Lib.hid gb9; clear hu7 gz gb9; obtain ⟨A7, k7, rfl, hk7, hk7', -⟩ := gy1; unfold maxLen at hk7'; have z0 : w9.cell? ⟨b5, 0, none⟩ = some (.bool neg) := oz.cell 0; have z1 : w9.cell? ⟨b5, 1, none⟩ = some (.slice A7 (dw a9).length k7) := oz.cell 1
  rcases Nat.eq_zero_or_pos a9 with rfl | ha9
  · have hz : (dw 0).length = 0 := rfl; rw [hz] at z1; clear hz; have HR := Lib.hid (sgn_zero GB.out GZ.out)
    go_wp2
    go_ret
    exact ⟨ret_int HR.out.symm, sz9⟩
  · have hcl := dw_len_pos ha9; have b0 : (((dw a9).length : Int) == 0) = false := beqI_false (by omega)
    cases neg with
    | true =>
      have HR := Lib.hid (sgn_neg GB.out ha9 GZ.out); clear ha9
      go_wp2
      go_ret
      exact ⟨ret_int HR.out.symm, sz9⟩
    | false =>
      have HR := Lib.hid (sgn_pos GB.out ha9 GZ.out); clear ha9
      go_wp2
      go_ret
      exact ⟨ret_int HR.out.symm, sz9⟩
theorem rcmp_yes {x y : Rat} (hx : OkR x) (hy : OkR y) (w : World) : Calls Tryz.prog 11 #[RV x, RV y] w fun e w' => e = .returned (.int .i64 (cmpR x y)) ∧ Below w.heap.size w w' := by
  rw [← sgn_sub]; exact cmp_core _ _ _ _ _ _ _ _ _ _ (x - y) (fun g w ho => read2_yes hx hy g w ho) (by rw [rat_flip, rat_self, rat_self, Rat.sub_eq_add_neg]) (den_pos x) (den_pos y) hx.1.dw hx.2.dw hy.1.dw hy.2.dw w
open Go.RowKit Dg

end Go.Proofs.YtffldjghdcfpiaaGreatDoor
