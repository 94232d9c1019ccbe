/- Parts of the proof: Ia. No condition of its own. -/
import Derived.Test.YtffldjghdcfpiaaGreatDoorLa
import Derived.Test.YtffldjghdcfpiaaGreatDoorReg
import Derived.Test.YtffldjghdcfpiaaGreatDoorMem
set_option linter.unusedSimpArgs false
set_option linter.unusedVariables false
set_option linter.unusedSectionVars false
set_option maxRecDepth 100000
set_option maxHeartbeats 4000000
namespace Go.Proofs.YtffldjghdcfpiaaGreatDoor
open Go.RowKit Dg

theorem beqI_false {a b : Int} (h : a ≠ b) : (a == b) = false := beq_eq_false_iff_ne.2 h
theorem cmp1 {g : Nat} : (cmpI g 1 == 0) = decide (g = 1) := by
  unfold cmpI
  by_cases h1 : g < 1
  · rw [if_pos h1]; have : g ≠ 1 := by omega
    simp [this]
  · rw [if_neg h1]
    by_cases h2 : g = 1
    · rw [if_pos h2]; simp [h2]
    · rw [if_neg h2]; simp [h2]
def isRB (neg : Bool) (m n : Nat) : Bool := decide (0 < n ∧ ¬ (neg = true ∧ m = 0) ∧ Nat.gcd m n = 1)
theorem isRB_gcd {neg : Bool} {m n : Nat} (hn : 0 < n) (h : ¬ (neg = true ∧ m = 0)) : isRB neg m n = decide (Nat.gcd m n = 1) := by
  unfold isRB; rw [decide_eq_decide]; exact ⟨fun h' => h'.2.2, fun h' => ⟨hn, h, h'⟩⟩

theorem isratio_nat (neg : Bool) (m n : Nat) (w : World) (hm : OkN m) (hn : OkN n) :
    Calls Tryz.prog 35 #[RatV neg m n] w fun e w' => e = .returned (.bool (isRB neg m n)) ∧ Below w.heap.size w w' := by
  have hbb : Below w.heap.size w (w.alloc (.cells #[.bool neg, .string (S m), .string (S n)] 26)) := (Below.refl _ _).alloc (Nat.le_refl _) _; have hob : Own (w.alloc (.cells #[.bool neg, .string (S m), .string (S n)] 26)) w.heap.size 26 [.bool neg, .string (S m), .string (S n)] := Own.new w _ _; have HB := Lib.hid (fun w => both_yes m n w hm hn); have hmd := hm.dw; have hnd := hn.dw; clear hm hn
  go_enter Tryz.func35, Tryz.ntmps35
  go_wp2_with fail
  generalize (w.alloc (.cells #[.bool neg, .string (S m), .string (S n)] 26)) = wb at hbb hob ⊢; have c1 : wb.cell? ⟨w.heap.size, 1, none⟩ = some (.string (S m)) := hob.cell 1; have c2 : wb.cell? ⟨w.heap.size, 2, none⟩ = some (.string (S n)) := hob.cell 2; generalize S m = sm at *; generalize S n = sn at *
  go_wp2_with fail
  refine (HB.out _).mono ?_; rintro e w1 ⟨v1, v2, rfl, hv1, hv2, hb1⟩; have HV1 := Lib.hid hv1; have HV2 := Lib.hid hv2; obtain ⟨A1, k1, rfl, hk1, hk1', -⟩ := hv1; obtain ⟨A2, k2, rfl, hk2, hk2', -⟩ := hv2; unfold maxLen at hk1' hk2'; replace hob := hob.below hb1 hob.lt; replace hbb := below6 hbb hb1; have c0 : w1.cell? ⟨w.heap.size, 0, none⟩ = some (.bool neg) := hob.cell 0; clear c1 c2 hb1 HB
  by_cases hn0 : n = 0
  · subst hn0; have hz : (dw 0).length = 0 := rfl; rw [hz]; clear hk2 hnd hz
    go_wp2
    go_ret
    exact ⟨ret_bool rfl, hbb⟩
  have hn0' : 0 < n := by omega
  have hnl := dw_len_pos hn0'; have b0 : (((dw n).length : Int) == 0) = false := beqI_false (by omega)
  by_cases hng : neg = true ∧ m = 0
  · obtain ⟨rfl, rfl⟩ := hng; have hz : (dw 0).length = 0 := rfl; have HR : Hid (isRB true 0 n = false) := by show _ = _; unfold isRB; simp
    rw [hz]; clear hk1 hmd hz hn0 hn0'
    go_wp2
    go_ret
    exact ⟨ret_bool HR.out.symm, hbb⟩
  have HR := Lib.hid (isRB_gcd hn0' hng); have HG := fun w h1 h2 => Lib.hid (gcd_any (v1 := .slice A1 (dw m).length k1) (v2 := .slice A2 (dw n).length k2) (m := m) (n := n) w h1 h2 (by omega) (by omega))
  cases neg with
  | false =>
    clear hng hn0 hn0'
    go_wp2_with fail
    refine (HG _ HV1.out HV2.out).out.mono ?_; rintro e w2 ⟨v3, rfl, hv3, hb2⟩; replace hbb := below6 hbb hb2
    go_wp2_with fail
    refine (of_any 1 _ (by decide)).mono ?_; rintro e w3 ⟨v4, rfl, hv4, hb3⟩; replace hv3 := hv3.below hb3; replace hbb := below6 hbb hb3
    go_wp2_with fail
    refine (cmp_any _ hv3 hv4).mono ?_; rintro e w4 ⟨rfl, hb4⟩; replace hbb := below6 hbb hb4; clear c0 hob hb2 hb3 hb4 hv3 hv4
    go_wp2
    go_ret
    exact ⟨ret_bool (by rw [HR.out]; exact cmp1), hbb⟩
  | true =>
    have hm0 : 0 < m := by
      rcases Nat.eq_zero_or_pos m with e | e
      · exact absurd ⟨rfl, e⟩ hng
      · exact e
    have hml := dw_len_pos hm0; have b1 : (((dw m).length : Int) == 0) = false := beqI_false (by omega); clear hng hn0 hn0' hm0
    go_wp2_with fail
    refine (HG _ HV1.out HV2.out).out.mono ?_; rintro e w2 ⟨v3, rfl, hv3, hb2⟩; replace hbb := below6 hbb hb2
    go_wp2_with fail
    refine (of_any 1 _ (by decide)).mono ?_; rintro e w3 ⟨v4, rfl, hv4, hb3⟩; replace hv3 := hv3.below hb3; replace hbb := below6 hbb hb3
    go_wp2_with fail
    refine (cmp_any _ hv3 hv4).mono ?_; rintro e w4 ⟨rfl, hb4⟩; replace hbb := below6 hbb hb4; clear c0 hob hb2 hb3 hb4 hv3 hv4
    go_wp2
    go_ret
    exact ⟨ret_bool (by rw [HR.out]; exact cmp1), hbb⟩

theorem isratio_bad (neg : Bool) (s t : ByteArray) (w : World) (hs : s.size ≤ maxLen) (ht : t.size ≤ maxLen) (h : ¬ (VLD s ∧ VLD t)) :
    Calls Tryz.prog 35 #[.agg #[.bool neg, .string s, .string t]] w fun e w' => e = .returned (.bool false) ∧ Below w.heap.size w w' := by
  have hbb : Below w.heap.size w (w.alloc (.cells #[.bool neg, .string s, .string t] 26)) := (Below.refl _ _).alloc (Nat.le_refl _) _; have hob : Own (w.alloc (.cells #[.bool neg, .string s, .string t] 26)) w.heap.size 26 [.bool neg, .string s, .string t] := Own.new w _ _; have HB := Lib.hid (fun w => both_no s t w hs ht h); clear hs ht h
  go_enter Tryz.func35, Tryz.ntmps35
  go_wp2_with fail
  generalize (w.alloc (.cells #[.bool neg, .string s, .string t] 26)) = wb at hbb hob ⊢; have c1 : wb.cell? ⟨w.heap.size, 1, none⟩ = some (.string s) := hob.cell 1; have c2 : wb.cell? ⟨w.heap.size, 2, none⟩ = some (.string t) := hob.cell 2
  go_wp2_with fail
  refine (HB.out _).mono ?_; rintro e w1 ⟨rfl, rfl⟩
  go_wp2
  go_ret
  exact ⟨rfl, hbb⟩
theorem isratio_yes {x : Rat} (w : World) (h : OkR x) : Calls Tryz.prog 35 #[RV x] w fun e w' => e = .returned (.bool true) ∧ Below w.heap.size w w' := by
  refine (isratio_nat _ _ _ w h.1 h.2).mono ?_; rintro e w' ⟨rfl, hb⟩; refine ⟨ret_bool (decide_eq_true ?_), hb⟩; exact (isR_iff h.1 h.2).1 (isR_RV h)
theorem isratio_no {neg : Bool} {s t : ByteArray} (w : World) (hs : s.size ≤ maxLen) (ht : t.size ≤ maxLen) (h : ¬ IsR neg s t) : Calls Tryz.prog 35 #[.agg #[.bool neg, .string s, .string t]] w fun e w' => e = .returned (.bool false) ∧ Below w.heap.size w w' := by
  by_cases hv : VLD s ∧ VLD t
  · obtain ⟨m, rfl, hm⟩ := vld_is hv.1; obtain ⟨n, rfl, hn⟩ := vld_is hv.2; refine (isratio_nat _ _ _ w hm hn).mono ?_; rintro e w' ⟨rfl, hb⟩; exact ⟨ret_bool (decide_eq_false fun h' => h ((isR_iff hm hn).2 h')), hb⟩
  · exact isratio_bad neg s t w hs ht hv
open Go.RowKit Dg

def noI (v : Value) : Bool := match v with | .int _ _ => false | _ => true
theorem noI_cw {v : Value} (h : noI v = true) (l : List Nat) : v ∉ cw l := by
  intro hm
  simp only [cw, List.mem_map] at hm
  obtain ⟨x, _, rfl⟩ := hm
  cases h
theorem NatV.set3 {w : World} {v : Value} {n g : Nat} {t : TypeId} {a b c : Value} (h : NatV w v n) (ho : Own w g t [a, b, c]) (x y z : Value) (hn : ([a, b, c, x, y, z].all noI) = true) :
    NatV (((w.setCell ⟨g, 0, none⟩ x).setCell ⟨g, 1, none⟩ y).setCell ⟨g, 2, none⟩ z) v n := by
  obtain ⟨A, k, rfl, h1, h2, h3⟩ := h; refine ⟨A, k, rfl, h1, h2, Rd.set3 h3 ho x y z fun v hv => noI_cw ?_ _⟩; exact List.all_eq_true.1 hn v hv
def NumOk (L : Nat) (x : Rat) (w : World) (v : Value) : Prop := ∃ neg v1 v2 a b, v = .agg #[.bool neg, v1, v2] ∧ NatV w v1 a ∧ NatV w v2 b ∧ 0 < b ∧ (dw a).length ≤ L ∧ (dw b).length ≤ L ∧ x = rat neg a b
def PlusPost (x : Rat) (L : Nat) (w : World) (e : Ending) (w' : World) : Prop := (∃ v, e = .returned v ∧ NumOk L x w' v) ∧ Below w.heap.size w w'

theorem plus_any (n1 n2 : Bool) (v1 v2 v3 v4 : Value) (a b c d : Nat) (w : World) (h1 : NatV w v1 a) (h2 : NatV w v2 b) (h3 : NatV w v3 c) (h4 : NatV w v4 d) (hb : 0 < b) (hd : 0 < d)
    (l1 : (dw a).length ≤ 40000) (l2 : (dw b).length ≤ 40000) (l3 : (dw c).length ≤ 40000) (l4 : (dw d).length ≤ 40000) :
    Calls Tryz.prog 23 #[.agg #[.bool n1, v1, v2], .agg #[.bool n2, v3, v4]] w (PlusPost (rat n1 a b + rat n2 c d) 100000 w) := by
  have m1 := dw_mul a d; have m2 := dw_mul c b; have m3 := dw_mul b d; have m4 := dw_add (a * d) (c * b); have m5 : (dw (a * d - c * b)).length ≤ (dw (a * d)).length := dg_mono b32 (Nat.sub_le _ _); have m6 : (dw (c * b - a * d)).length ≤ (dw (c * b)).length := dg_mono b32 (Nat.sub_le _ _); have hbd : 0 < b * d := Nat.mul_pos hb hd; have HB := Lib.hid hb; have HD := Lib.hid hd; have HBD := Lib.hid hbd; have H1 := Lib.hid h1; have H2 := Lib.hid h2; have H3 := Lib.hid h3; have H4 := Lib.hid h4; obtain ⟨A1, k1, rfl, -⟩ := h1; obtain ⟨A2, k2, rfl, -⟩ := h2; obtain ⟨A3, k3, rfl, -⟩ := h3; obtain ⟨A4, k4, rfl, -⟩ := h4; clear hb hd hbd; obtain ⟨o1, o2, o3, hbb⟩ := new3 w [.bool n1, .slice A1 (dw a).length k1, .slice A2 (dw b).length k2] [.bool n2, .slice A3 (dw c).length k3, .slice A4 (dw d).length k4] [.bool false, .slice none 0 0, .slice none 0 0] 47 47 47
  go_enter Tryz.func23, Tryz.ntmps23
  go_upto_region 1 with (fail)
  generalize (((w.alloc (.cells #[.bool n1, .slice A1 (dw a).length k1, .slice A2 (dw b).length k2] 47)).alloc (.cells #[.bool n2, .slice A3 (dw c).length k3, .slice A4 (dw d).length k4] 47)).alloc (.cells #[.bool false, .slice none 0 0, .slice none 0 0] 47)) = wb at o1 o2 o3 hbb ⊢; have N1 := Lib.hid (H1.out.below hbb); have N2 := Lib.hid (H2.out.below hbb); have N3 := Lib.hid (H3.out.below hbb); have N4 := Lib.hid (H4.out.below hbb); clear H1 H2 H3 H4; have c11 : wb.cell? ⟨w.heap.size, 1, none⟩ = some (.slice A1 (dw a).length k1) := o1.cell 1; have c12 : wb.cell? ⟨w.heap.size, 2, none⟩ = some (.slice A2 (dw b).length k2) := o1.cell 2; have c21 : wb.cell? ⟨w.heap.size + 1, 1, none⟩ = some (.slice A3 (dw c).length k3) := o2.cell 1; have c22 : wb.cell? ⟨w.heap.size + 1, 2, none⟩ = some (.slice A4 (dw d).length k4) := o2.cell 2; refine wp_reg_ra [some 8, some 9, some 10, some 11, some 12, some 13, some 14, some 15, some 16, some 17, some 18, some 19, some 20, some 21, some 22, some 5, some 6, some 7] [isV ?v1_0, isV ?v1_1, isV ?v1_2, isV ?v1_3, (fun v w' => NatV w' v (a * d)), isV ?v1_5, isV ?v1_6, isV ?v1_7, isV ?v1_8, (fun v w' => NatV w' v (c * b)), isV ?v1_10, isV ?v1_11, isV ?v1_12, isV ?v1_13, (fun v w' => NatV w' v (b * d)), (fun v w' => NatV w' v (a * d)), (fun v w' => NatV w' v (c * b)), (fun v w' => NatV w' v (b * d))] rfl (by kernel_rfl) rfl rfl ?k1 ⟨?s1_0, ?s1_1, ?s1_2, ?s1_3, ?s1_4, ?s1_5, ?s1_6, ?s1_7, ?s1_8, ?s1_9, ?s1_10, ?s1_11, ?s1_12, ?s1_13, ?s1_14, ?s1_15, ?s1_16, ?s1_17, trivial⟩ ?p1
  case s1_0 =>
    intro t9 w9 hT9 hV9 hO9 K9 hK9; have o9_2 := hO9 2 _ (show List.contains _ _ = false from by kernel_rfl) rfl; clear hV9 hO9; go_simp
    (refine hK9 _ _ (Grow.refl _) ?_; exact rfl)
  case s1_1 =>
    intro t9 w9 hT9 hV9 hO9 K9 hK9; obtain ⟨x9_0, p9_0, q9_0⟩ := hV9.g 0 8 rfl rfl (by kernel_rfl); obtain rfl : x9_0 = ?v1_0 := q9_0; clear hV9 hO9; have d9_0 := grow_cell hT9 c11; have d9_1 := grow_cell hT9 c12; have d9_2 := grow_cell hT9 c21; have d9_3 := grow_cell hT9 c22; go_simp
    (refine hK9 _ _ (Grow.refl _) ?_; exact rfl)
  case s1_2 =>
    intro t9 w9 hT9 hV9 hO9 K9 hK9; have o9_3 := hO9 3 _ (show List.contains _ _ = false from by kernel_rfl) rfl; clear hV9 hO9; go_simp
    (refine hK9 _ _ (Grow.refl _) ?_; exact rfl)
  case s1_3 =>
    intro t9 w9 hT9 hV9 hO9 K9 hK9; obtain ⟨x9_2, p9_2, q9_2⟩ := hV9.g 2 10 rfl rfl (by kernel_rfl); obtain rfl : x9_2 = ?v1_2 := q9_2; clear hV9 hO9; have d9_0 := grow_cell hT9 c11; have d9_1 := grow_cell hT9 c12; have d9_2 := grow_cell hT9 c21; have d9_3 := grow_cell hT9 c22; go_simp
    (refine hK9 _ _ (Grow.refl _) ?_; exact rfl)
  case s1_4 =>
    intro t9 w9 hT9 hV9 hO9 K9 hK9; obtain ⟨x9_1, p9_1, q9_1⟩ := hV9.g 1 9 rfl rfl (by kernel_rfl); obtain rfl : x9_1 = ?v1_1 := q9_1; obtain ⟨x9_3, p9_3, q9_3⟩ := hV9.g 3 11 rfl rfl (by kernel_rfl); obtain rfl : x9_3 = ?v1_3 := q9_3; clear hV9 hO9; go_simp; refine (mul_any _ (N1.out.below hT9.below) (N4.out.below hT9.below) (by omega) (by omega)).mono ?_; rintro _ w8 ⟨v8, rfl, hv8, hb8⟩; exact hK9 _ _ hb8 hv8
  case s1_5 =>
    intro t9 w9 hT9 hV9 hO9 K9 hK9; have o9_3 := hO9 3 _ (show List.contains _ _ = false from by kernel_rfl) rfl; clear hV9 hO9; go_simp
    (refine hK9 _ _ (Grow.refl _) ?_; exact rfl)
  case s1_6 =>
    intro t9 w9 hT9 hV9 hO9 K9 hK9; obtain ⟨x9_5, p9_5, q9_5⟩ := hV9.g 5 13 rfl rfl (by kernel_rfl); obtain rfl : x9_5 = ?v1_5 := q9_5; clear hV9 hO9; have d9_0 := grow_cell hT9 c11; have d9_1 := grow_cell hT9 c12; have d9_2 := grow_cell hT9 c21; have d9_3 := grow_cell hT9 c22; go_simp
    (refine hK9 _ _ (Grow.refl _) ?_; exact rfl)
  case s1_7 =>
    intro t9 w9 hT9 hV9 hO9 K9 hK9; have o9_2 := hO9 2 _ (show List.contains _ _ = false from by kernel_rfl) rfl; clear hV9 hO9; go_simp
    (refine hK9 _ _ (Grow.refl _) ?_; exact rfl)
  case s1_8 =>
    intro t9 w9 hT9 hV9 hO9 K9 hK9; obtain ⟨x9_7, p9_7, q9_7⟩ := hV9.g 7 15 rfl rfl (by kernel_rfl); obtain rfl : x9_7 = ?v1_7 := q9_7; clear hV9 hO9; have d9_0 := grow_cell hT9 c11; have d9_1 := grow_cell hT9 c12; have d9_2 := grow_cell hT9 c21; have d9_3 := grow_cell hT9 c22; go_simp
    (refine hK9 _ _ (Grow.refl _) ?_; exact rfl)
  case s1_9 =>
    intro t9 w9 hT9 hV9 hO9 K9 hK9; obtain ⟨x9_6, p9_6, q9_6⟩ := hV9.g 6 14 rfl rfl (by kernel_rfl); obtain rfl : x9_6 = ?v1_6 := q9_6; obtain ⟨x9_8, p9_8, q9_8⟩ := hV9.g 8 16 rfl rfl (by kernel_rfl); obtain rfl : x9_8 = ?v1_8 := q9_8; clear hV9 hO9; go_simp; refine (mul_any _ (N3.out.below hT9.below) (N2.out.below hT9.below) (by omega) (by omega)).mono ?_; rintro _ w8 ⟨v8, rfl, hv8, hb8⟩; exact hK9 _ _ hb8 hv8
  case s1_10 =>
    intro t9 w9 hT9 hV9 hO9 K9 hK9; have o9_2 := hO9 2 _ (show List.contains _ _ = false from by kernel_rfl) rfl; clear hV9 hO9; go_simp
    (refine hK9 _ _ (Grow.refl _) ?_; exact rfl)
  case s1_11 =>
    intro t9 w9 hT9 hV9 hO9 K9 hK9; obtain ⟨x9_10, p9_10, q9_10⟩ := hV9.g 10 18 rfl rfl (by kernel_rfl); obtain rfl : x9_10 = ?v1_10 := q9_10; clear hV9 hO9; have d9_0 := grow_cell hT9 c11; have d9_1 := grow_cell hT9 c12; have d9_2 := grow_cell hT9 c21; have d9_3 := grow_cell hT9 c22; go_simp
    (refine hK9 _ _ (Grow.refl _) ?_; exact rfl)
  case s1_12 =>
    intro t9 w9 hT9 hV9 hO9 K9 hK9; have o9_3 := hO9 3 _ (show List.contains _ _ = false from by kernel_rfl) rfl; clear hV9 hO9; go_simp
    (refine hK9 _ _ (Grow.refl _) ?_; exact rfl)
  case s1_13 =>
    intro t9 w9 hT9 hV9 hO9 K9 hK9; obtain ⟨x9_12, p9_12, q9_12⟩ := hV9.g 12 20 rfl rfl (by kernel_rfl); obtain rfl : x9_12 = ?v1_12 := q9_12; clear hV9 hO9; have d9_0 := grow_cell hT9 c11; have d9_1 := grow_cell hT9 c12; have d9_2 := grow_cell hT9 c21; have d9_3 := grow_cell hT9 c22; go_simp
    (refine hK9 _ _ (Grow.refl _) ?_; exact rfl)
  case s1_14 =>
    intro t9 w9 hT9 hV9 hO9 K9 hK9; obtain ⟨x9_11, p9_11, q9_11⟩ := hV9.g 11 19 rfl rfl (by kernel_rfl); obtain rfl : x9_11 = ?v1_11 := q9_11; obtain ⟨x9_13, p9_13, q9_13⟩ := hV9.g 13 21 rfl rfl (by kernel_rfl); obtain rfl : x9_13 = ?v1_13 := q9_13; clear hV9 hO9; go_simp; refine (mul_any _ (N2.out.below hT9.below) (N4.out.below hT9.below) (by omega) (by omega)).mono ?_; rintro _ w8 ⟨v8, rfl, hv8, hb8⟩; exact hK9 _ _ hb8 hv8
  case s1_15 =>
    intro t9 w9 hT9 hV9 hO9 K9 hK9; obtain ⟨x9_4, p9_4, q9_4⟩ := hV9.g 4 12 rfl rfl (by kernel_rfl); replace q9_4 : ((fun v w' => NatV w' v (a * d))) x9_4 _ := q9_4; clear hV9 hO9; go_simp; exact hK9 _ _ (Grow.refl _) q9_4
  case s1_16 =>
    intro t9 w9 hT9 hV9 hO9 K9 hK9; obtain ⟨x9_9, p9_9, q9_9⟩ := hV9.g 9 17 rfl rfl (by kernel_rfl); replace q9_9 : ((fun v w' => NatV w' v (c * b))) x9_9 _ := q9_9; clear hV9 hO9; go_simp; exact hK9 _ _ (Grow.refl _) q9_9
  case s1_17 =>
    intro t9 w9 hT9 hV9 hO9 K9 hK9; obtain ⟨x9_14, p9_14, q9_14⟩ := hV9.g 14 22 rfl rfl (by kernel_rfl); replace q9_14 : ((fun v w' => NatV w' v (b * d))) x9_14 _ := q9_14; clear hV9 hO9; go_simp; exact hK9 _ _ (Grow.refl _) q9_14
  case k1 =>
    intro i9 v9 w9 x9 h9 g9
    match i9, h9 with
    | 0, h9 => exact h9
    | 1, h9 => exact h9
    | 2, h9 => exact h9
    | 3, h9 => exact h9
    | 4, h9 => (replace h9 : (fun v w' => NatV w' v (a * d)) v9 w9 := h9); exact NatV.below h9 g9
    | 5, h9 => exact h9
    | 6, h9 => exact h9
    | 7, h9 => exact h9
    | 8, h9 => exact h9
    | 9, h9 => (replace h9 : (fun v w' => NatV w' v (c * b)) v9 w9 := h9); exact NatV.below h9 g9
    | 10, h9 => exact h9
    | 11, h9 => exact h9
    | 12, h9 => exact h9
    | 13, h9 => exact h9
    | 14, h9 => (replace h9 : (fun v w' => NatV w' v (b * d)) v9 w9 := h9); exact NatV.below h9 g9
    | 15, h9 => (replace h9 : (fun v w' => NatV w' v (a * d)) v9 w9 := h9); exact NatV.below h9 g9
    | 16, h9 => (replace h9 : (fun v w' => NatV w' v (c * b)) v9 w9 := h9); exact NatV.below h9 g9
    | 17, h9 => (replace h9 : (fun v w' => NatV w' v (b * d)) v9 w9 := h9); exact NatV.below h9 g9
    | _ + 18, h9 => exact trivial
  intro u9 w9 hE9 hu9; have r9_0 : u9 0 = ?v1_0 := hu9 0 (by decide); have r9_1 : u9 1 = ?v1_1 := hu9 1 (by decide); have r9_2 : u9 2 = ?v1_2 := hu9 2 (by decide); have r9_3 : u9 3 = ?v1_3 := hu9 3 (by decide); have r9_4 : (fun v w' => NatV w' v (a * d)) (u9 4) w9 := hu9 4 (by decide); have r9_5 : u9 5 = ?v1_5 := hu9 5 (by decide); have r9_6 : u9 6 = ?v1_6 := hu9 6 (by decide); have r9_7 : u9 7 = ?v1_7 := hu9 7 (by decide); have r9_8 : u9 8 = ?v1_8 := hu9 8 (by decide); have r9_9 : (fun v w' => NatV w' v (c * b)) (u9 9) w9 := hu9 9 (by decide); have r9_10 : u9 10 = ?v1_10 := hu9 10 (by decide); have r9_11 : u9 11 = ?v1_11 := hu9 11 (by decide); have r9_12 : u9 12 = ?v1_12 := hu9 12 (by decide); have r9_13 : u9 13 = ?v1_13 := hu9 13 (by decide); have r9_14 : (fun v w' => NatV w' v (b * d)) (u9 14) w9 := hu9 14 (by decide); have r9_15 : (fun v w' => NatV w' v (a * d)) (u9 15) w9 := hu9 15 (by decide)
  have r9_16 : (fun v w' => NatV w' v (c * b)) (u9 16) w9 := hu9 16 (by decide); have r9_17 : (fun v w' => NatV w' v (b * d)) (u9 17) w9 := hu9 17 (by decide); clear hu9
  simp only [putAll, Act.put, List.setIfInBounds_toArray, List.set_cons_succ, List.set_cons_zero, List.getD_cons_succ, List.getD_cons_zero, Nat.reduceAdd, Nat.zero_add]
  simp only [r9_0, r9_1, r9_2, r9_3, r9_5, r9_6, r9_7, r9_8, r9_10, r9_11, r9_12, r9_13]
  clear r9_0 r9_1 r9_2 r9_3 r9_5 r9_6 r9_7 r9_8 r9_10 r9_11 r9_12 r9_13; generalize u9 15 = z9_15 at r9_15 ⊢; generalize u9 16 = z9_16 at r9_16 ⊢; generalize u9 17 = z9_17 at r9_17 ⊢; clear N1 N2 N3 N4 c11 c12 c21 c22; replace o1 := o1.below hE9 o1.lt; replace o2 := o2.below hE9 o2.lt; replace o3 := o3.below hE9 o3.lt; replace hbb := below6 hbb hE9; replace r9_15 : NatV w9 z9_15 (a * d) := r9_15; replace r9_16 : NatV w9 z9_16 (c * b) := r9_16; replace r9_17 : NatV w9 z9_17 (b * d) := r9_17; clear hE9; obtain ⟨wc, rfl⟩ : ∃ wc : World, wc = w9 := ⟨_, rfl⟩; have nz5 := r9_15; have nz6 := r9_16; have nz7 := r9_17; obtain ⟨A5, k5, rfl, -⟩ := r9_15; obtain ⟨A6, k6, rfl, -⟩ := r9_16; obtain ⟨A7, k7, rfl, -⟩ := r9_17; have c10 : wc.cell? ⟨w.heap.size, 0, none⟩ = some (.bool n1) := o1.cell 0; have c20 : wc.cell? ⟨w.heap.size + 1, 0, none⟩ = some (.bool n2) := o2.cell 0
  by_cases hn : n1 = n2
  · subst hn; have HQ := Lib.hid (rat_add_same n1 a b c d HB.out HD.out).symm
    go_upto_region 3 with (fail)
    refine wp_reg_st [some 29, some 30, some 31, some 32, some 33, some 34, some 35, none] [isV ?v2_0, isV ?v2_1, isV ?v2_2, isV ?v2_3, (fun v w' => NatV w' v (a * d + c * b)), isV ?v2_5, (fun v w' => ∃ v1, v = .agg #[.bool n1, v1, .slice A7 (dw (b * d)).length k7] ∧ NatV w' v1 (a * d + c * b)), fun _ _ => False] [anyV, anyV, anyV, anyV, anyV, anyV, anyV, anyV] 7 [0, 1, 2, 3, 4, 5, 6] (fun _ => fun w' => ∃ v1, Own w' (w.heap.size + 1 + 1) 47 [.bool n1, v1, .slice A7 (dw (b * d)).length k7] ∧ NatV w' v1 (a * d + c * b) ∧ NatV w' (.slice A7 (dw (b * d)).length k7) (b * d) ∧ Below w.heap.size w w') rfl (by kernel_rfl) rfl rfl (by decide) (by kernel_rfl) (by kernel_rfl) (fun _ _ _ _ h => h) ?k2 ?m2 ⟨?s2_0, ?s2_1, ?s2_2, ?s2_3, ?s2_4, ?s2_5, ?s2_6, ?s2_7, trivial⟩ ?p2
    case s2_0 =>
      rw [if_neg (by decide)]
      constructor
      · rw [if_neg (by decide)]; intro t9 w9 hT9 hV9 hO9 K9 hK9; have o9_2 := hO9 2 _ (.inl (show List.contains _ _ = false from by kernel_rfl)) rfl; clear hV9 hO9; go_simp
        (refine hK9 _ _ (Grow.refl _) ?_; exact rfl)
      · rw [if_pos (by decide)]; trivial
    case s2_1 =>
      rw [if_neg (by decide)]
      constructor
      · rw [if_neg (by decide)]; intro t9 w9 hT9 hV9 hO9 K9 hK9; obtain ⟨x9_0, p9_0, q9_0⟩ := hV9.g 0 29 rfl rfl (by kernel_rfl); obtain rfl : x9_0 = ?v2_0 := q9_0; clear hV9 hO9; have d9_0 := grow_cell hT9 c10; go_simp
        (refine hK9 _ _ (Grow.refl _) ?_; exact rfl)
      · rw [if_pos (by decide)]; trivial
    case s2_2 =>
      rw [if_neg (by decide)]
      constructor
      · rw [if_neg (by decide)]; intro t9 w9 hT9 hV9 hO9 K9 hK9; have o9_5 := hO9 5 _ (.inl (show List.contains _ _ = false from by kernel_rfl)) rfl; clear hV9 hO9; go_simp
        (refine hK9 _ _ (Grow.refl _) ?_; exact rfl)
      · rw [if_pos (by decide)]; trivial
    case s2_3 =>
      rw [if_neg (by decide)]
      constructor
      · rw [if_neg (by decide)]; intro t9 w9 hT9 hV9 hO9 K9 hK9; have o9_6 := hO9 6 _ (.inl (show List.contains _ _ = false from by kernel_rfl)) rfl; clear hV9 hO9; go_simp
        (refine hK9 _ _ (Grow.refl _) ?_; exact rfl)
      · rw [if_pos (by decide)]; trivial
    case s2_4 =>
      rw [if_neg (by decide)]
      constructor
      · rw [if_neg (by decide)]; intro t9 w9 hT9 hV9 hO9 K9 hK9; obtain ⟨x9_2, p9_2, q9_2⟩ := hV9.g 2 31 rfl rfl (by kernel_rfl); obtain rfl : x9_2 = ?v2_2 := q9_2; obtain ⟨x9_3, p9_3, q9_3⟩ := hV9.g 3 32 rfl rfl (by kernel_rfl); obtain rfl : x9_3 = ?v2_3 := q9_3; clear hV9 hO9; go_simp; refine (add_any w9 (nz5.below hT9.below) (nz6.below hT9.below) (by omega) (by omega)).mono ?_; rintro _ w8 ⟨v8, rfl, hv8, hb8⟩; exact hK9 _ _ hb8 hv8
      · rw [if_pos (by decide)]; trivial
    case s2_5 =>
      rw [if_neg (by decide)]
      constructor
      · rw [if_neg (by decide)]; intro t9 w9 hT9 hV9 hO9 K9 hK9; have o9_7 := hO9 7 _ (.inl (show List.contains _ _ = false from by kernel_rfl)) rfl; clear hV9 hO9; go_simp
        (refine hK9 _ _ (Grow.refl _) ?_; exact rfl)
      · rw [if_pos (by decide)]; trivial
    case s2_6 =>
      rw [if_neg (by decide)]
      constructor
      · rw [if_neg (by decide)]; intro t9 w9 hT9 hV9 hO9 K9 hK9; obtain ⟨x9_1, p9_1, q9_1⟩ := hV9.g 1 30 rfl rfl (by kernel_rfl); obtain rfl : x9_1 = ?v2_1 := q9_1; obtain ⟨x9_4, p9_4, q9_4⟩ := hV9.g 4 33 rfl rfl (by kernel_rfl); replace q9_4 : ((fun v w' => NatV w' v (a * d + c * b))) x9_4 _ := q9_4; obtain ⟨x9_5, p9_5, q9_5⟩ := hV9.g 5 34 rfl rfl (by kernel_rfl); obtain rfl : x9_5 = ?v2_5 := q9_5; clear hV9 hO9; have q8 := q9_4; obtain ⟨A8, k8, rfl, -⟩ := q9_4; go_simp; exact hK9 _ _ (Grow.refl _) ⟨_, rfl, q8⟩
      · rw [if_pos (by decide)]; trivial
    case s2_7 =>
      rw [if_pos (by decide)]; intro t9 w9 hT9 hV9 hO9 K9 hK9; obtain ⟨x9_6, p9_6, q9_6⟩ := hV9.g 6 35 (by decide) rfl (by kernel_rfl); replace q9_6 : ((fun v w' => ∃ v1, v = .agg #[.bool n1, v1, .slice A7 (dw (b * d)).length k7] ∧ NatV w' v1 (a * d + c * b))) x9_6 _ := q9_6; obtain ⟨v1, rfl, hv1⟩ := q9_6; have o9_4 := hO9 4 _ (.inl (show List.contains _ _ = false from by kernel_rfl)) rfl; clear hV9 hO9; have HV1 := Lib.hid hv1; obtain ⟨A8, k8, rfl, -⟩ := hv1; have og := o3.below hT9.below o3.lt; have HVD := Lib.hid (NatV.below nz7 hT9.below); obtain ⟨hg0, hg1, hg2⟩ := og.cells3; obtain ⟨hf0, hf1, hf2⟩ := og.frozens3; have HE := Lib.hid (⟨_, og.set3 _ _ _, NatV.set3 HV1.out og _ _ _ rfl, NatV.set3 HVD.out og _ _ _ rfl, Below.set3 (below6 hbb hT9.below) (by omega) _ _ _⟩ : (fun w' => ∃ v1, Own w' (w.heap.size + 1 + 1) 47 [.bool n1, v1, .slice A7 (dw (b * d)).length k7] ∧ NatV w' v1 (a * d + c * b) ∧ NatV w' (.slice A7 (dw (b * d)).length k7) (b * d) ∧ Below w.heap.size w w') _)
      go_simp; exact hK9 undef _ HE.out trivial
    case k2 =>
      intro i9 v9 w9 x9 h9 g9
      match i9, h9 with
      | 0, h9 => exact h9
      | 1, h9 => exact h9
      | 2, h9 => exact h9
      | 3, h9 => exact h9
      | 4, h9 => (replace h9 : (fun v w' => NatV w' v (a * d + c * b)) v9 w9 := h9); exact NatV.below h9 g9
      | 5, h9 => exact h9
      | 6, h9 => (replace h9 : (fun v w' => ∃ v1, v = .agg #[.bool n1, v1, .slice A7 (dw (b * d)).length k7] ∧ NatV w' v1 (a * d + c * b)) v9 w9 := h9); obtain ⟨v1, rfl, h8⟩ := h9; exact ⟨v1, rfl, NatV.below h8 g9⟩
      | 7, h9 => exact h9
      | _ + 8, h9 => exact trivial
    case m2 =>
      intro i9 v9 w9 x9 a s h
      match i9, a, s, h with
      | 0, a, _, _ => exact absurd (by decide) a
      | 1, a, _, _ => exact absurd (by decide) a
      | 2, a, _, _ => exact absurd (by decide) a
      | 3, a, _, _ => exact absurd (by decide) a
      | 4, a, _, _ => exact absurd (by decide) a
      | 5, a, _, _ => exact absurd (by decide) a
      | 6, a, _, _ => exact absurd (by decide) a
      | 7, _, s, _ => exact absurd rfl s
      | _ + 8, _, _, _ => exact trivial
    intro u9 w9 hE9 hu9; obtain ⟨_, r9_0⟩ := (hu9 0 (by decide)).pre (by decide); replace r9_0 : u9 0 = ?v2_0 := r9_0; obtain ⟨_, r9_1⟩ := (hu9 1 (by decide)).pre (by decide); replace r9_1 : u9 1 = ?v2_1 := r9_1; obtain ⟨_, r9_2⟩ := (hu9 2 (by decide)).pre (by decide); replace r9_2 : u9 2 = ?v2_2 := r9_2; obtain ⟨_, r9_3⟩ := (hu9 3 (by decide)).pre (by decide); replace r9_3 : u9 3 = ?v2_3 := r9_3; obtain ⟨_, r9_5⟩ := (hu9 5 (by decide)).pre (by decide); replace r9_5 : u9 5 = ?v2_5 := r9_5; clear hu9; obtain ⟨v1, oz, hv1, hvd, sz⟩ := hE9
    simp only [putAll, Act.put, List.setIfInBounds_toArray, List.set_cons_succ, List.set_cons_zero, List.getD_cons_succ, List.getD_cons_zero, Nat.reduceAdd, Nat.zero_add]
    simp only [r9_0, r9_1, r9_2, r9_3, r9_5]
    clear r9_0 r9_1 r9_2 r9_3 r9_5
    go_wp2_with fail
    have HV1 := Lib.hid hv1; have HVD := Lib.hid hvd; obtain ⟨A8, k8, rfl, -⟩ := hv1; obtain ⟨z0, z1, z2⟩ := oz.cells3; refine bodyPost_ret (v := .agg #[.bool n1, .slice A8 (dw (a * d + c * b)).length k8, .slice A7 (dw (b * d)).length k7]) (by simp [results, Tryz.results23, go_sem, z0, z1, z2]) rfl ⟨⟨_, rfl, ?_⟩, sz⟩; exact ⟨_, _, _, _, _, rfl, HV1.out, HVD.out, HBD.out, by omega, by omega, HQ.out⟩
  · obtain rfl : n2 = !n1 := by cases n1 <;> cases n2 <;> simp_all
    clear hn; have hnb : (n1 == !n1) = false := by cases n1 <;> rfl
    by_cases hle : c * b ≤ a * d
    · have HQ := Lib.hid (rat_sub_ge n1 a b c d HB.out HD.out hle).symm; have HLE := Lib.hid hle; have t1 : decide ((0 : Int) ≤ cmpI (a * d) (c * b)) = true := by
        apply decide_eq_true
        unfold cmpI; rw [if_neg (by omega)]; split <;> omega
      clear hle
      go_wp2_with fail
      refine (cmp_any _ nz5 nz6).mono ?_; rintro e wd ⟨rfl, hb2⟩; replace nz5 := nz5.below hb2; replace nz6 := nz6.below hb2; replace nz7 := nz7.below hb2; replace o1 := o1.below hb2 o1.lt; replace o2 := o2.below hb2 o2.lt; replace o3 := o3.below hb2 o3.lt; replace hbb := below6 hbb hb2; clear c10 c20 hb2; have c10 : wd.cell? ⟨w.heap.size, 0, none⟩ = some (.bool n1) := o1.cell 0
      go_upto_region 5 with (fail)
      refine wp_reg_st [some 41, some 42, some 43, some 44, some 45, some 46, some 47, none] [isV ?v3_0, isV ?v3_1, isV ?v3_2, isV ?v3_3, (fun v w' => NatV w' v (a * d - c * b)), isV ?v3_5, (fun v w' => ∃ v1, v = .agg #[.bool n1, v1, .slice A7 (dw (b * d)).length k7] ∧ NatV w' v1 (a * d - c * b)), fun _ _ => False] [anyV, anyV, anyV, anyV, anyV, anyV, anyV, anyV] 7 [0, 1, 2, 3, 4, 5, 6] (fun _ => fun w' => ∃ v1, Own w' (w.heap.size + 1 + 1) 47 [.bool n1, v1, .slice A7 (dw (b * d)).length k7] ∧ NatV w' v1 (a * d - c * b) ∧ NatV w' (.slice A7 (dw (b * d)).length k7) (b * d) ∧ Below w.heap.size w w') rfl (by kernel_rfl) rfl rfl (by decide) (by kernel_rfl) (by kernel_rfl) (fun _ _ _ _ h => h) ?k3 ?m3 ⟨?s3_0, ?s3_1, ?s3_2, ?s3_3, ?s3_4, ?s3_5, ?s3_6, ?s3_7, trivial⟩ ?p3
      case s3_0 =>
        rw [if_neg (by decide)]
        constructor
        · rw [if_neg (by decide)]; intro t9 w9 hT9 hV9 hO9 K9 hK9; have o9_2 := hO9 2 _ (.inl (show List.contains _ _ = false from by kernel_rfl)) rfl; clear hV9 hO9; go_simp
          (refine hK9 _ _ (Grow.refl _) ?_; exact rfl)
        · rw [if_pos (by decide)]; trivial
      case s3_1 =>
        rw [if_neg (by decide)]
        constructor
        · rw [if_neg (by decide)]; intro t9 w9 hT9 hV9 hO9 K9 hK9; obtain ⟨x9_0, p9_0, q9_0⟩ := hV9.g 0 41 rfl rfl (by kernel_rfl); obtain rfl : x9_0 = ?v3_0 := q9_0; clear hV9 hO9; have d9_0 := grow_cell hT9 c10; go_simp
          (refine hK9 _ _ (Grow.refl _) ?_; exact rfl)
        · rw [if_pos (by decide)]; trivial
      case s3_2 =>
        rw [if_neg (by decide)]
        constructor
        · rw [if_neg (by decide)]; intro t9 w9 hT9 hV9 hO9 K9 hK9; have o9_5 := hO9 5 _ (.inl (show List.contains _ _ = false from by kernel_rfl)) rfl; clear hV9 hO9; go_simp
          (refine hK9 _ _ (Grow.refl _) ?_; exact rfl)
        · rw [if_pos (by decide)]; trivial
      case s3_3 =>
        rw [if_neg (by decide)]
        constructor
        · rw [if_neg (by decide)]; intro t9 w9 hT9 hV9 hO9 K9 hK9; have o9_6 := hO9 6 _ (.inl (show List.contains _ _ = false from by kernel_rfl)) rfl; clear hV9 hO9; go_simp
          (refine hK9 _ _ (Grow.refl _) ?_; exact rfl)
        · rw [if_pos (by decide)]; trivial
      case s3_4 =>
        rw [if_neg (by decide)]
        constructor
        · rw [if_neg (by decide)]; intro t9 w9 hT9 hV9 hO9 K9 hK9; obtain ⟨x9_2, p9_2, q9_2⟩ := hV9.g 2 43 rfl rfl (by kernel_rfl); obtain rfl : x9_2 = ?v3_2 := q9_2; obtain ⟨x9_3, p9_3, q9_3⟩ := hV9.g 3 44 rfl rfl (by kernel_rfl); obtain rfl : x9_3 = ?v3_3 := q9_3; clear hV9 hO9; go_simp; refine (sub_any w9 (nz5.below hT9.below) (nz6.below hT9.below) (by omega) HLE.out).mono ?_; rintro _ w8 ⟨v8, rfl, hv8, hb8⟩; exact hK9 _ _ hb8 hv8
        · rw [if_pos (by decide)]; trivial
      case s3_5 =>
        rw [if_neg (by decide)]
        constructor
        · rw [if_neg (by decide)]; intro t9 w9 hT9 hV9 hO9 K9 hK9; have o9_7 := hO9 7 _ (.inl (show List.contains _ _ = false from by kernel_rfl)) rfl; clear hV9 hO9; go_simp
          (refine hK9 _ _ (Grow.refl _) ?_; exact rfl)
        · rw [if_pos (by decide)]; trivial
      case s3_6 =>
        rw [if_neg (by decide)]
        constructor
        · rw [if_neg (by decide)]; intro t9 w9 hT9 hV9 hO9 K9 hK9; obtain ⟨x9_1, p9_1, q9_1⟩ := hV9.g 1 42 rfl rfl (by kernel_rfl); obtain rfl : x9_1 = ?v3_1 := q9_1; obtain ⟨x9_4, p9_4, q9_4⟩ := hV9.g 4 45 rfl rfl (by kernel_rfl); replace q9_4 : ((fun v w' => NatV w' v (a * d - c * b))) x9_4 _ := q9_4; obtain ⟨x9_5, p9_5, q9_5⟩ := hV9.g 5 46 rfl rfl (by kernel_rfl); obtain rfl : x9_5 = ?v3_5 := q9_5; clear hV9 hO9; have q8 := q9_4; obtain ⟨A8, k8, rfl, -⟩ := q9_4; go_simp; exact hK9 _ _ (Grow.refl _) ⟨_, rfl, q8⟩
        · rw [if_pos (by decide)]; trivial
      case s3_7 =>
        rw [if_pos (by decide)]; intro t9 w9 hT9 hV9 hO9 K9 hK9; obtain ⟨x9_6, p9_6, q9_6⟩ := hV9.g 6 47 (by decide) rfl (by kernel_rfl); replace q9_6 : ((fun v w' => ∃ v1, v = .agg #[.bool n1, v1, .slice A7 (dw (b * d)).length k7] ∧ NatV w' v1 (a * d - c * b))) x9_6 _ := q9_6; obtain ⟨v1, rfl, hv1⟩ := q9_6; have o9_4 := hO9 4 _ (.inl (show List.contains _ _ = false from by kernel_rfl)) rfl; clear hV9 hO9; have HV1 := Lib.hid hv1; obtain ⟨A8, k8, rfl, -⟩ := hv1; have og := o3.below hT9.below o3.lt; have HVD := Lib.hid (NatV.below nz7 hT9.below); obtain ⟨hg0, hg1, hg2⟩ := og.cells3; obtain ⟨hf0, hf1, hf2⟩ := og.frozens3; have HE := Lib.hid (⟨_, og.set3 _ _ _, NatV.set3 HV1.out og _ _ _ rfl, NatV.set3 HVD.out og _ _ _ rfl, Below.set3 (below6 hbb hT9.below) (by omega) _ _ _⟩ : (fun w' => ∃ v1, Own w' (w.heap.size + 1 + 1) 47 [.bool n1, v1, .slice A7 (dw (b * d)).length k7] ∧ NatV w' v1 (a * d - c * b) ∧ NatV w' (.slice A7 (dw (b * d)).length k7) (b * d) ∧ Below w.heap.size w w') _)
        go_simp; exact hK9 undef _ HE.out trivial
      case k3 =>
        intro i9 v9 w9 x9 h9 g9
        match i9, h9 with
        | 0, h9 => exact h9
        | 1, h9 => exact h9
        | 2, h9 => exact h9
        | 3, h9 => exact h9
        | 4, h9 => (replace h9 : (fun v w' => NatV w' v (a * d - c * b)) v9 w9 := h9); exact NatV.below h9 g9
        | 5, h9 => exact h9
        | 6, h9 => (replace h9 : (fun v w' => ∃ v1, v = .agg #[.bool n1, v1, .slice A7 (dw (b * d)).length k7] ∧ NatV w' v1 (a * d - c * b)) v9 w9 := h9); obtain ⟨v1, rfl, h8⟩ := h9; exact ⟨v1, rfl, NatV.below h8 g9⟩
        | 7, h9 => exact h9
        | _ + 8, h9 => exact trivial
      case m3 =>
        intro i9 v9 w9 x9 a s h
        match i9, a, s, h with
        | 0, a, _, _ => exact absurd (by decide) a
        | 1, a, _, _ => exact absurd (by decide) a
        | 2, a, _, _ => exact absurd (by decide) a
        | 3, a, _, _ => exact absurd (by decide) a
        | 4, a, _, _ => exact absurd (by decide) a
        | 5, a, _, _ => exact absurd (by decide) a
        | 6, a, _, _ => exact absurd (by decide) a
        | 7, _, s, _ => exact absurd rfl s
        | _ + 8, _, _, _ => exact trivial
      intro u9 w9 hE9 hu9; obtain ⟨_, r9_0⟩ := (hu9 0 (by decide)).pre (by decide); replace r9_0 : u9 0 = ?v3_0 := r9_0; obtain ⟨_, r9_1⟩ := (hu9 1 (by decide)).pre (by decide); replace r9_1 : u9 1 = ?v3_1 := r9_1; obtain ⟨_, r9_2⟩ := (hu9 2 (by decide)).pre (by decide); replace r9_2 : u9 2 = ?v3_2 := r9_2; obtain ⟨_, r9_3⟩ := (hu9 3 (by decide)).pre (by decide); replace r9_3 : u9 3 = ?v3_3 := r9_3; obtain ⟨_, r9_5⟩ := (hu9 5 (by decide)).pre (by decide); replace r9_5 : u9 5 = ?v3_5 := r9_5; clear hu9; obtain ⟨v1, oz, hv1, hvd, sz⟩ := hE9
      simp only [putAll, Act.put, List.setIfInBounds_toArray, List.set_cons_succ, List.set_cons_zero, List.getD_cons_succ, List.getD_cons_zero, Nat.reduceAdd, Nat.zero_add]
      simp only [r9_0, r9_1, r9_2, r9_3, r9_5]
      clear r9_0 r9_1 r9_2 r9_3 r9_5
      go_wp2_with fail
      have HV1 := Lib.hid hv1; have HVD := Lib.hid hvd; obtain ⟨A8, k8, rfl, -⟩ := hv1; obtain ⟨z0, z1, z2⟩ := oz.cells3; refine bodyPost_ret (v := .agg #[.bool n1, .slice A8 (dw (a * d - c * b)).length k8, .slice A7 (dw (b * d)).length k7]) (by simp [results, Tryz.results23, go_sem, z0, z1, z2]) rfl ⟨⟨_, rfl, ?_⟩, sz⟩; exact ⟨_, _, _, _, _, rfl, HV1.out, HVD.out, HBD.out, by omega, by omega, HQ.out⟩
    · have hlt : a * d < c * b := by omega
      have HQ := Lib.hid (rat_sub_lt n1 a b c d HB.out HD.out (by omega)).symm; have HLE := Lib.hid (show a * d ≤ c * b by omega); have t1 : decide ((0 : Int) ≤ cmpI (a * d) (c * b)) = false := by
        apply decide_eq_false
        unfold cmpI; rw [if_pos hlt]; omega
      clear hle hlt
      go_wp2_with fail
      refine (cmp_any _ nz5 nz6).mono ?_; rintro e wd ⟨rfl, hb2⟩; replace nz5 := nz5.below hb2; replace nz6 := nz6.below hb2; replace nz7 := nz7.below hb2; replace o1 := o1.below hb2 o1.lt; replace o2 := o2.below hb2 o2.lt; replace o3 := o3.below hb2 o3.lt; replace hbb := below6 hbb hb2; clear c10 c20 hb2; have c20 : wd.cell? ⟨w.heap.size + 1, 0, none⟩ = some (.bool (!n1)) := o2.cell 0
      go_upto_region 6 with (fail)
      refine wp_reg_st [some 48, some 49, some 50, some 51, some 52, some 53, some 54, none] [isV ?v4_0, isV ?v4_1, isV ?v4_2, isV ?v4_3, (fun v w' => NatV w' v (c * b - a * d)), isV ?v4_5, (fun v w' => ∃ v1, v = .agg #[.bool (!n1), v1, .slice A7 (dw (b * d)).length k7] ∧ NatV w' v1 (c * b - a * d)), fun _ _ => False] [anyV, anyV, anyV, anyV, anyV, anyV, anyV, anyV] 7 [0, 1, 2, 3, 4, 5, 6] (fun _ => fun w' => ∃ v1, Own w' (w.heap.size + 1 + 1) 47 [.bool (!n1), v1, .slice A7 (dw (b * d)).length k7] ∧ NatV w' v1 (c * b - a * d) ∧ NatV w' (.slice A7 (dw (b * d)).length k7) (b * d) ∧ Below w.heap.size w w') rfl (by kernel_rfl) rfl rfl (by decide) (by kernel_rfl) (by kernel_rfl) (fun _ _ _ _ h => h) ?k4 ?m4 ⟨?s4_0, ?s4_1, ?s4_2, ?s4_3, ?s4_4, ?s4_5, ?s4_6, ?s4_7, trivial⟩ ?p4
      case s4_0 =>
        rw [if_neg (by decide)]
        constructor
        · rw [if_neg (by decide)]; intro t9 w9 hT9 hV9 hO9 K9 hK9; have o9_3 := hO9 3 _ (.inl (show List.contains _ _ = false from by kernel_rfl)) rfl; clear hV9 hO9; go_simp
          (refine hK9 _ _ (Grow.refl _) ?_; exact rfl)
        · rw [if_pos (by decide)]; trivial
      case s4_1 =>
        rw [if_neg (by decide)]
        constructor
        · rw [if_neg (by decide)]; intro t9 w9 hT9 hV9 hO9 K9 hK9; obtain ⟨x9_0, p9_0, q9_0⟩ := hV9.g 0 48 rfl rfl (by kernel_rfl); obtain rfl : x9_0 = ?v4_0 := q9_0; clear hV9 hO9; have d9_0 := grow_cell hT9 c20; go_simp
          (refine hK9 _ _ (Grow.refl _) ?_; exact rfl)
        · rw [if_pos (by decide)]; trivial
      case s4_2 =>
        rw [if_neg (by decide)]
        constructor
        · rw [if_neg (by decide)]; intro t9 w9 hT9 hV9 hO9 K9 hK9; have o9_6 := hO9 6 _ (.inl (show List.contains _ _ = false from by kernel_rfl)) rfl; clear hV9 hO9; go_simp
          (refine hK9 _ _ (Grow.refl _) ?_; exact rfl)
        · rw [if_pos (by decide)]; trivial
      case s4_3 =>
        rw [if_neg (by decide)]
        constructor
        · rw [if_neg (by decide)]; intro t9 w9 hT9 hV9 hO9 K9 hK9; have o9_5 := hO9 5 _ (.inl (show List.contains _ _ = false from by kernel_rfl)) rfl; clear hV9 hO9; go_simp
          (refine hK9 _ _ (Grow.refl _) ?_; exact rfl)
        · rw [if_pos (by decide)]; trivial
      case s4_4 =>
        rw [if_neg (by decide)]
        constructor
        · rw [if_neg (by decide)]; intro t9 w9 hT9 hV9 hO9 K9 hK9; obtain ⟨x9_2, p9_2, q9_2⟩ := hV9.g 2 50 rfl rfl (by kernel_rfl); obtain rfl : x9_2 = ?v4_2 := q9_2; obtain ⟨x9_3, p9_3, q9_3⟩ := hV9.g 3 51 rfl rfl (by kernel_rfl); obtain rfl : x9_3 = ?v4_3 := q9_3; clear hV9 hO9; go_simp; refine (sub_any w9 (nz6.below hT9.below) (nz5.below hT9.below) (by omega) HLE.out).mono ?_; rintro _ w8 ⟨v8, rfl, hv8, hb8⟩; exact hK9 _ _ hb8 hv8
        · rw [if_pos (by decide)]; trivial
      case s4_5 =>
        rw [if_neg (by decide)]
        constructor
        · rw [if_neg (by decide)]; intro t9 w9 hT9 hV9 hO9 K9 hK9; have o9_7 := hO9 7 _ (.inl (show List.contains _ _ = false from by kernel_rfl)) rfl; clear hV9 hO9; go_simp
          (refine hK9 _ _ (Grow.refl _) ?_; exact rfl)
        · rw [if_pos (by decide)]; trivial
      case s4_6 =>
        rw [if_neg (by decide)]
        constructor
        · rw [if_neg (by decide)]; intro t9 w9 hT9 hV9 hO9 K9 hK9; obtain ⟨x9_1, p9_1, q9_1⟩ := hV9.g 1 49 rfl rfl (by kernel_rfl); obtain rfl : x9_1 = ?v4_1 := q9_1; obtain ⟨x9_4, p9_4, q9_4⟩ := hV9.g 4 52 rfl rfl (by kernel_rfl); replace q9_4 : ((fun v w' => NatV w' v (c * b - a * d))) x9_4 _ := q9_4; obtain ⟨x9_5, p9_5, q9_5⟩ := hV9.g 5 53 rfl rfl (by kernel_rfl); obtain rfl : x9_5 = ?v4_5 := q9_5; clear hV9 hO9; have q8 := q9_4; obtain ⟨A8, k8, rfl, -⟩ := q9_4; go_simp; exact hK9 _ _ (Grow.refl _) ⟨_, rfl, q8⟩
        · rw [if_pos (by decide)]; trivial
      case s4_7 =>
        rw [if_pos (by decide)]; intro t9 w9 hT9 hV9 hO9 K9 hK9; obtain ⟨x9_6, p9_6, q9_6⟩ := hV9.g 6 54 (by decide) rfl (by kernel_rfl); replace q9_6 : ((fun v w' => ∃ v1, v = .agg #[.bool (!n1), v1, .slice A7 (dw (b * d)).length k7] ∧ NatV w' v1 (c * b - a * d))) x9_6 _ := q9_6; obtain ⟨v1, rfl, hv1⟩ := q9_6; have o9_4 := hO9 4 _ (.inl (show List.contains _ _ = false from by kernel_rfl)) rfl; clear hV9 hO9; have HV1 := Lib.hid hv1; obtain ⟨A8, k8, rfl, -⟩ := hv1; have og := o3.below hT9.below o3.lt; have HVD := Lib.hid (NatV.below nz7 hT9.below); obtain ⟨hg0, hg1, hg2⟩ := og.cells3; obtain ⟨hf0, hf1, hf2⟩ := og.frozens3; have HE := Lib.hid (⟨_, og.set3 _ _ _, NatV.set3 HV1.out og _ _ _ rfl, NatV.set3 HVD.out og _ _ _ rfl, Below.set3 (below6 hbb hT9.below) (by omega) _ _ _⟩ : (fun w' => ∃ v1, Own w' (w.heap.size + 1 + 1) 47 [.bool (!n1), v1, .slice A7 (dw (b * d)).length k7] ∧ NatV w' v1 (c * b - a * d) ∧ NatV w' (.slice A7 (dw (b * d)).length k7) (b * d) ∧ Below w.heap.size w w') _)
        go_simp; exact hK9 undef _ HE.out trivial
      case k4 =>
        intro i9 v9 w9 x9 h9 g9
        match i9, h9 with
        | 0, h9 => exact h9
        | 1, h9 => exact h9
        | 2, h9 => exact h9
        | 3, h9 => exact h9
        | 4, h9 => (replace h9 : (fun v w' => NatV w' v (c * b - a * d)) v9 w9 := h9); exact NatV.below h9 g9
        | 5, h9 => exact h9
        | 6, h9 => (replace h9 : (fun v w' => ∃ v1, v = .agg #[.bool (!n1), v1, .slice A7 (dw (b * d)).length k7] ∧ NatV w' v1 (c * b - a * d)) v9 w9 := h9); obtain ⟨v1, rfl, h8⟩ := h9; exact ⟨v1, rfl, NatV.below h8 g9⟩
        | 7, h9 => exact h9
        | _ + 8, h9 => exact trivial
      case m4 =>
        intro i9 v9 w9 x9 a s h
        match i9, a, s, h with
        | 0, a, _, _ => exact absurd (by decide) a
        | 1, a, _, _ => exact absurd (by decide) a
        | 2, a, _, _ => exact absurd (by decide) a
        | 3, a, _, _ => exact absurd (by decide) a
        | 4, a, _, _ => exact absurd (by decide) a
        | 5, a, _, _ => exact absurd (by decide) a
        | 6, a, _, _ => exact absurd (by decide) a
        | 7, _, s, _ => exact absurd rfl s
        | _ + 8, _, _, _ => exact trivial
      intro u9 w9 hE9 hu9; obtain ⟨_, r9_0⟩ := (hu9 0 (by decide)).pre (by decide); replace r9_0 : u9 0 = ?v4_0 := r9_0; obtain ⟨_, r9_1⟩ := (hu9 1 (by decide)).pre (by decide); replace r9_1 : u9 1 = ?v4_1 := r9_1; obtain ⟨_, r9_2⟩ := (hu9 2 (by decide)).pre (by decide); replace r9_2 : u9 2 = ?v4_2 := r9_2; obtain ⟨_, r9_3⟩ := (hu9 3 (by decide)).pre (by decide); replace r9_3 : u9 3 = ?v4_3 := r9_3; obtain ⟨_, r9_5⟩ := (hu9 5 (by decide)).pre (by decide); replace r9_5 : u9 5 = ?v4_5 := r9_5; clear hu9; obtain ⟨v1, oz, hv1, hvd, sz⟩ := hE9
      simp only [putAll, Act.put, List.setIfInBounds_toArray, List.set_cons_succ, List.set_cons_zero, List.getD_cons_succ, List.getD_cons_zero, Nat.reduceAdd, Nat.zero_add]
      simp only [r9_0, r9_1, r9_2, r9_3, r9_5]
      clear r9_0 r9_1 r9_2 r9_3 r9_5
      go_wp2_with fail
      have HV1 := Lib.hid hv1; have HVD := Lib.hid hvd; obtain ⟨A8, k8, rfl, -⟩ := hv1; obtain ⟨z0, z1, z2⟩ := oz.cells3; refine bodyPost_ret (v := .agg #[.bool (!n1), .slice A8 (dw (c * b - a * d)).length k8, .slice A7 (dw (b * d)).length k7]) (by simp [results, Tryz.results23, go_sem, z0, z1, z2]) rfl ⟨⟨_, rfl, ?_⟩, sz⟩; exact ⟨_, _, _, _, _, rfl, HV1.out, HVD.out, HBD.out, by omega, by omega, HQ.out⟩
end Go.Proofs.YtffldjghdcfpiaaGreatDoor
