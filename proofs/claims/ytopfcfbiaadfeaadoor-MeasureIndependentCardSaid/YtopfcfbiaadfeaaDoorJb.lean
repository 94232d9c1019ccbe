/- The reference's Add, Mul, Quo, Compare. -/
import Derived.Test.YtopfcfbiaadfeaaDoorJa
import Derived.Test.YtopfcfbiaadfeaaDoorIf
namespace Go.Proofs.YtopfcfbiaadfeaaDoor
set_option linter.unusedSimpArgs false
set_option linter.unusedVariables false
set_option linter.unusedSectionVars false
open Go.RowKit Dg

def BigOf (s : ByteArray) (n : Nat) : Prop := ∀ w, Calls Tryd.prog 67 #[.string s] w fun e w' => ∃ v, e = .returned v ∧ BigV w' v n ∧ Below w.heap.size w w'
def IsYes (v : Value) : Prop := ∀ w, Calls Tryd.prog 42 #[v] w fun e w' => e = .returned (.bool true) ∧ Below w.heap.size w w'
def IsNo (v : Value) : Prop := ∀ w, Calls Tryd.prog 42 #[v] w fun e w' => e = .returned (.bool false) ∧ Below w.heap.size w w'
theorem dk_add (m n : Nat) : (dk (m + n)).length ≤ max (dk m).length (dk n).length + 1 := dg_add_len b10k m n
theorem dk_mul (m n : Nat) : (dk (m * n)).length ≤ (dk m).length + (dk n).length := dg_mul_len b10k m n
theorem dk_len_pos {n : Nat} (h : 0 < n) : 0 < (dk n).length := List.length_pos_iff.2 fun e => by have := (dg_nil b10k).1 e; omega
set_option maxRecDepth 100000 in
set_option maxHeartbeats 4000000 in
theorem cmp_ref1 (n1 n2 : Bool) (s1 t1 s2 t2 : ByteArray) (i1 : IsNo (.agg #[.bool n1, .string s1, .string t1])) (w : World) :
    Calls Tryd.prog 43 #[.agg #[.bool n1, .string s1, .string t1], .agg #[.bool n2, .string s2, .string t2]] w fun e w' => e = .returned (.int .i64 0) ∧ Below w.heap.size w w' := by
  have I1 := Lib.hid i1
  clear i1
  obtain ⟨o1, o2, hbw⟩ := new2 w [.bool n1, .string s1, .string t1] [.bool n2, .string s2, .string t2] 29 29
  go_enter Tryd.func43, Tryd.ntmps43
  go_upto_region 1 with (fail)
  generalize ((w.alloc (.cells #[.bool n1, .string s1, .string t1] 29)).alloc (.cells #[.bool n2, .string s2, .string t2] 29)) = wb at o1 o2 hbw ⊢
  have c10 : wb.cell? ⟨w.heap.size, 0, none⟩ = some (.bool n1) := o1.cell 0
  have c11 : wb.cell? ⟨w.heap.size, 1, none⟩ = some (.string s1) := o1.cell 1
  have c12 : wb.cell? ⟨w.heap.size, 2, none⟩ = some (.string t1) := o1.cell 2
  have c20 : wb.cell? ⟨w.heap.size + 1, 0, none⟩ = some (.bool n2) := o2.cell 0
  have c21 : wb.cell? ⟨w.heap.size + 1, 1, none⟩ = some (.string s2) := o2.cell 1
  have c22 : wb.cell? ⟨w.heap.size + 1, 2, none⟩ = some (.string t2) := o2.cell 2
  go_wp2_with fail
  refine (I1.out _).mono ?_
  rintro e wc ⟨rfl, hb1⟩
  clear c10 c11 c12 c20 c21 c22
  replace o1 := o1.below hb1 o1.lt
  replace o2 := o2.below hb1 o2.lt
  replace hbw := below6 hbw hb1
  clear hb1
  go_wp2
  go_ret
  exact ⟨rfl, hbw⟩
set_option maxRecDepth 100000 in
set_option maxHeartbeats 4000000 in
theorem cmp_ref2 (n1 n2 : Bool) (s1 t1 s2 t2 : ByteArray) (i1 : IsYes (.agg #[.bool n1, .string s1, .string t1])) (i2 : IsNo (.agg #[.bool n2, .string s2, .string t2])) (w : World) :
    Calls Tryd.prog 43 #[.agg #[.bool n1, .string s1, .string t1], .agg #[.bool n2, .string s2, .string t2]] w fun e w' => e = .returned (.int .i64 0) ∧ Below w.heap.size w w' := by
  have I1 := Lib.hid i1
  have I2 := Lib.hid i2
  clear i1 i2
  obtain ⟨o1, o2, hbw⟩ := new2 w [.bool n1, .string s1, .string t1] [.bool n2, .string s2, .string t2] 29 29
  go_enter Tryd.func43, Tryd.ntmps43
  go_upto_region 1 with (fail)
  generalize ((w.alloc (.cells #[.bool n1, .string s1, .string t1] 29)).alloc (.cells #[.bool n2, .string s2, .string t2] 29)) = wb at o1 o2 hbw ⊢
  have c10 : wb.cell? ⟨w.heap.size, 0, none⟩ = some (.bool n1) := o1.cell 0
  have c11 : wb.cell? ⟨w.heap.size, 1, none⟩ = some (.string s1) := o1.cell 1
  have c12 : wb.cell? ⟨w.heap.size, 2, none⟩ = some (.string t1) := o1.cell 2
  have c20 : wb.cell? ⟨w.heap.size + 1, 0, none⟩ = some (.bool n2) := o2.cell 0
  have c21 : wb.cell? ⟨w.heap.size + 1, 1, none⟩ = some (.string s2) := o2.cell 1
  have c22 : wb.cell? ⟨w.heap.size + 1, 2, none⟩ = some (.string t2) := o2.cell 2
  go_wp2_with fail
  refine (I1.out _).mono ?_
  rintro e wc ⟨rfl, hb1⟩
  clear c10 c11 c12 c20 c21 c22
  replace o1 := o1.below hb1 o1.lt
  replace o2 := o2.below hb1 o2.lt
  replace hbw := below6 hbw hb1
  clear hb1
  have c10 : wc.cell? ⟨w.heap.size, 0, none⟩ = some (.bool n1) := o1.cell 0
  have c11 : wc.cell? ⟨w.heap.size, 1, none⟩ = some (.string s1) := o1.cell 1
  have c12 : wc.cell? ⟨w.heap.size, 2, none⟩ = some (.string t1) := o1.cell 2
  have c20 : wc.cell? ⟨w.heap.size + 1, 0, none⟩ = some (.bool n2) := o2.cell 0
  have c21 : wc.cell? ⟨w.heap.size + 1, 1, none⟩ = some (.string s2) := o2.cell 1
  have c22 : wc.cell? ⟨w.heap.size + 1, 2, none⟩ = some (.string t2) := o2.cell 2
  go_wp2_with fail
  refine (I2.out _).mono ?_
  rintro e wd ⟨rfl, hb2⟩
  clear c10 c11 c12 c20 c21 c22
  replace o1 := o1.below hb2 o1.lt
  replace o2 := o2.below hb2 o2.lt
  replace hbw := below6 hbw hb2
  clear hb2
  go_wp2
  go_ret
  exact ⟨rfl, hbw⟩
theorem cmpR_sgn (x y : Rat) (a b c d : Nat) (n1 n2 : Bool) (hx : x = rat n1 a b) (hy : y = rat n2 c d) (hb : 0 < b) (hd : 0 < d) (h1 : ¬ (n1 = true ∧ a = 0)) (h2 : ¬ (n2 = true ∧ c = 0)) :
    (n1 = true → n2 = false → cmpR x y = -1) ∧ (n1 = false → n2 = true → cmpR x y = 1) ∧ (n1 = false → n2 = false → cmpR x y = cmpI (a * d) (c * b)) ∧ (n1 = true → n2 = true → cmpR x y = -cmpI (a * d) (c * b)) := by
  have key : ∀ m n : Bool, x = rat m a b → y = rat n c d → (x < y ↔ (if m then -(a : Int) else a) * d < (if n then -(c : Int) else c) * b) ∧ (x = y ↔ (if m then -(a : Int) else a) * d = (if n then -(c : Int) else c) * b) := by
    intro m n hx hy
    have hb' : (0 : Int) < b := by omega
    have hd' : (0 : Int) < d := by omega
    constructor
    · rw [hx, hy]
      unfold rat
      rw [Rat.mkRat_eq_div, Rat.mkRat_eq_div]
      have hb9 : (0 : Rat) < (b : Rat) := Rat.natCast_pos.2 hb
      have hd9 : (0 : Rat) < (d : Rat) := Rat.natCast_pos.2 hd
      rw [Rat.div_lt_iff hb9]
      have e : ∀ p q r : Rat, p / q * r = p * r / q := by intro p q r; rw [Rat.div_def, Rat.div_def, Rat.mul_assoc, Rat.mul_comm q⁻¹, ← Rat.mul_assoc]
      rw [e, Rat.lt_div_iff hd9]
      generalize (if m then -(a : Int) else (a : Int)) = p
      generalize (if n then -(c : Int) else (c : Int)) = q
      have e1 : (p : Rat) * (d : Rat) = ((p * d : Int) : Rat) := by rw [Rat.intCast_mul]; rfl
      have e2 : (q : Rat) * (b : Rat) = ((q * b : Int) : Rat) := by rw [Rat.intCast_mul]; rfl
      rw [e1, e2, Rat.intCast_lt_intCast]
    · rw [hx, hy]
      unfold rat
      rw [Rat.mkRat_eq_iff (by omega) (by omega)]
  have pa : (0 : Int) ≤ (a : Int) * d := Int.mul_nonneg (by omega) (by omega)
  have pc : (0 : Int) ≤ (c : Int) * b := Int.mul_nonneg (by omega) (by omega)
  have e1 : ((a * d : Nat) : Int) = (a : Int) * d := by simp
  have e2 : ((c * b : Nat) : Int) = (c : Int) * b := by simp
  refine ⟨fun g1 g2 => ?_, fun g1 g2 => ?_, fun g1 g2 => ?_, fun g1 g2 => ?_⟩
  · subst g1; subst g2
    obtain ⟨k1, k2⟩ := key true false hx hy
    have h0 : 0 < a := by rcases Nat.eq_zero_or_pos a with e | e; exact absurd ⟨rfl, e⟩ h1; exact e
    have h3 : 0 < a * d := Nat.mul_pos h0 hd
    simp only [if_true, Bool.false_eq_true, if_false, Int.neg_mul] at k1
    unfold cmpR
    rw [if_pos (k1.2 (by omega))]
  · subst g1; subst g2
    obtain ⟨k1, k2⟩ := key false true hx hy
    have h0 : 0 < c := by rcases Nat.eq_zero_or_pos c with e | e; exact absurd ⟨rfl, e⟩ h2; exact e
    have h3 : 0 < c * b := Nat.mul_pos h0 hb
    simp only [if_true, Bool.false_eq_true, if_false, Int.neg_mul] at k1 k2
    unfold cmpR
    rw [if_neg (fun h => by have := k1.1 h; omega), if_neg (fun h => by have := k2.1 h; omega)]
  · subst g1; subst g2
    obtain ⟨k1, k2⟩ := key false false hx hy
    simp only [Bool.false_eq_true, if_false] at k1 k2
    unfold cmpR cmpI
    have q1 : (x < y) ↔ a * d < c * b := by rw [k1]; omega
    have q2 : (x = y) ↔ a * d = c * b := by rw [k2]; omega
    simp only [q1, q2]
  · subst g1; subst g2
    obtain ⟨k1, k2⟩ := key true true hx hy
    simp only [if_true, Int.neg_mul] at k1 k2
    unfold cmpR cmpI
    have q1 : (x < y) ↔ c * b < a * d := by rw [k1]; omega
    have q2 : (x = y) ↔ a * d = c * b := by rw [k2]; omega
    simp only [q1, q2]
    rcases Nat.lt_trichotomy (a * d) (c * b) with h | h | h
    · rw [if_neg (by omega), if_neg (by omega), if_pos h]; try rfl
    · rw [if_neg (by omega), if_pos h, if_neg (by omega)]; try rfl
    · rw [if_pos h, if_neg (by omega), if_neg (by omega)]; try rfl
set_option maxRecDepth 100000 in
set_option maxHeartbeats 4000000 in
theorem cmpr_core (n1 n2 : Bool) (s1 t1 s2 t2 : ByteArray) (a b c d : Nat) (z : Int) (hz : (n1 = true → n2 = false → z = -1) ∧ (n1 = false → n2 = true → z = 1) ∧ (n1 = false → n2 = false → z = cmpI (a * d) (c * b)) ∧ (n1 = true → n2 = true → z = -cmpI (a * d) (c * b))) (i1 : IsYes (.agg #[.bool n1, .string s1, .string t1])) (i2 : IsYes (.agg #[.bool n2, .string s2, .string t2])) (g1 : BigOf s1 a) (g2 : BigOf t1 b) (g3 : BigOf s2 c) (g4 : BigOf t2 d) (hb : 0 < b) (hd : 0 < d) (l1 : (dk a).length ≤ 20000) (l2 : (dk b).length ≤ 20000) (l3 : (dk c).length ≤ 20000) (l4 : (dk d).length ≤ 20000) (w : World) :
    Calls Tryd.prog 43 #[.agg #[.bool n1, .string s1, .string t1], .agg #[.bool n2, .string s2, .string t2]] w fun e w' => e = .returned (.int .i64 z) ∧ Below w.heap.size w w' := by
  have m1 := dk_mul a d
  have m2 := dk_mul c b
  have HZ := Lib.hid hz
  clear hz
  have I1 := Lib.hid i1
  have I2 := Lib.hid i2
  have G1 := Lib.hid g1
  have G2 := Lib.hid g2
  have G3 := Lib.hid g3
  have G4 := Lib.hid g4
  have HB := Lib.hid hb
  have HD := Lib.hid hd
  clear i1 i2 g1 g2 g3 g4 hb hd
  obtain ⟨o1, o2, hbw⟩ := new2 w [.bool n1, .string s1, .string t1] [.bool n2, .string s2, .string t2] 29 29
  go_enter Tryd.func43, Tryd.ntmps43
  go_upto_region 1 with (fail)
  generalize ((w.alloc (.cells #[.bool n1, .string s1, .string t1] 29)).alloc (.cells #[.bool n2, .string s2, .string t2] 29)) = wb at o1 o2 hbw ⊢
  have c10 : wb.cell? ⟨w.heap.size, 0, none⟩ = some (.bool n1) := o1.cell 0
  have c11 : wb.cell? ⟨w.heap.size, 1, none⟩ = some (.string s1) := o1.cell 1
  have c12 : wb.cell? ⟨w.heap.size, 2, none⟩ = some (.string t1) := o1.cell 2
  have c20 : wb.cell? ⟨w.heap.size + 1, 0, none⟩ = some (.bool n2) := o2.cell 0
  have c21 : wb.cell? ⟨w.heap.size + 1, 1, none⟩ = some (.string s2) := o2.cell 1
  have c22 : wb.cell? ⟨w.heap.size + 1, 2, none⟩ = some (.string t2) := o2.cell 2
  go_wp2_with fail
  refine (I1.out _).mono ?_
  rintro e wc ⟨rfl, hb1⟩
  clear c10 c11 c12 c20 c21 c22
  replace o1 := o1.below hb1 o1.lt
  replace o2 := o2.below hb1 o2.lt
  replace hbw := below6 hbw hb1
  clear hb1
  have c10 : wc.cell? ⟨w.heap.size, 0, none⟩ = some (.bool n1) := o1.cell 0
  have c11 : wc.cell? ⟨w.heap.size, 1, none⟩ = some (.string s1) := o1.cell 1
  have c12 : wc.cell? ⟨w.heap.size, 2, none⟩ = some (.string t1) := o1.cell 2
  have c20 : wc.cell? ⟨w.heap.size + 1, 0, none⟩ = some (.bool n2) := o2.cell 0
  have c21 : wc.cell? ⟨w.heap.size + 1, 1, none⟩ = some (.string s2) := o2.cell 1
  have c22 : wc.cell? ⟨w.heap.size + 1, 2, none⟩ = some (.string t2) := o2.cell 2
  go_wp2_with fail
  refine (I2.out _).mono ?_
  rintro e wd ⟨rfl, hb2⟩
  clear c10 c11 c12 c20 c21 c22
  replace o1 := o1.below hb2 o1.lt
  replace o2 := o2.below hb2 o2.lt
  replace hbw := below6 hbw hb2
  clear hb2
  have c10 : wd.cell? ⟨w.heap.size, 0, none⟩ = some (.bool n1) := o1.cell 0
  have c11 : wd.cell? ⟨w.heap.size, 1, none⟩ = some (.string s1) := o1.cell 1
  have c12 : wd.cell? ⟨w.heap.size, 2, none⟩ = some (.string t1) := o1.cell 2
  have c20 : wd.cell? ⟨w.heap.size + 1, 0, none⟩ = some (.bool n2) := o2.cell 0
  have c21 : wd.cell? ⟨w.heap.size + 1, 1, none⟩ = some (.string s2) := o2.cell 1
  have c22 : wd.cell? ⟨w.heap.size + 1, 2, none⟩ = some (.string t2) := o2.cell 2
  by_cases hn : n1 = n2
  · subst hn
    go_upto_region 7 with (fail)
    refine wp_reg_ra [some 21, some 22, some 23, some 24, some 25, some 26, some 27, some 28, some 29, some 30, some 31, some 32, some 33, some 34, some 35, some 5] [isV ?v1_0, isV ?v1_1, (fun v w' => BigV w' v (a)), isV ?v1_3, isV ?v1_4, (fun v w' => BigV w' v (d)), (fun v w' => BigV w' v (a * d)), isV ?v1_7, isV ?v1_8, (fun v w' => BigV w' v (c)), isV ?v1_10, isV ?v1_11, (fun v w' => BigV w' v (b)), (fun v w' => BigV w' v (c * b)), isV (.int .i64 (cmpI (a * d) (c * b))), isV ?v1_15] rfl (by kernel_rfl) rfl rfl ?k1 ⟨?s1_0, ?s1_1, ?s1_2, ?s1_3, ?s1_4, ?s1_5, ?s1_6, ?s1_7, ?s1_8, ?s1_9, ?s1_10, ?s1_11, ?s1_12, ?s1_13, ?s1_14, ?s1_15, trivial⟩ ?p1
    case s1_0 =>
      intro t9 w9 hT9 hV9 hO9 K9 hK9
      have o9_2 := hO9 2 _ (show List.contains _ _ = false from by kernel_rfl) rfl
      clear hV9 hO9
      go_simp
      (refine hK9 _ _ (Grow.refl _) ?_; exact rfl)
    case s1_1 =>
      intro t9 w9 hT9 hV9 hO9 K9 hK9
      obtain ⟨x9_0, p9_0, q9_0⟩ := hV9 0 21 rfl rfl (of_decide_eq_true (by kernel_rfl))
      obtain rfl : x9_0 = ?v1_0 := q9_0
      clear hV9 hO9
      have d9_0 := grow_cell hT9 c10
      have d9_1 := grow_cell hT9 c11
      have d9_2 := grow_cell hT9 c12
      have d9_3 := grow_cell hT9 c20
      have d9_4 := grow_cell hT9 c21
      have d9_5 := grow_cell hT9 c22
      go_simp
      (refine hK9 _ _ (Grow.refl _) ?_; exact rfl)
    case s1_2 =>
      intro t9 w9 hT9 hV9 hO9 K9 hK9
      obtain ⟨x9_1, p9_1, q9_1⟩ := hV9 1 22 rfl rfl (of_decide_eq_true (by kernel_rfl))
      obtain rfl : x9_1 = ?v1_1 := q9_1
      clear hV9 hO9
      go_simp
      refine (G1.out _).mono ?_
      rintro _ w8 ⟨v8, rfl, hv8, hb8⟩
      exact hK9 _ _ hb8 hv8
    case s1_3 =>
      intro t9 w9 hT9 hV9 hO9 K9 hK9
      have o9_3 := hO9 3 _ (show List.contains _ _ = false from by kernel_rfl) rfl
      clear hV9 hO9
      go_simp
      (refine hK9 _ _ (Grow.refl _) ?_; exact rfl)
    case s1_4 =>
      intro t9 w9 hT9 hV9 hO9 K9 hK9
      obtain ⟨x9_3, p9_3, q9_3⟩ := hV9 3 24 rfl rfl (of_decide_eq_true (by kernel_rfl))
      obtain rfl : x9_3 = ?v1_3 := q9_3
      clear hV9 hO9
      have d9_0 := grow_cell hT9 c10
      have d9_1 := grow_cell hT9 c11
      have d9_2 := grow_cell hT9 c12
      have d9_3 := grow_cell hT9 c20
      have d9_4 := grow_cell hT9 c21
      have d9_5 := grow_cell hT9 c22
      go_simp
      (refine hK9 _ _ (Grow.refl _) ?_; exact rfl)
    case s1_5 =>
      intro t9 w9 hT9 hV9 hO9 K9 hK9
      obtain ⟨x9_4, p9_4, q9_4⟩ := hV9 4 25 rfl rfl (of_decide_eq_true (by kernel_rfl))
      obtain rfl : x9_4 = ?v1_4 := q9_4
      clear hV9 hO9
      go_simp
      refine (G4.out _).mono ?_
      rintro _ w8 ⟨v8, rfl, hv8, hb8⟩
      exact hK9 _ _ hb8 hv8
    case s1_6 =>
      intro t9 w9 hT9 hV9 hO9 K9 hK9
      obtain ⟨x9_2, p9_2, q9_2⟩ := hV9 2 23 rfl rfl (of_decide_eq_true (by kernel_rfl))
      replace q9_2 : ((fun v w' => BigV w' v (a))) x9_2 _ := q9_2
      obtain ⟨x9_5, p9_5, q9_5⟩ := hV9 5 26 rfl rfl (of_decide_eq_true (by kernel_rfl))
      replace q9_5 : ((fun v w' => BigV w' v (d))) x9_5 _ := q9_5
      clear hV9 hO9
      go_simp
      refine (times_ref _ q9_2 q9_5 (by omega) (by omega)).mono ?_
      rintro _ w8 ⟨v8, rfl, hv8, hb8⟩
      exact hK9 _ _ hb8 hv8
    case s1_7 =>
      intro t9 w9 hT9 hV9 hO9 K9 hK9
      have o9_3 := hO9 3 _ (show List.contains _ _ = false from by kernel_rfl) rfl
      clear hV9 hO9
      go_simp
      (refine hK9 _ _ (Grow.refl _) ?_; exact rfl)
    case s1_8 =>
      intro t9 w9 hT9 hV9 hO9 K9 hK9
      obtain ⟨x9_7, p9_7, q9_7⟩ := hV9 7 28 rfl rfl (of_decide_eq_true (by kernel_rfl))
      obtain rfl : x9_7 = ?v1_7 := q9_7
      clear hV9 hO9
      have d9_0 := grow_cell hT9 c10
      have d9_1 := grow_cell hT9 c11
      have d9_2 := grow_cell hT9 c12
      have d9_3 := grow_cell hT9 c20
      have d9_4 := grow_cell hT9 c21
      have d9_5 := grow_cell hT9 c22
      go_simp
      (refine hK9 _ _ (Grow.refl _) ?_; exact rfl)
    case s1_9 =>
      intro t9 w9 hT9 hV9 hO9 K9 hK9
      obtain ⟨x9_8, p9_8, q9_8⟩ := hV9 8 29 rfl rfl (of_decide_eq_true (by kernel_rfl))
      obtain rfl : x9_8 = ?v1_8 := q9_8
      clear hV9 hO9
      go_simp
      refine (G3.out _).mono ?_
      rintro _ w8 ⟨v8, rfl, hv8, hb8⟩
      exact hK9 _ _ hb8 hv8
    case s1_10 =>
      intro t9 w9 hT9 hV9 hO9 K9 hK9
      have o9_2 := hO9 2 _ (show List.contains _ _ = false from by kernel_rfl) rfl
      clear hV9 hO9
      go_simp
      (refine hK9 _ _ (Grow.refl _) ?_; exact rfl)
    case s1_11 =>
      intro t9 w9 hT9 hV9 hO9 K9 hK9
      obtain ⟨x9_10, p9_10, q9_10⟩ := hV9 10 31 rfl rfl (of_decide_eq_true (by kernel_rfl))
      obtain rfl : x9_10 = ?v1_10 := q9_10
      clear hV9 hO9
      have d9_0 := grow_cell hT9 c10
      have d9_1 := grow_cell hT9 c11
      have d9_2 := grow_cell hT9 c12
      have d9_3 := grow_cell hT9 c20
      have d9_4 := grow_cell hT9 c21
      have d9_5 := grow_cell hT9 c22
      go_simp
      (refine hK9 _ _ (Grow.refl _) ?_; exact rfl)
    case s1_12 =>
      intro t9 w9 hT9 hV9 hO9 K9 hK9
      obtain ⟨x9_11, p9_11, q9_11⟩ := hV9 11 32 rfl rfl (of_decide_eq_true (by kernel_rfl))
      obtain rfl : x9_11 = ?v1_11 := q9_11
      clear hV9 hO9
      go_simp
      refine (G2.out _).mono ?_
      rintro _ w8 ⟨v8, rfl, hv8, hb8⟩
      exact hK9 _ _ hb8 hv8
    case s1_13 =>
      intro t9 w9 hT9 hV9 hO9 K9 hK9
      obtain ⟨x9_9, p9_9, q9_9⟩ := hV9 9 30 rfl rfl (of_decide_eq_true (by kernel_rfl))
      replace q9_9 : ((fun v w' => BigV w' v (c))) x9_9 _ := q9_9
      obtain ⟨x9_12, p9_12, q9_12⟩ := hV9 12 33 rfl rfl (of_decide_eq_true (by kernel_rfl))
      replace q9_12 : ((fun v w' => BigV w' v (b))) x9_12 _ := q9_12
      clear hV9 hO9
      go_simp
      refine (times_ref _ q9_9 q9_12 (by omega) (by omega)).mono ?_
      rintro _ w8 ⟨v8, rfl, hv8, hb8⟩
      exact hK9 _ _ hb8 hv8
    case s1_14 =>
      intro t9 w9 hT9 hV9 hO9 K9 hK9
      obtain ⟨x9_6, p9_6, q9_6⟩ := hV9 6 27 rfl rfl (of_decide_eq_true (by kernel_rfl))
      replace q9_6 : ((fun v w' => BigV w' v (a * d))) x9_6 _ := q9_6
      obtain ⟨x9_13, p9_13, q9_13⟩ := hV9 13 34 rfl rfl (of_decide_eq_true (by kernel_rfl))
      replace q9_13 : ((fun v w' => BigV w' v (c * b))) x9_13 _ := q9_13
      clear hV9 hO9
      go_simp
      refine (less_ref _ q9_6 q9_13).mono ?_
      rintro _ w8 ⟨rfl, hb8⟩
      exact hK9 _ _ hb8 rfl
    case s1_15 =>
      intro t9 w9 hT9 hV9 hO9 K9 hK9
      obtain ⟨x9_14, p9_14, q9_14⟩ := hV9 14 35 rfl rfl (of_decide_eq_true (by kernel_rfl))
      obtain rfl : x9_14 = (.int .i64 (cmpI (a * d) (c * b))) := q9_14
      clear hV9 hO9
      go_simp
      (refine hK9 _ _ (Grow.refl _) ?_; exact rfl)
    case k1 =>
      intro i9 v9 w9 x9 h9 g9
      match i9, h9 with
      | 0, h9 => exact h9
      | 1, h9 => exact h9
      | 2, h9 => (replace h9 : (fun v w' => BigV w' v (a)) v9 w9 := h9); exact BigV.below h9 g9
      | 3, h9 => exact h9
      | 4, h9 => exact h9
      | 5, h9 => (replace h9 : (fun v w' => BigV w' v (d)) v9 w9 := h9); exact BigV.below h9 g9
      | 6, h9 => (replace h9 : (fun v w' => BigV w' v (a * d)) v9 w9 := h9); exact BigV.below h9 g9
      | 7, h9 => exact h9
      | 8, h9 => exact h9
      | 9, h9 => (replace h9 : (fun v w' => BigV w' v (c)) v9 w9 := h9); exact BigV.below h9 g9
      | 10, h9 => exact h9
      | 11, h9 => exact h9
      | 12, h9 => (replace h9 : (fun v w' => BigV w' v (b)) v9 w9 := h9); exact BigV.below h9 g9
      | 13, h9 => (replace h9 : (fun v w' => BigV w' v (c * b)) v9 w9 := h9); exact BigV.below h9 g9
      | 14, h9 => exact h9
      | 15, h9 => exact h9
      | _ + 16, h9 => exact trivial
    intro u9 w9 hE9 hu9
    have r9_0 : u9 0 = ?v1_0 := hu9 0 (by decide)
    have r9_1 : u9 1 = ?v1_1 := hu9 1 (by decide)
    have r9_2 : (fun v w' => BigV w' v (a)) (u9 2) w9 := hu9 2 (by decide)
    have r9_3 : u9 3 = ?v1_3 := hu9 3 (by decide)
    have r9_4 : u9 4 = ?v1_4 := hu9 4 (by decide)
    have r9_5 : (fun v w' => BigV w' v (d)) (u9 5) w9 := hu9 5 (by decide)
    have r9_6 : (fun v w' => BigV w' v (a * d)) (u9 6) w9 := hu9 6 (by decide)
    have r9_7 : u9 7 = ?v1_7 := hu9 7 (by decide)
    have r9_8 : u9 8 = ?v1_8 := hu9 8 (by decide)
    have r9_9 : (fun v w' => BigV w' v (c)) (u9 9) w9 := hu9 9 (by decide)
    have r9_10 : u9 10 = ?v1_10 := hu9 10 (by decide)
    have r9_11 : u9 11 = ?v1_11 := hu9 11 (by decide)
    have r9_12 : (fun v w' => BigV w' v (b)) (u9 12) w9 := hu9 12 (by decide)
    have r9_13 : (fun v w' => BigV w' v (c * b)) (u9 13) w9 := hu9 13 (by decide)
    have r9_14 : u9 14 = (.int .i64 (cmpI (a * d) (c * b))) := hu9 14 (by decide)
    have r9_15 : u9 15 = ?v1_15 := hu9 15 (by decide)
    clear hu9
    simp only [putAll, Act.put, List.setIfInBounds_toArray, List.set_cons_succ, List.set_cons_zero, List.getD_cons_succ, List.getD_cons_zero, Nat.reduceAdd, Nat.zero_add]
    simp only [r9_0, r9_1, r9_3, r9_4, r9_7, r9_8, r9_10, r9_11, r9_14, r9_15]
    clear r9_0 r9_1 r9_3 r9_4 r9_7 r9_8 r9_10 r9_11 r9_14 r9_15
    clear c10 c11 c12 c20 c21 c22
    replace o1 := o1.below hE9 o1.lt
    replace o2 := o2.below hE9 o2.lt
    replace hbw := below6 hbw hE9
    clear hE9
    have HC : Hid (∃ k : Int, cmpI (a * d) (c * b) = k ∧ -1 ≤ k ∧ k ≤ 1) := ⟨_, rfl, by unfold cmpI; split <;> (try split) <;> omega, by unfold cmpI; split <;> (try split) <;> omega⟩
    obtain ⟨k, hk, hk1, hk2⟩ := HC.out
    rw [hk] at HZ ⊢
    have c10 : w9.cell? ⟨w.heap.size, 0, none⟩ = some (.bool n1) := o1.cell 0
    clear HC hk
    cases n1 with
    | true =>
      have z1 : IntKind.i64.wrap (-k) = -k := IntWalk.i64_in _ (by omega)
      go_wp2
      go_ret
      exact ⟨ret_int (HZ.out.2.2.2 (by simp) (by simp)).symm, hbw⟩
    | false =>
      go_wp2
      go_ret
      exact ⟨ret_int (HZ.out.2.2.1 (by simp) (by simp)).symm, hbw⟩
  · obtain rfl : n2 = !n1 := by cases n1 <;> cases n2 <;> simp_all
    clear hn
    cases n1 with
    | true =>
      go_wp2
      go_ret
      exact ⟨ret_int (HZ.out.1 (by simp) (by simp)).symm, hbw⟩
    | false =>
      go_wp2
      go_ret
      exact ⟨ret_int (HZ.out.2.1 (by simp) (by simp)).symm, hbw⟩
end Go.Proofs.YtopfcfbiaadfeaaDoor
