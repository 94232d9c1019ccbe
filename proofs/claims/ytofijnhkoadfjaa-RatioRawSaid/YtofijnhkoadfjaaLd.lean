/- The law RatioField as a walk. -/
import Derived.Test.YtofijnhkoadfjaaId
import Derived.Test.YtofijnhkoadfjaaLc
namespace Go.Proofs.Ytofijnhkoadfjaa
set_option linter.unusedSimpArgs false
set_option linter.unusedVariables false
set_option linter.unusedSectionVars false
open Go.RowKit Dg

theorem dec_few {n k : Nat} (hk : 0 < k) (h : n < 10 ^ k) : (dec n).length ≤ k := dec_len_le hk h
theorem few_lt {n k : Nat} (h : (dec n).length ≤ k) : n < 10 ^ k := Nat.lt_of_lt_of_le (dec_lt n) (Nat.pow_le_pow_right (by decide) h)
theorem few_div {n k g : Nat} (hk : 0 < k) (h : n < 10 ^ k) : (dec (n / g)).length ≤ k := dec_few hk (Nat.lt_of_le_of_lt (Nat.div_le_self _ _) h)
theorem few_mul {j k : Nat} (h0 : 0 < j + k) {x y : Rat} (hx : Few j x) (hy : Few k y) : Few (j + k) (x * y) := by
  have e : x * y = rat (decide (x.num < 0) != decide (y.num < 0)) (x.num.natAbs * y.num.natAbs) (x.den * y.den) := by rw [rat_mul, rat_self, rat_self]
  have hd : 0 < x.den * y.den := Nat.mul_pos (den_pos x) (den_pos y)
  rw [e]
  refine few_rat hd (dec_few h0 ?_) (dec_few h0 ?_)
  · rw [Nat.pow_add]; exact Nat.mul_lt_mul'' (few_lt hx.1) (few_lt hy.1)
  · rw [Nat.pow_add]; exact Nat.mul_lt_mul'' (few_lt hx.2) (few_lt hy.2)
theorem rat_add_form (x y : Rat) : ∃ neg n, x + y = rat neg n (x.den * y.den) ∧ n ≤ x.num.natAbs * y.den + y.num.natAbs * x.den := by
  have e : x + y = mkRat (x.num * y.den + y.num * x.den) (x.den * y.den) := Rat.add_def' x y
  refine ⟨decide (x.num * y.den + y.num * x.den < 0), (x.num * y.den + y.num * x.den).natAbs, ?_, ?_⟩
  · rw [e]
    unfold rat
    congr 1
    by_cases h : x.num * y.den + y.num * x.den < 0
    · rw [if_pos (by simpa using h)]; omega
    · rw [if_neg (by simpa using h)]; omega
  · have h1 := Int.natAbs_add_le (x.num * y.den) (y.num * x.den)
    rw [Int.natAbs_mul, Int.natAbs_mul, Int.natAbs_natCast, Int.natAbs_natCast] at h1
    exact h1
theorem few_add {j k : Nat} {x y : Rat} (hx : Few j x) (hy : Few k y) : Few (j + k + 1) (x + y) := by
  obtain ⟨neg, n, e, hn⟩ := rat_add_form x y
  rw [e]
  have hd : 0 < x.den * y.den := Nat.mul_pos (den_pos x) (den_pos y)
  have h1 := few_lt hx.1
  have h2 := few_lt hx.2
  have h3 := few_lt hy.1
  have h4 := few_lt hy.2
  have p1 : x.num.natAbs * y.den < 10 ^ (j + k) := by rw [Nat.pow_add]; exact Nat.mul_lt_mul'' h1 h4
  have p2 : y.num.natAbs * x.den < 10 ^ (j + k) := by rw [Nat.add_comm, Nat.pow_add]; exact Nat.mul_lt_mul'' h3 h2
  have p3 : x.den * y.den < 10 ^ (j + k) := by rw [Nat.pow_add]; exact Nat.mul_lt_mul'' h2 h4
  refine few_rat hd (dec_few (by omega) ?_) (dec_few (by omega) ?_)
  · rw [Nat.pow_succ]; omega
  · rw [Nat.pow_succ]; omega
/-- Both have a value that is known, and the function's value is the third one's. -/
def Op2 (f : FuncId) (a b v : Value) : Prop := ∀ w, Calls Try.prog f #[a, b] w fun e w' => e = .returned (.tuple #[v, .int .i64 0]) ∧ Below w.heap.size w w'
theorem op_add {j k : Nat} {x y : Rat} (hx : Few j x) (hy : Few k y) (h : j + k + 1 ≤ 20000) : Op2 24 (RV x) (RV y) (RV (x + y)) := fun w =>
  (radd_yes (hx.ok (by omega)) (hy.ok (by omega)) w).mono fun e w' ⟨h1, h2⟩ => ⟨h1.ok ((few_add hx hy).ok h), h2⟩
theorem op_mul {j k : Nat} {x y : Rat} (hx : Few j x) (hy : Few k y) (h0 : 0 < j + k) (h : j + k ≤ 20000) : Op2 25 (RV x) (RV y) (RV (x * y)) := fun w =>
  (rmul_yes (hx.ok (by omega)) (hy.ok (by omega)) w).mono fun e w' ⟨h1, h2⟩ => ⟨h1.ok ((few_mul h0 hx hy).ok h), h2⟩
theorem rv_open (x : Rat) : ∃ n s t, RV x = .agg #[.bool n, .string s, .string t] := ⟨_, _, _, rfl⟩

set_option maxRecDepth 100000 in
set_option maxHeartbeats 8000000 in
theorem law_field (A1 : Option Addr) (l1 : List Int) (c1 : Nat) (A2 : Option Addr) (l2 : List Int) (c2 : Nat) (A3 : Option Addr) (l3 : List Int) (c3 : Nat) (w : World) (hA1 : Ints w A1 l1) (hl1 : l1.length ≤ c1) (hc1 : c1 ≤ maxLen) (hw1 : Wide l1)
    (hA2 : Ints w A2 l2) (hl2 : l2.length ≤ c2) (hc2 : c2 ≤ maxLen) (hw2 : Wide l2) (hA3 : Ints w A3 l3) (hl3 : l3.length ≤ c3) (hc3 : c3 ≤ maxLen) (hw3 : Wide l3) :
    Calls Try.prog 5 #[.slice A1 l1.length c1, .slice A2 l2.length c2, .slice A3 l3.length c3] w (Holds w) := by
  have HS1 : Hid (∀ w1, Below w.heap.size w w1 → Calls Try.prog 23 #[.slice A1 l1.length c1] w1 fun e w' => (∃ x, e = .returned (RV x) ∧ Few 20 x) ∧ Below w1.heap.size w1 w') := fun w1 hb => some_any A1 l1 c1 w1 (Ints.below hA1 hb) hl1 hc1 hw1
  have HS2 : Hid (∀ w1, Below w.heap.size w w1 → Calls Try.prog 23 #[.slice A2 l2.length c2] w1 fun e w' => (∃ x, e = .returned (RV x) ∧ Few 20 x) ∧ Below w1.heap.size w1 w') := fun w1 hb => some_any A2 l2 c2 w1 (Ints.below hA2 hb) hl2 hc2 hw2
  have HS3 : Hid (∀ w1, Below w.heap.size w w1 → Calls Try.prog 23 #[.slice A3 l3.length c3] w1 fun e w' => (∃ x, e = .returned (RV x) ∧ Few 20 x) ∧ Below w1.heap.size w1 w') := fun w1 hb => some_any A3 l3 c3 w1 (Ints.below hA3 hb) hl3 hc3 hw3
  clear hA1 hA2 hA3 hw1 hw2 hw3
  have hbw := Below.refl w.heap.size w
  go_enter Try.func5, Try.ntmps5
  go_wp2_with fail
  refine (HS1.out _ hbw).mono ?_
  rintro e w1 ⟨⟨a, rfl, fa⟩, hb1⟩
  replace hbw := below6 hbw hb1
  clear hb1
  go_wp2_with fail
  refine (HS2.out _ hbw).mono ?_
  rintro e w2 ⟨⟨b, rfl, fb⟩, hb2⟩
  replace hbw := below6 hbw hb2
  clear hb2
  go_wp2_with fail
  refine (HS3.out _ hbw).mono ?_
  rintro e w3 ⟨⟨c, rfl, fc⟩, hb3⟩
  replace hbw := below6 hbw hb3
  clear hb3
  clear HS1 HS2 HS3
  have fab := few_add fa fb
  have fbc := few_add fb fc
  have fp := few_mul (by decide) fa fb
  have fq := few_mul (by decide) fa fc
  have K_ab := Lib.hid (op_add fa fb (by decide))
  have K_ba : Hid (Op2 24 (RV b) (RV a) (RV (a + b))) := by rw [Rat.add_comm a b]; exact op_add fb fa (by decide)
  have K_x := Lib.hid (op_add fab fc (by decide))
  have K_bc := Lib.hid (op_add fb fc (by decide))
  have K_y : Hid (Op2 24 (RV a) (RV (b + c)) (RV (a + b + c))) := by rw [Rat.add_assoc]; exact op_add fa fbc (by decide)
  have K_lf := Lib.hid (op_mul fa fbc (by decide) (by decide))
  have K_p := Lib.hid (op_mul fa fb (by decide) (by decide))
  have K_q := Lib.hid (op_mul fa fc (by decide) (by decide))
  have K_rg : Hid (Op2 24 (RV (a * b)) (RV (a * c)) (RV (a * (b + c)))) := by rw [Rat.mul_add]; exact op_add fp fq (by decide)
  clear fa fb fc fab fbc fp fq
  obtain ⟨na, sa, ta, hva⟩ := rv_open (a)
  obtain ⟨nb, sb, tb, hvb⟩ := rv_open (b)
  obtain ⟨nc, sc, tc, hvc⟩ := rv_open (c)
  obtain ⟨nab, sab, tab, hvab⟩ := rv_open (a + b)
  obtain ⟨nx, sx, tx, hvx⟩ := rv_open (a + b + c)
  obtain ⟨nbc, sbc, tbc, hvbc⟩ := rv_open (b + c)
  obtain ⟨nlf, slf, tlf, hvlf⟩ := rv_open (a * (b + c))
  obtain ⟨np, sp, tp, hvp⟩ := rv_open (a * b)
  obtain ⟨nq, sq, tq, hvq⟩ := rv_open (a * c)
  rw [hva, hvb, hvc]
  rw [hva, hvb, hvab] at K_ab
  rw [hvb, hva, hvab] at K_ba
  rw [hvab, hvc, hvx] at K_x
  rw [hvb, hvc, hvbc] at K_bc
  rw [hva, hvbc, hvx] at K_y
  rw [hva, hvbc, hvlf] at K_lf
  rw [hva, hvb, hvp] at K_p
  rw [hva, hvc, hvq] at K_q
  rw [hvp, hvq, hvlf] at K_rg
  clear hva hvb hvc hvab hvx hvbc hvlf hvp hvq
  obtain ⟨o_a, o_b, o_c, hz4⟩ := new3 w3 [.bool na, .string sa, .string ta] [.bool nb, .string sb, .string tb] [.bool nc, .string sc, .string tc] 33 33 33
  replace hbw := below6 hbw hz4
  clear hz4
  have qa_0 : (((w3.alloc (.cells #[.bool na, .string sa, .string ta] 33)).alloc (.cells #[.bool nb, .string sb, .string tb] 33)).alloc (.cells #[.bool nc, .string sc, .string tc] 33)).cell? ⟨w3.heap.size, 0, none⟩ = some (.bool na) := o_a.cell 0
  have qa_1 : (((w3.alloc (.cells #[.bool na, .string sa, .string ta] 33)).alloc (.cells #[.bool nb, .string sb, .string tb] 33)).alloc (.cells #[.bool nc, .string sc, .string tc] 33)).cell? ⟨w3.heap.size, 1, none⟩ = some (.string sa) := o_a.cell 1
  have qa_2 : (((w3.alloc (.cells #[.bool na, .string sa, .string ta] 33)).alloc (.cells #[.bool nb, .string sb, .string tb] 33)).alloc (.cells #[.bool nc, .string sc, .string tc] 33)).cell? ⟨w3.heap.size, 2, none⟩ = some (.string ta) := o_a.cell 2
  have qb_0 : (((w3.alloc (.cells #[.bool na, .string sa, .string ta] 33)).alloc (.cells #[.bool nb, .string sb, .string tb] 33)).alloc (.cells #[.bool nc, .string sc, .string tc] 33)).cell? ⟨w3.heap.size + 1, 0, none⟩ = some (.bool nb) := o_b.cell 0
  have qb_1 : (((w3.alloc (.cells #[.bool na, .string sa, .string ta] 33)).alloc (.cells #[.bool nb, .string sb, .string tb] 33)).alloc (.cells #[.bool nc, .string sc, .string tc] 33)).cell? ⟨w3.heap.size + 1, 1, none⟩ = some (.string sb) := o_b.cell 1
  have qb_2 : (((w3.alloc (.cells #[.bool na, .string sa, .string ta] 33)).alloc (.cells #[.bool nb, .string sb, .string tb] 33)).alloc (.cells #[.bool nc, .string sc, .string tc] 33)).cell? ⟨w3.heap.size + 1, 2, none⟩ = some (.string tb) := o_b.cell 2
  go_wp2_with fail
  generalize (((w3.alloc (.cells #[.bool na, .string sa, .string ta] 33)).alloc (.cells #[.bool nb, .string sb, .string tb] 33)).alloc (.cells #[.bool nc, .string sc, .string tc] 33)) = wa5 at o_a o_b o_c hbw ⊢
  generalize w3.heap.size = g5 at o_a o_b o_c ⊢
  clear qa_0 qa_1 qa_2 qb_0 qb_1 qb_2
  refine (K_ab.out _).mono ?_
  rintro e w6 ⟨rfl, hb6⟩
  replace o_a := o_a.below hb6 o_a.lt
  replace o_b := o_b.below hb6 o_b.lt
  replace o_c := o_c.below hb6 o_c.lt
  replace hbw := below6 hbw hb6
  clear hb6
  obtain ⟨o_ab, hz7⟩ := new1 w6 [.bool nab, .string sab, .string tab] 33
  replace o_a := o_a.alloc (.cells #[.bool nab, .string sab, .string tab] 33)
  replace o_b := o_b.alloc (.cells #[.bool nab, .string sab, .string tab] 33)
  replace o_c := o_c.alloc (.cells #[.bool nab, .string sab, .string tab] 33)
  replace hbw := below6 hbw hz7
  clear hz7
  clear K_ab
  have qb_0 : (w6.alloc (.cells #[.bool nab, .string sab, .string tab] 33)).cell? ⟨g5 + 1, 0, none⟩ = some (.bool nb) := o_b.cell 0
  have qb_1 : (w6.alloc (.cells #[.bool nab, .string sab, .string tab] 33)).cell? ⟨g5 + 1, 1, none⟩ = some (.string sb) := o_b.cell 1
  have qb_2 : (w6.alloc (.cells #[.bool nab, .string sab, .string tab] 33)).cell? ⟨g5 + 1, 2, none⟩ = some (.string tb) := o_b.cell 2
  have qa_0 : (w6.alloc (.cells #[.bool nab, .string sab, .string tab] 33)).cell? ⟨g5, 0, none⟩ = some (.bool na) := o_a.cell 0
  have qa_1 : (w6.alloc (.cells #[.bool nab, .string sab, .string tab] 33)).cell? ⟨g5, 1, none⟩ = some (.string sa) := o_a.cell 1
  have qa_2 : (w6.alloc (.cells #[.bool nab, .string sab, .string tab] 33)).cell? ⟨g5, 2, none⟩ = some (.string ta) := o_a.cell 2
  go_wp2_with fail
  generalize (w6.alloc (.cells #[.bool nab, .string sab, .string tab] 33)) = wa8 at o_a o_b o_c o_ab hbw ⊢
  generalize w6.heap.size = g8 at o_ab ⊢
  clear qb_0 qb_1 qb_2 qa_0 qa_1 qa_2
  refine (K_ba.out _).mono ?_
  rintro e w9 ⟨rfl, hb9⟩
  replace o_a := o_a.below hb9 o_a.lt
  replace o_b := o_b.below hb9 o_b.lt
  replace o_c := o_c.below hb9 o_c.lt
  replace o_ab := o_ab.below hb9 o_ab.lt
  replace hbw := below6 hbw hb9
  clear hb9
  obtain ⟨o_ba, hz10⟩ := new1 w9 [.bool nab, .string sab, .string tab] 33
  replace o_a := o_a.alloc (.cells #[.bool nab, .string sab, .string tab] 33)
  replace o_b := o_b.alloc (.cells #[.bool nab, .string sab, .string tab] 33)
  replace o_c := o_c.alloc (.cells #[.bool nab, .string sab, .string tab] 33)
  replace o_ab := o_ab.alloc (.cells #[.bool nab, .string sab, .string tab] 33)
  replace hbw := below6 hbw hz10
  clear hz10
  clear K_ba
  have qab_0 : (w9.alloc (.cells #[.bool nab, .string sab, .string tab] 33)).cell? ⟨g8, 0, none⟩ = some (.bool nab) := o_ab.cell 0
  have qab_1 : (w9.alloc (.cells #[.bool nab, .string sab, .string tab] 33)).cell? ⟨g8, 1, none⟩ = some (.string sab) := o_ab.cell 1
  have qab_2 : (w9.alloc (.cells #[.bool nab, .string sab, .string tab] 33)).cell? ⟨g8, 2, none⟩ = some (.string tab) := o_ab.cell 2
  have qc_0 : (w9.alloc (.cells #[.bool nab, .string sab, .string tab] 33)).cell? ⟨g5 + 1 + 1, 0, none⟩ = some (.bool nc) := o_c.cell 0
  have qc_1 : (w9.alloc (.cells #[.bool nab, .string sab, .string tab] 33)).cell? ⟨g5 + 1 + 1, 1, none⟩ = some (.string sc) := o_c.cell 1
  have qc_2 : (w9.alloc (.cells #[.bool nab, .string sab, .string tab] 33)).cell? ⟨g5 + 1 + 1, 2, none⟩ = some (.string tc) := o_c.cell 2
  go_wp2_with fail
  generalize (w9.alloc (.cells #[.bool nab, .string sab, .string tab] 33)) = wa11 at o_a o_b o_c o_ab o_ba hbw ⊢
  generalize w9.heap.size = g11 at o_ba ⊢
  clear qab_0 qab_1 qab_2 qc_0 qc_1 qc_2
  refine (K_x.out _).mono ?_
  rintro e w12 ⟨rfl, hb12⟩
  replace o_a := o_a.below hb12 o_a.lt
  replace o_b := o_b.below hb12 o_b.lt
  replace o_c := o_c.below hb12 o_c.lt
  replace o_ab := o_ab.below hb12 o_ab.lt
  replace o_ba := o_ba.below hb12 o_ba.lt
  replace hbw := below6 hbw hb12
  clear hb12
  obtain ⟨o_x, hz13⟩ := new1 w12 [.bool nx, .string sx, .string tx] 33
  replace o_a := o_a.alloc (.cells #[.bool nx, .string sx, .string tx] 33)
  replace o_b := o_b.alloc (.cells #[.bool nx, .string sx, .string tx] 33)
  replace o_c := o_c.alloc (.cells #[.bool nx, .string sx, .string tx] 33)
  replace o_ab := o_ab.alloc (.cells #[.bool nx, .string sx, .string tx] 33)
  replace o_ba := o_ba.alloc (.cells #[.bool nx, .string sx, .string tx] 33)
  replace hbw := below6 hbw hz13
  clear hz13
  clear K_x
  have qb_0 : (w12.alloc (.cells #[.bool nx, .string sx, .string tx] 33)).cell? ⟨g5 + 1, 0, none⟩ = some (.bool nb) := o_b.cell 0
  have qb_1 : (w12.alloc (.cells #[.bool nx, .string sx, .string tx] 33)).cell? ⟨g5 + 1, 1, none⟩ = some (.string sb) := o_b.cell 1
  have qb_2 : (w12.alloc (.cells #[.bool nx, .string sx, .string tx] 33)).cell? ⟨g5 + 1, 2, none⟩ = some (.string tb) := o_b.cell 2
  have qc_0 : (w12.alloc (.cells #[.bool nx, .string sx, .string tx] 33)).cell? ⟨g5 + 1 + 1, 0, none⟩ = some (.bool nc) := o_c.cell 0
  have qc_1 : (w12.alloc (.cells #[.bool nx, .string sx, .string tx] 33)).cell? ⟨g5 + 1 + 1, 1, none⟩ = some (.string sc) := o_c.cell 1
  have qc_2 : (w12.alloc (.cells #[.bool nx, .string sx, .string tx] 33)).cell? ⟨g5 + 1 + 1, 2, none⟩ = some (.string tc) := o_c.cell 2
  go_wp2_with fail
  generalize (w12.alloc (.cells #[.bool nx, .string sx, .string tx] 33)) = wa14 at o_a o_b o_c o_ab o_ba o_x hbw ⊢
  generalize w12.heap.size = g14 at o_x ⊢
  clear qb_0 qb_1 qb_2 qc_0 qc_1 qc_2
  refine (K_bc.out _).mono ?_
  rintro e w15 ⟨rfl, hb15⟩
  replace o_a := o_a.below hb15 o_a.lt
  replace o_b := o_b.below hb15 o_b.lt
  replace o_c := o_c.below hb15 o_c.lt
  replace o_ab := o_ab.below hb15 o_ab.lt
  replace o_ba := o_ba.below hb15 o_ba.lt
  replace o_x := o_x.below hb15 o_x.lt
  replace hbw := below6 hbw hb15
  clear hb15
  obtain ⟨o_bc, hz16⟩ := new1 w15 [.bool nbc, .string sbc, .string tbc] 33
  replace o_a := o_a.alloc (.cells #[.bool nbc, .string sbc, .string tbc] 33)
  replace o_b := o_b.alloc (.cells #[.bool nbc, .string sbc, .string tbc] 33)
  replace o_c := o_c.alloc (.cells #[.bool nbc, .string sbc, .string tbc] 33)
  replace o_ab := o_ab.alloc (.cells #[.bool nbc, .string sbc, .string tbc] 33)
  replace o_ba := o_ba.alloc (.cells #[.bool nbc, .string sbc, .string tbc] 33)
  replace o_x := o_x.alloc (.cells #[.bool nbc, .string sbc, .string tbc] 33)
  replace hbw := below6 hbw hz16
  clear hz16
  clear K_bc
  have qa_0 : (w15.alloc (.cells #[.bool nbc, .string sbc, .string tbc] 33)).cell? ⟨g5, 0, none⟩ = some (.bool na) := o_a.cell 0
  have qa_1 : (w15.alloc (.cells #[.bool nbc, .string sbc, .string tbc] 33)).cell? ⟨g5, 1, none⟩ = some (.string sa) := o_a.cell 1
  have qa_2 : (w15.alloc (.cells #[.bool nbc, .string sbc, .string tbc] 33)).cell? ⟨g5, 2, none⟩ = some (.string ta) := o_a.cell 2
  have qbc_0 : (w15.alloc (.cells #[.bool nbc, .string sbc, .string tbc] 33)).cell? ⟨w15.heap.size, 0, none⟩ = some (.bool nbc) := o_bc.cell 0
  have qbc_1 : (w15.alloc (.cells #[.bool nbc, .string sbc, .string tbc] 33)).cell? ⟨w15.heap.size, 1, none⟩ = some (.string sbc) := o_bc.cell 1
  have qbc_2 : (w15.alloc (.cells #[.bool nbc, .string sbc, .string tbc] 33)).cell? ⟨w15.heap.size, 2, none⟩ = some (.string tbc) := o_bc.cell 2
  go_wp2_with fail
  generalize (w15.alloc (.cells #[.bool nbc, .string sbc, .string tbc] 33)) = wa17 at o_a o_b o_c o_ab o_ba o_x o_bc hbw ⊢
  generalize w15.heap.size = g17 at o_bc ⊢
  clear qa_0 qa_1 qa_2 qbc_0 qbc_1 qbc_2
  refine (K_y.out _).mono ?_
  rintro e w18 ⟨rfl, hb18⟩
  replace o_a := o_a.below hb18 o_a.lt
  replace o_b := o_b.below hb18 o_b.lt
  replace o_c := o_c.below hb18 o_c.lt
  replace o_ab := o_ab.below hb18 o_ab.lt
  replace o_ba := o_ba.below hb18 o_ba.lt
  replace o_x := o_x.below hb18 o_x.lt
  replace o_bc := o_bc.below hb18 o_bc.lt
  replace hbw := below6 hbw hb18
  clear hb18
  obtain ⟨o_y, hz19⟩ := new1 w18 [.bool nx, .string sx, .string tx] 33
  replace o_a := o_a.alloc (.cells #[.bool nx, .string sx, .string tx] 33)
  replace o_b := o_b.alloc (.cells #[.bool nx, .string sx, .string tx] 33)
  replace o_c := o_c.alloc (.cells #[.bool nx, .string sx, .string tx] 33)
  replace o_ab := o_ab.alloc (.cells #[.bool nx, .string sx, .string tx] 33)
  replace o_ba := o_ba.alloc (.cells #[.bool nx, .string sx, .string tx] 33)
  replace o_x := o_x.alloc (.cells #[.bool nx, .string sx, .string tx] 33)
  replace o_bc := o_bc.alloc (.cells #[.bool nx, .string sx, .string tx] 33)
  replace hbw := below6 hbw hz19
  clear hz19
  clear K_y
  have qa_0 : (w18.alloc (.cells #[.bool nx, .string sx, .string tx] 33)).cell? ⟨g5, 0, none⟩ = some (.bool na) := o_a.cell 0
  have qa_1 : (w18.alloc (.cells #[.bool nx, .string sx, .string tx] 33)).cell? ⟨g5, 1, none⟩ = some (.string sa) := o_a.cell 1
  have qa_2 : (w18.alloc (.cells #[.bool nx, .string sx, .string tx] 33)).cell? ⟨g5, 2, none⟩ = some (.string ta) := o_a.cell 2
  have qbc_0 : (w18.alloc (.cells #[.bool nx, .string sx, .string tx] 33)).cell? ⟨g17, 0, none⟩ = some (.bool nbc) := o_bc.cell 0
  have qbc_1 : (w18.alloc (.cells #[.bool nx, .string sx, .string tx] 33)).cell? ⟨g17, 1, none⟩ = some (.string sbc) := o_bc.cell 1
  have qbc_2 : (w18.alloc (.cells #[.bool nx, .string sx, .string tx] 33)).cell? ⟨g17, 2, none⟩ = some (.string tbc) := o_bc.cell 2
  go_wp2_with fail
  generalize (w18.alloc (.cells #[.bool nx, .string sx, .string tx] 33)) = wa20 at o_a o_b o_c o_ab o_ba o_x o_bc o_y hbw ⊢
  generalize w18.heap.size = g20 at o_y ⊢
  clear qa_0 qa_1 qa_2 qbc_0 qbc_1 qbc_2
  refine (K_lf.out _).mono ?_
  rintro e w21 ⟨rfl, hb21⟩
  replace o_a := o_a.below hb21 o_a.lt
  replace o_b := o_b.below hb21 o_b.lt
  replace o_c := o_c.below hb21 o_c.lt
  replace o_ab := o_ab.below hb21 o_ab.lt
  replace o_ba := o_ba.below hb21 o_ba.lt
  replace o_x := o_x.below hb21 o_x.lt
  replace o_bc := o_bc.below hb21 o_bc.lt
  replace o_y := o_y.below hb21 o_y.lt
  replace hbw := below6 hbw hb21
  clear hb21
  obtain ⟨o_lf, hz22⟩ := new1 w21 [.bool nlf, .string slf, .string tlf] 33
  replace o_a := o_a.alloc (.cells #[.bool nlf, .string slf, .string tlf] 33)
  replace o_b := o_b.alloc (.cells #[.bool nlf, .string slf, .string tlf] 33)
  replace o_c := o_c.alloc (.cells #[.bool nlf, .string slf, .string tlf] 33)
  replace o_ab := o_ab.alloc (.cells #[.bool nlf, .string slf, .string tlf] 33)
  replace o_ba := o_ba.alloc (.cells #[.bool nlf, .string slf, .string tlf] 33)
  replace o_x := o_x.alloc (.cells #[.bool nlf, .string slf, .string tlf] 33)
  replace o_bc := o_bc.alloc (.cells #[.bool nlf, .string slf, .string tlf] 33)
  replace o_y := o_y.alloc (.cells #[.bool nlf, .string slf, .string tlf] 33)
  replace hbw := below6 hbw hz22
  clear hz22
  clear K_lf
  have qa_0 : (w21.alloc (.cells #[.bool nlf, .string slf, .string tlf] 33)).cell? ⟨g5, 0, none⟩ = some (.bool na) := o_a.cell 0
  have qa_1 : (w21.alloc (.cells #[.bool nlf, .string slf, .string tlf] 33)).cell? ⟨g5, 1, none⟩ = some (.string sa) := o_a.cell 1
  have qa_2 : (w21.alloc (.cells #[.bool nlf, .string slf, .string tlf] 33)).cell? ⟨g5, 2, none⟩ = some (.string ta) := o_a.cell 2
  have qb_0 : (w21.alloc (.cells #[.bool nlf, .string slf, .string tlf] 33)).cell? ⟨g5 + 1, 0, none⟩ = some (.bool nb) := o_b.cell 0
  have qb_1 : (w21.alloc (.cells #[.bool nlf, .string slf, .string tlf] 33)).cell? ⟨g5 + 1, 1, none⟩ = some (.string sb) := o_b.cell 1
  have qb_2 : (w21.alloc (.cells #[.bool nlf, .string slf, .string tlf] 33)).cell? ⟨g5 + 1, 2, none⟩ = some (.string tb) := o_b.cell 2
  go_wp2_with fail
  generalize (w21.alloc (.cells #[.bool nlf, .string slf, .string tlf] 33)) = wa23 at o_a o_b o_c o_ab o_ba o_x o_bc o_y o_lf hbw ⊢
  generalize w21.heap.size = g23 at o_lf ⊢
  clear qa_0 qa_1 qa_2 qb_0 qb_1 qb_2
  refine (K_p.out _).mono ?_
  rintro e w24 ⟨rfl, hb24⟩
  replace o_a := o_a.below hb24 o_a.lt
  replace o_b := o_b.below hb24 o_b.lt
  replace o_c := o_c.below hb24 o_c.lt
  replace o_ab := o_ab.below hb24 o_ab.lt
  replace o_ba := o_ba.below hb24 o_ba.lt
  replace o_x := o_x.below hb24 o_x.lt
  replace o_bc := o_bc.below hb24 o_bc.lt
  replace o_y := o_y.below hb24 o_y.lt
  replace o_lf := o_lf.below hb24 o_lf.lt
  replace hbw := below6 hbw hb24
  clear hb24
  obtain ⟨o_p, hz25⟩ := new1 w24 [.bool np, .string sp, .string tp] 33
  replace o_a := o_a.alloc (.cells #[.bool np, .string sp, .string tp] 33)
  replace o_b := o_b.alloc (.cells #[.bool np, .string sp, .string tp] 33)
  replace o_c := o_c.alloc (.cells #[.bool np, .string sp, .string tp] 33)
  replace o_ab := o_ab.alloc (.cells #[.bool np, .string sp, .string tp] 33)
  replace o_ba := o_ba.alloc (.cells #[.bool np, .string sp, .string tp] 33)
  replace o_x := o_x.alloc (.cells #[.bool np, .string sp, .string tp] 33)
  replace o_bc := o_bc.alloc (.cells #[.bool np, .string sp, .string tp] 33)
  replace o_y := o_y.alloc (.cells #[.bool np, .string sp, .string tp] 33)
  replace o_lf := o_lf.alloc (.cells #[.bool np, .string sp, .string tp] 33)
  replace hbw := below6 hbw hz25
  clear hz25
  clear K_p
  have qa_0 : (w24.alloc (.cells #[.bool np, .string sp, .string tp] 33)).cell? ⟨g5, 0, none⟩ = some (.bool na) := o_a.cell 0
  have qa_1 : (w24.alloc (.cells #[.bool np, .string sp, .string tp] 33)).cell? ⟨g5, 1, none⟩ = some (.string sa) := o_a.cell 1
  have qa_2 : (w24.alloc (.cells #[.bool np, .string sp, .string tp] 33)).cell? ⟨g5, 2, none⟩ = some (.string ta) := o_a.cell 2
  have qc_0 : (w24.alloc (.cells #[.bool np, .string sp, .string tp] 33)).cell? ⟨g5 + 1 + 1, 0, none⟩ = some (.bool nc) := o_c.cell 0
  have qc_1 : (w24.alloc (.cells #[.bool np, .string sp, .string tp] 33)).cell? ⟨g5 + 1 + 1, 1, none⟩ = some (.string sc) := o_c.cell 1
  have qc_2 : (w24.alloc (.cells #[.bool np, .string sp, .string tp] 33)).cell? ⟨g5 + 1 + 1, 2, none⟩ = some (.string tc) := o_c.cell 2
  go_wp2_with fail
  generalize (w24.alloc (.cells #[.bool np, .string sp, .string tp] 33)) = wa26 at o_a o_b o_c o_ab o_ba o_x o_bc o_y o_lf o_p hbw ⊢
  generalize w24.heap.size = g26 at o_p ⊢
  clear qa_0 qa_1 qa_2 qc_0 qc_1 qc_2
  refine (K_q.out _).mono ?_
  rintro e w27 ⟨rfl, hb27⟩
  replace o_a := o_a.below hb27 o_a.lt
  replace o_b := o_b.below hb27 o_b.lt
  replace o_c := o_c.below hb27 o_c.lt
  replace o_ab := o_ab.below hb27 o_ab.lt
  replace o_ba := o_ba.below hb27 o_ba.lt
  replace o_x := o_x.below hb27 o_x.lt
  replace o_bc := o_bc.below hb27 o_bc.lt
  replace o_y := o_y.below hb27 o_y.lt
  replace o_lf := o_lf.below hb27 o_lf.lt
  replace o_p := o_p.below hb27 o_p.lt
  replace hbw := below6 hbw hb27
  clear hb27
  obtain ⟨o_q, hz28⟩ := new1 w27 [.bool nq, .string sq, .string tq] 33
  replace o_a := o_a.alloc (.cells #[.bool nq, .string sq, .string tq] 33)
  replace o_b := o_b.alloc (.cells #[.bool nq, .string sq, .string tq] 33)
  replace o_c := o_c.alloc (.cells #[.bool nq, .string sq, .string tq] 33)
  replace o_ab := o_ab.alloc (.cells #[.bool nq, .string sq, .string tq] 33)
  replace o_ba := o_ba.alloc (.cells #[.bool nq, .string sq, .string tq] 33)
  replace o_x := o_x.alloc (.cells #[.bool nq, .string sq, .string tq] 33)
  replace o_bc := o_bc.alloc (.cells #[.bool nq, .string sq, .string tq] 33)
  replace o_y := o_y.alloc (.cells #[.bool nq, .string sq, .string tq] 33)
  replace o_lf := o_lf.alloc (.cells #[.bool nq, .string sq, .string tq] 33)
  replace o_p := o_p.alloc (.cells #[.bool nq, .string sq, .string tq] 33)
  replace hbw := below6 hbw hz28
  clear hz28
  clear K_q
  have qp_0 : (w27.alloc (.cells #[.bool nq, .string sq, .string tq] 33)).cell? ⟨g26, 0, none⟩ = some (.bool np) := o_p.cell 0
  have qp_1 : (w27.alloc (.cells #[.bool nq, .string sq, .string tq] 33)).cell? ⟨g26, 1, none⟩ = some (.string sp) := o_p.cell 1
  have qp_2 : (w27.alloc (.cells #[.bool nq, .string sq, .string tq] 33)).cell? ⟨g26, 2, none⟩ = some (.string tp) := o_p.cell 2
  have qq_0 : (w27.alloc (.cells #[.bool nq, .string sq, .string tq] 33)).cell? ⟨w27.heap.size, 0, none⟩ = some (.bool nq) := o_q.cell 0
  have qq_1 : (w27.alloc (.cells #[.bool nq, .string sq, .string tq] 33)).cell? ⟨w27.heap.size, 1, none⟩ = some (.string sq) := o_q.cell 1
  have qq_2 : (w27.alloc (.cells #[.bool nq, .string sq, .string tq] 33)).cell? ⟨w27.heap.size, 2, none⟩ = some (.string tq) := o_q.cell 2
  go_wp2_with fail
  generalize (w27.alloc (.cells #[.bool nq, .string sq, .string tq] 33)) = wa29 at o_a o_b o_c o_ab o_ba o_x o_bc o_y o_lf o_p o_q hbw ⊢
  generalize w27.heap.size = g29 at o_q ⊢
  clear qp_0 qp_1 qp_2 qq_0 qq_1 qq_2
  refine (K_rg.out _).mono ?_
  rintro e w30 ⟨rfl, hb30⟩
  replace o_a := o_a.below hb30 o_a.lt
  replace o_b := o_b.below hb30 o_b.lt
  replace o_c := o_c.below hb30 o_c.lt
  replace o_ab := o_ab.below hb30 o_ab.lt
  replace o_ba := o_ba.below hb30 o_ba.lt
  replace o_x := o_x.below hb30 o_x.lt
  replace o_bc := o_bc.below hb30 o_bc.lt
  replace o_y := o_y.below hb30 o_y.lt
  replace o_lf := o_lf.below hb30 o_lf.lt
  replace o_p := o_p.below hb30 o_p.lt
  replace o_q := o_q.below hb30 o_q.lt
  replace hbw := below6 hbw hb30
  clear hb30
  obtain ⟨o_rg, o_er, hz31⟩ := new2 w30 [.bool nlf, .string slf, .string tlf] [.int .i64 0, .int .i64 0, .int .i64 0, .int .i64 0, .int .i64 0, .int .i64 0, .int .i64 0, .int .i64 0, .int .i64 0] 33 24
  replace o_a := o_a.alloc (.cells #[.bool nlf, .string slf, .string tlf] 33)
  replace o_a := o_a.alloc (.cells #[.int .i64 0, .int .i64 0, .int .i64 0, .int .i64 0, .int .i64 0, .int .i64 0, .int .i64 0, .int .i64 0, .int .i64 0] 24)
  replace o_b := o_b.alloc (.cells #[.bool nlf, .string slf, .string tlf] 33)
  replace o_b := o_b.alloc (.cells #[.int .i64 0, .int .i64 0, .int .i64 0, .int .i64 0, .int .i64 0, .int .i64 0, .int .i64 0, .int .i64 0, .int .i64 0] 24)
  replace o_c := o_c.alloc (.cells #[.bool nlf, .string slf, .string tlf] 33)
  replace o_c := o_c.alloc (.cells #[.int .i64 0, .int .i64 0, .int .i64 0, .int .i64 0, .int .i64 0, .int .i64 0, .int .i64 0, .int .i64 0, .int .i64 0] 24)
  replace o_ab := o_ab.alloc (.cells #[.bool nlf, .string slf, .string tlf] 33)
  replace o_ab := o_ab.alloc (.cells #[.int .i64 0, .int .i64 0, .int .i64 0, .int .i64 0, .int .i64 0, .int .i64 0, .int .i64 0, .int .i64 0, .int .i64 0] 24)
  replace o_ba := o_ba.alloc (.cells #[.bool nlf, .string slf, .string tlf] 33)
  replace o_ba := o_ba.alloc (.cells #[.int .i64 0, .int .i64 0, .int .i64 0, .int .i64 0, .int .i64 0, .int .i64 0, .int .i64 0, .int .i64 0, .int .i64 0] 24)
  replace o_x := o_x.alloc (.cells #[.bool nlf, .string slf, .string tlf] 33)
  replace o_x := o_x.alloc (.cells #[.int .i64 0, .int .i64 0, .int .i64 0, .int .i64 0, .int .i64 0, .int .i64 0, .int .i64 0, .int .i64 0, .int .i64 0] 24)
  replace o_bc := o_bc.alloc (.cells #[.bool nlf, .string slf, .string tlf] 33)
  replace o_bc := o_bc.alloc (.cells #[.int .i64 0, .int .i64 0, .int .i64 0, .int .i64 0, .int .i64 0, .int .i64 0, .int .i64 0, .int .i64 0, .int .i64 0] 24)
  replace o_y := o_y.alloc (.cells #[.bool nlf, .string slf, .string tlf] 33)
  replace o_y := o_y.alloc (.cells #[.int .i64 0, .int .i64 0, .int .i64 0, .int .i64 0, .int .i64 0, .int .i64 0, .int .i64 0, .int .i64 0, .int .i64 0] 24)
  replace o_lf := o_lf.alloc (.cells #[.bool nlf, .string slf, .string tlf] 33)
  replace o_lf := o_lf.alloc (.cells #[.int .i64 0, .int .i64 0, .int .i64 0, .int .i64 0, .int .i64 0, .int .i64 0, .int .i64 0, .int .i64 0, .int .i64 0] 24)
  replace o_p := o_p.alloc (.cells #[.bool nlf, .string slf, .string tlf] 33)
  replace o_p := o_p.alloc (.cells #[.int .i64 0, .int .i64 0, .int .i64 0, .int .i64 0, .int .i64 0, .int .i64 0, .int .i64 0, .int .i64 0, .int .i64 0] 24)
  replace o_q := o_q.alloc (.cells #[.bool nlf, .string slf, .string tlf] 33)
  replace o_q := o_q.alloc (.cells #[.int .i64 0, .int .i64 0, .int .i64 0, .int .i64 0, .int .i64 0, .int .i64 0, .int .i64 0, .int .i64 0, .int .i64 0] 24)
  replace hbw := below6 hbw hz31
  clear hz31
  clear K_rg
  go_wp2_with fail
  generalize ((w30.alloc (.cells #[.bool nlf, .string slf, .string tlf] 33)).alloc (.cells #[.int .i64 0, .int .i64 0, .int .i64 0, .int .i64 0, .int .i64 0, .int .i64 0, .int .i64 0, .int .i64 0, .int .i64 0] 24)) = wa32 at o_a o_b o_c o_ab o_ba o_x o_bc o_y o_lf o_p o_q o_rg o_er hbw ⊢
  generalize w30.heap.size = g32 at o_rg o_er ⊢
  have HER : Hid (∀ k : Nat, k < 9 → wa32.cell? ⟨g32 + 1, k, none⟩ = some (.int .i64 0)) := by
    intro k hk
    rw [o_er.cell]
    match k, hk with
    | 0, _ => rfl
    | 1, _ => rfl
    | 2, _ => rfl
    | 3, _ => rfl
    | 4, _ => rfl
    | 5, _ => rfl
    | 6, _ => rfl
    | 7, _ => rfl
    | 8, _ => rfl
  go_loop [29, 101] (fun _ i => ∃ k : Nat, k ≤ 9 ∧ i = .int .i64 k) (fun _ i => 9 - (intOf i).toNat)
  case atStart => exact ⟨0, by omega, rfl⟩
  case round =>
    obtain ⟨k, hk, rfl⟩ := hrel
    by_cases hlt : k < 9
    · have hc := HER.out k hlt
      have hI : (k : Int) < 9 := by omega
      clear HER
      go_wp2_with fail
      go_round
      case rel => exact ⟨k + 1, by omega, by go_num⟩
      case measure => simp [intOf]; omega
    · obtain rfl : k = 9 := by omega
      clear HER
      have qab_0 : wa32.cell? ⟨g8, 0, none⟩ = some (.bool nab) := o_ab.cell 0
      have qab_1 : wa32.cell? ⟨g8, 1, none⟩ = some (.string sab) := o_ab.cell 1
      have qab_2 : wa32.cell? ⟨g8, 2, none⟩ = some (.string tab) := o_ab.cell 2
      have qba_0 : wa32.cell? ⟨g11, 0, none⟩ = some (.bool nab) := o_ba.cell 0
      have qba_1 : wa32.cell? ⟨g11, 1, none⟩ = some (.string sab) := o_ba.cell 1
      have qba_2 : wa32.cell? ⟨g11, 2, none⟩ = some (.string tab) := o_ba.cell 2
      have qx_0 : wa32.cell? ⟨g14, 0, none⟩ = some (.bool nx) := o_x.cell 0
      have qx_1 : wa32.cell? ⟨g14, 1, none⟩ = some (.string sx) := o_x.cell 1
      have qx_2 : wa32.cell? ⟨g14, 2, none⟩ = some (.string tx) := o_x.cell 2
      have qy_0 : wa32.cell? ⟨g20, 0, none⟩ = some (.bool nx) := o_y.cell 0
      have qy_1 : wa32.cell? ⟨g20, 1, none⟩ = some (.string sx) := o_y.cell 1
      have qy_2 : wa32.cell? ⟨g20, 2, none⟩ = some (.string tx) := o_y.cell 2
      have qlf_0 : wa32.cell? ⟨g23, 0, none⟩ = some (.bool nlf) := o_lf.cell 0
      have qlf_1 : wa32.cell? ⟨g23, 1, none⟩ = some (.string slf) := o_lf.cell 1
      have qlf_2 : wa32.cell? ⟨g23, 2, none⟩ = some (.string tlf) := o_lf.cell 2
      have qrg_0 : wa32.cell? ⟨g32, 0, none⟩ = some (.bool nlf) := o_rg.cell 0
      have qrg_1 : wa32.cell? ⟨g32, 1, none⟩ = some (.string slf) := o_rg.cell 1
      have qrg_2 : wa32.cell? ⟨g32, 2, none⟩ = some (.string tlf) := o_rg.cell 2
      go_wp2_with fail
      clear qab_0 qab_1 qab_2 qba_0 qba_1 qba_2 qx_0 qx_1 qx_2 qy_0 qy_1 qy_2 qlf_0 qlf_1 qlf_2 qrg_0 qrg_1 qrg_2
      refine (known_any _).mono ?_
      rintro e w9 ⟨rfl, hb9⟩
      go_wp2
      go_ret
      exact ⟨rfl, below6 hbw hb9⟩
end Go.Proofs.Ytofijnhkoadfjaa
