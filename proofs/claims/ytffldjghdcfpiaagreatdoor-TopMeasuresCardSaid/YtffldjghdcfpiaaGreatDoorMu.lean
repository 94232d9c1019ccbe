/- Parts of the proof: Sc, Mu. No condition of its own. -/
import Derived.Test.YtffldjghdcfpiaaGreatDoorEq
import Derived.Test.YtffldjghdcfpiaaGreatDoorMt
set_option linter.unusedSimpArgs false
set_option linter.unusedVariables false
set_option linter.unusedSectionVars false
set_option maxRecDepth 100000
set_option maxHeartbeats 4000000
namespace Go.Proofs.YtffldjghdcfpiaaGreatDoor
open Go.RowKit Dg

theorem few_add' {j k : Nat} {x y : Rat} (hx : Few j x) (hy : Few k y) : Few (j + k + 1) (x + y) := by
  have few_lt : ∀ {n k : Nat}, (dec n).length ≤ k → n < 10 ^ k := fun h => Nat.lt_of_lt_of_le (dec_lt _) (Nat.pow_le_pow_right (by decide) h); have e : x + y = mkRat (x.num * y.den + y.num * x.den) (x.den * y.den) := Rat.add_def' x y; have e2 : mkRat (x.num * y.den + y.num * x.den) (x.den * y.den) = rat (decide (x.num * y.den + y.num * x.den < 0)) (x.num * y.den + y.num * x.den).natAbs (x.den * y.den) := by
    unfold rat
    congr 1
    by_cases h : x.num * y.den + y.num * x.den < 0
    · rw [if_pos (by simpa using h)]; omega
    · rw [if_neg (by simpa using h)]; omega
  have hn : (x.num * y.den + y.num * x.den).natAbs ≤ x.num.natAbs * y.den + y.num.natAbs * x.den := by
    have h1 := Int.natAbs_add_le (x.num * y.den) (y.num * x.den); rw [Int.natAbs_mul, Int.natAbs_mul, Int.natAbs_natCast, Int.natAbs_natCast] at h1; exact h1
  rw [e, e2]; generalize (x.num * y.den + y.num * x.den).natAbs = n at hn ⊢; have hd : 0 < x.den * y.den := Nat.mul_pos (den_pos x) (den_pos y); have h1 := few_lt hx.1; have h2 := few_lt hx.2; have h3 := few_lt hy.1; have h4 := few_lt hy.2; have p1 : x.num.natAbs * y.den < 10 ^ (j + k) := by rw [Nat.pow_add]; exact Nat.mul_lt_mul'' h1 h4
  have p2 : y.num.natAbs * x.den < 10 ^ (j + k) := by rw [Nat.add_comm, Nat.pow_add]; exact Nat.mul_lt_mul'' h3 h2
  have p3 : x.den * y.den < 10 ^ (j + k) := by rw [Nat.pow_add]; exact Nat.mul_lt_mul'' h2 h4
  refine few_rat hd (dec_len_le (by omega) ?_) (dec_len_le (by omega) ?_)
  · rw [Nat.pow_succ]; omega
  · rw [Nat.pow_succ]; omega
theorem eadd_yes {x1 y1 x2 y2 : Rat} {j : Nat} (h1 : Few j x1) (h2 : Few j y1) (h3 : Few j x2) (h4 : Few j y2) (hj : j ≤ 9000) (h5 : x1 ≤ y1) (h6 : x2 ≤ y2) : RetV 31 #[IV x1 y1, IV x2 y2] (.tuple #[IV (x1 + x2) (y1 + y2), .int .i64 0]) := by
  have k1 := h1.ok (show j ≤ 20000 by omega); have k2 := h2.ok (show j ≤ 20000 by omega); have k3 := h3.ok (show j ≤ 20000 by omega); have k4 := h4.ok (show j ≤ 20000 by omega); have v1 := evalid_yes k1 k2; have v2 := evalid_yes k3 k4; rw [decide_eq_true h5] at v1; rw [decide_eq_true h6] at v2; exact eadd_core _ _ _ _ _ _ _ _ _ _ _ _ _ _ _ _ _ _ v1 v2 (fun w => (radd_yes k1 k3 w).mono fun e w' ⟨g, hb⟩ => ⟨g.ok ((few_add' h1 h3).ok (by omega)), hb⟩) (fun w => (radd_yes k2 k4 w).mono fun e w' ⟨g, hb⟩ => ⟨g.ok ((few_add' h2 h4).ok (by omega)), hb⟩)
def scLo (x y s : Rat) : Rat := if s < 0 then y * s else x * s
def scHi (x y s : Rat) : Rat := if s < 0 then x * s else y * s
theorem neg_is (s : Rat) : decide (s.num < 0) = decide (s < 0) := by
  rw [decide_eq_decide, ← Rat.not_le, ← Rat.num_nonneg]; omega
theorem escale_yes {x y s : Rat} {j : Nat} (h1 : Few j x) (h2 : Few j y) (h3 : Few j s) (hj0 : 0 < j) (hj : j ≤ 9000) (h5 : x ≤ y) : RetV 30 #[IV x y, RV s] (.tuple #[IV (scLo x y s) (scHi x y s), .int .i64 0]) := by
  have k1 := h1.ok (show j ≤ 20000 by omega); have k2 := h2.ok (show j ≤ 20000 by omega); have k3 := h3.ok (show j ≤ 20000 by omega); have v1 := evalid_yes k1 k2; rw [decide_eq_true h5] at v1; have m1 : RetV 49 #[RV x, RV s] (.tuple #[RV (x * s), .int .i64 0]) := fun w => (rmul_yes k1 k3 w).mono fun e w' ⟨g, hb⟩ => ⟨g.ok ((few_mul' (by omega) h1 h3).ok (by omega)), hb⟩; have m2 : RetV 49 #[RV y, RV s] (.tuple #[RV (y * s), .int .i64 0]) := fun w => (rmul_yes k2 k3 w).mono fun e w' ⟨g, hb⟩ => ⟨g.ok ((few_mul' (by omega) h2 h3).ok (by omega)), hb⟩; have i1 : RetV 35 #[RV s] (.bool true) := fun w => isratio_yes w k3; unfold scLo scHi
  by_cases hs : s < 0
  · rw [if_pos hs, if_pos hs]; have e : RV s = .agg #[.bool true, .string (S s.num.natAbs), .string (S s.den)] := by
      show RatV _ _ _ = _
      rw [neg_is, decide_eq_true hs]
    rw [e] at m1 m2 i1 ⊢; exact escale_neg _ _ _ _ _ _ _ _ _ _ _ _ _ _ v1 i1 m2 m1
  · rw [if_neg hs, if_neg hs]; have e : RV s = .agg #[.bool false, .string (S s.num.natAbs), .string (S s.den)] := by
      show RatV _ _ _ = _
      rw [neg_is, decide_eq_false hs]
    rw [e] at m1 m2 i1 ⊢; exact escale_pos _ _ _ _ _ _ _ _ _ _ _ _ _ _ v1 i1 m1 m2
theorem few_sc {x y s : Rat} {j k : Nat} (h0 : 0 < j + k) (h1 : Few j x) (h2 : Few j y) (h3 : Few k s) : Few (j + k) (scLo x y s) ∧ Few (j + k) (scHi x y s) := by
  unfold scLo scHi
  constructor
  · split
    · exact few_mul' h0 h2 h3
    · exact few_mul' h0 h1 h3
  · split
    · exact few_mul' h0 h1 h3
    · exact few_mul' h0 h2 h3

open Go.RowKit Dg

theorem check_yes {a p q n k : Nat} (hv : VC a p q n) (hk : k ≤ 8) (w : World) :
    Calls Tryz.prog 27 #[.agg #[.int .i64 (a : Int), .int .i64 (p : Int), .int .i64 (q : Int), .int .i64 (n : Int)], .int .i64 (k : Int)] w fun e w' => e = .returned (.int .i64 0) ∧ Below w.heap.size w w' := by
  have HV := Lib.hid hv; clear hv; obtain ⟨o_c, hbw⟩ := new1 w [.int .i64 (a : Int), .int .i64 (p : Int), .int .i64 (q : Int), .int .i64 (n : Int)] 23
  go_enter Tryz.func27, Tryz.ntmps27
  go_upto_region 1 with (fail)
  generalize (w.alloc (.cells #[.int .i64 (a : Int), .int .i64 (p : Int), .int .i64 (q : Int), .int .i64 (n : Int)] 23)) = wb at o_c hbw ⊢; have k1 : decide ((k : Int) < 0) = false := decide_eq_false (by omega); have k2 : decide ((k : Int) > 8) = false := decide_eq_false (by omega); have k3 : decide ((8 : Int) < (k : Int)) = false := decide_eq_false (by omega); have k4 : decide ((0 : Int) ≤ (k : Int)) = true := decide_eq_true (by omega); obtain ⟨qc_0, qc_1, qc_2, qc_3⟩ := o_c.cells4
  go_wp2_with fail
  refine (mvalid_yes HV.out _).mono ?_; rintro e w1 ⟨rfl, hb1⟩; replace o_c := o_c.below hb1 o_c.lt; replace hbw := below6 hbw hb1; clear hb1
  go_wp2
  go_ret
  exact ⟨rfl, hbw⟩
theorem whole_core (n : Int) (nx : Bool) (sx tx : ByteArray) (kx : Int) (h : RetV 7 #[.int .i64 n, .int .i64 1] (.tuple #[.agg #[.bool nx, .string sx, .string tx], .int .i64 kx])) :
    RetV 28 #[.int .i64 n] (.agg #[.bool nx, .string sx, .string tx, .bool nx, .string sx, .string tx]) := by
  intro w; have HM := Lib.hid h; clear h; obtain ⟨o_r, hbw⟩ := new1 w [.bool false, .string ⟨#[]⟩, .string ⟨#[]⟩, .bool false, .string ⟨#[]⟩, .string ⟨#[]⟩] 34
  go_enter Tryz.func28, Tryz.ntmps28
  go_upto_region 1 with (fail)
  generalize (w.alloc (.cells #[.bool false, .string ⟨#[]⟩, .string ⟨#[]⟩, .bool false, .string ⟨#[]⟩, .string ⟨#[]⟩] 34)) = wb at o_r hbw ⊢
  go_wp2_with fail
  refine (HM.out _).mono ?_; rintro e w1 ⟨rfl, hb1⟩; replace o_r := o_r.below hb1 o_r.lt; replace hbw := below6 hbw hb1; clear hb1; obtain ⟨o_x, hz2⟩ := new1 w1 [.bool nx, .string sx, .string tx] 26; replace o_r := o_r.alloc (.cells #[.bool nx, .string sx, .string tx] 26); replace hbw := below6 hbw hz2; clear hz2; obtain ⟨qx_0, qx_1, qx_2⟩ := o_x.cells3; obtain ⟨qr_0, qr_1, qr_2, qr_3, qr_4, qr_5⟩ := o_r.cells6; obtain ⟨fr_0, fr_1, fr_2, fr_3, fr_4, fr_5⟩ := o_r.frozens6
  go_upto_region 2 with (fail)
  generalize (w1.alloc (.cells #[.bool nx, .string sx, .string tx] 26)) = wa3 at o_r o_x hbw ⊢; generalize w1.heap.size = g3 at o_x ⊢; obtain ⟨qx_0, qx_1, qx_2⟩ := o_x.cells3; obtain ⟨qr_0, qr_1, qr_2, qr_3, qr_4, qr_5⟩ := o_r.cells6; obtain ⟨fr_0, fr_1, fr_2, fr_3, fr_4, fr_5⟩ := o_r.frozens6; have oz := o_r.set6 (.bool nx) (.string sx) (.string tx) (.bool nx) (.string sx) (.string tx); have sz9 := Below.set6 hbw (g := w.heap.size) (by omega) (.bool nx) (.string sx) (.string tx) (.bool nx) (.string sx) (.string tx)
  go_wp2_with fail
  generalize ((((((wa3.setCell ⟨w.heap.size, 0, none⟩ (.bool nx)).setCell ⟨w.heap.size, 1, none⟩ (.string sx)).setCell ⟨w.heap.size, 2, none⟩ (.string tx)).setCell ⟨w.heap.size, 3, none⟩ (.bool nx)).setCell ⟨w.heap.size, 4, none⟩ (.string sx)).setCell ⟨w.heap.size, 5, none⟩ (.string tx)) = wz at oz sz9 ⊢; obtain ⟨z0, z1, z2, z3, z4, z5⟩ := oz.cells6; exact bodyPost_ret (v := .agg #[.bool nx, .string sx, .string tx, .bool nx, .string sx, .string tx]) (by simp [results, Tryz.results28, go_sem, z0, z1, z2, z3, z4, z5]) rfl ⟨rfl, sz9⟩
theorem one_few {k m : Nat} (hk : 0 < k) (h : m < 10 ^ k) : Few k (rat false m 1) := few_rat (by decide) (dec_len_le hk h) (dec_len_le hk (Nat.lt_of_lt_of_le (by decide) (Nat.pow_le_pow_right (by decide) hk : 10 ^ 1 ≤ 10 ^ k)))
theorem make_one (n : Nat) (hn : n ≤ 1000000000000) : RetV 7 #[.int .i64 (n : Int), .int .i64 1] (.tuple #[RV (rat false n 1), .int .i64 0]) := by
  intro w; refine (make_any (n : Int) 1 w (by omega) (by omega) (by omega) (by omega) (by decide)).mono ?_; rintro e w1 ⟨hl, hb⟩; have g := hl.toRat (by decide); have e1 : (decide ((n : Int) < 0) != decide ((1 : Int) < 0)) = false := by rw [decide_eq_false (by omega)]; rfl
  rw [e1] at g; have e2 : (n : Int).natAbs = n := by omega
  rw [e2] at g; exact ⟨g.ok ((one_few (k := 13) (by decide) (by omega)).ok (by decide)), hb⟩
theorem whole_yes (n : Nat) (hn : n ≤ 1000000000000) : RetV 28 #[.int .i64 (n : Int)] (IV (rat false n 1) (rat false n 1)) :=
  whole_core _ _ _ _ _ (make_one n hn)
theorem mi_zero {p q n k : Nat} (hv : VC 0 p q n) (hk : k ≤ 8) (w : World) (ht : Tab w) :
    Calls Tryz.prog 15 #[.agg #[.int .i64 0, .int .i64 (p : Int), .int .i64 (q : Int), .int .i64 (n : Int)], .int .i64 (k : Int)] w fun e w' => e = .returned (.tuple #[.agg #[.bool false, .string ⟨#[]⟩, .string ⟨#[]⟩, .bool false, .string ⟨#[]⟩, .string ⟨#[]⟩], .int .i64 14]) ∧ Below w.heap.size w w' := by
  have HV := Lib.hid hv; have HK := Lib.hid hk; have T0 := Lib.hid ht; clear hv hk ht; obtain ⟨o_c, o_r, hbw⟩ := new2 w [.int .i64 0, .int .i64 (p : Int), .int .i64 (q : Int), .int .i64 (n : Int)] [.bool false, .string ⟨#[]⟩, .string ⟨#[]⟩, .bool false, .string ⟨#[]⟩, .string ⟨#[]⟩] 23 34
  go_enter Tryz.func15, Tryz.ntmps15
  go_upto_region 1 with (fail)
  generalize ((w.alloc (.cells #[.int .i64 0, .int .i64 (p : Int), .int .i64 (q : Int), .int .i64 (n : Int)] 23)).alloc (.cells #[.bool false, .string ⟨#[]⟩, .string ⟨#[]⟩, .bool false, .string ⟨#[]⟩, .string ⟨#[]⟩] 34)) = wb at o_c o_r hbw ⊢; obtain ⟨qc_0, qc_1, qc_2, qc_3⟩ := o_c.cells4
  go_wp2_with fail
  clear qc_0 qc_1 qc_2 qc_3; refine (check_yes HV.out HK.out _).mono ?_; rintro e w1 ⟨rfl, hb1⟩; replace o_c := o_c.below hb1 o_c.lt; replace o_r := o_r.below hb1 o_r.lt; replace hbw := below6 hbw hb1; clear hb1; obtain ⟨qc_0, qc_1, qc_2, qc_3⟩ := o_c.cells4; obtain ⟨qr_0, qr_1, qr_2, qr_3, qr_4, qr_5⟩ := o_r.cells6; obtain ⟨fr_0, fr_1, fr_2, fr_3, fr_4, fr_5⟩ := o_r.frozens6; have oz := o_r.set6 (.bool false) (.string ⟨#[]⟩) (.string ⟨#[]⟩) (.bool false) (.string ⟨#[]⟩) (.string ⟨#[]⟩); have sz9 := Below.set6 hbw (g := w.heap.size + 1) (by omega) (.bool false) (.string ⟨#[]⟩) (.string ⟨#[]⟩) (.bool false) (.string ⟨#[]⟩) (.string ⟨#[]⟩)
  go_wp2_with fail
  generalize ((((((w1.setCell ⟨w.heap.size + 1, 0, none⟩ (.bool false)).setCell ⟨w.heap.size + 1, 1, none⟩ (.string ⟨#[]⟩)).setCell ⟨w.heap.size + 1, 2, none⟩ (.string ⟨#[]⟩)).setCell ⟨w.heap.size + 1, 3, none⟩ (.bool false)).setCell ⟨w.heap.size + 1, 4, none⟩ (.string ⟨#[]⟩)).setCell ⟨w.heap.size + 1, 5, none⟩ (.string ⟨#[]⟩)) = wz at oz sz9 ⊢; obtain ⟨z0, z1, z2, z3, z4, z5⟩ := oz.cells6; exact bodyPost_ret (v := .tuple #[.agg #[.bool false, .string ⟨#[]⟩, .string ⟨#[]⟩, .bool false, .string ⟨#[]⟩, .string ⟨#[]⟩], .int .i64 14]) (by simp [results, Tryz.results15, go_sem, z0, z1, z2, z3, z4, z5]) rfl ⟨rfl, sz9⟩
theorem mi_core {a p q n k : Nat} (nx : Bool) (sx tx : ByteArray) (ny : Bool) (sy ty : ByteArray) (nz : Bool) (sz tz : ByteArray) (hv : VC a p q n) (hk : k ≤ 8) (ha : 0 < a) (hq : ∀ e, QRes (prodN [a, n]) (prodN [p, q]) e → e = .returned (.tuple #[.agg #[.bool nx, .string sx, .string tx], .int .i64 0])) (hb : RetV 29 #[.agg #[.bool nx, .string sx, .string tx], .int .i64 (k : Int)] (.tuple #[.agg #[.bool ny, .string sy, .string ty, .bool nz, .string sz, .string tz], .int .i64 0])) (w : World) (ht : Tab w) :
    Calls Tryz.prog 15 #[.agg #[.int .i64 (a : Int), .int .i64 (p : Int), .int .i64 (q : Int), .int .i64 (n : Int)], .int .i64 (k : Int)] w fun e w' => e = .returned (.tuple #[.agg #[.bool ny, .string sy, .string ty, .bool nz, .string sz, .string tz], .int .i64 0]) ∧ Below w.heap.size w w' := by
  have HV := Lib.hid hv; have HK := Lib.hid hk; have T0 := Lib.hid ht; clear hv hk ht; have HA0 := Lib.hid ha; have HEND := Lib.hid hq; have HBI := Lib.hid hb; clear ha hq hb; obtain ⟨o_c, o_r, hbw⟩ := new2 w [.int .i64 (a : Int), .int .i64 (p : Int), .int .i64 (q : Int), .int .i64 (n : Int)] [.bool false, .string ⟨#[]⟩, .string ⟨#[]⟩, .bool false, .string ⟨#[]⟩, .string ⟨#[]⟩] 23 34
  go_enter Tryz.func15, Tryz.ntmps15
  go_upto_region 1 with (fail)
  generalize ((w.alloc (.cells #[.int .i64 (a : Int), .int .i64 (p : Int), .int .i64 (q : Int), .int .i64 (n : Int)] 23)).alloc (.cells #[.bool false, .string ⟨#[]⟩, .string ⟨#[]⟩, .bool false, .string ⟨#[]⟩, .string ⟨#[]⟩] 34)) = wb at o_c o_r hbw ⊢; obtain ⟨qc_0, qc_1, qc_2, qc_3⟩ := o_c.cells4
  go_wp2_with fail
  clear qc_0 qc_1 qc_2 qc_3; refine (check_yes HV.out HK.out _).mono ?_; rintro e w1 ⟨rfl, hb1⟩; replace o_c := o_c.below hb1 o_c.lt; replace o_r := o_r.below hb1 o_r.lt; replace hbw := below6 hbw hb1; clear hb1; have ha0 : decide ((a : Int) = 0) = false := decide_eq_false (by have := HA0.out; omega); have ha1 : decide (a = 0) = false := decide_eq_false (by have := HA0.out; omega); have ha2 : ((a : Int) == 0) = false := beq_eq_false_iff_ne.2 (by have := HA0.out; omega); have ha3 : (a == 0) = false := beq_eq_false_iff_ne.2 (by have := HA0.out; omega); obtain ⟨qc_0, qc_1, qc_2, qc_3⟩ := o_c.cells4
  go_upto_region 6 with (fail)
  have E1 : Hid ([(a : Int), (n : Int)] = [a, n].map fun (x : Nat) => (x : Int)) := by
    have := HV.out.all; exact Lib.hid (by simp <;> omega)
  have M1 : Hid (Smalls [a, n]) := by
    have := HV.out.all; exact Lib.hid ⟨by simp, by simp <;> omega⟩
  have E2 : Hid ([(p : Int), (q : Int)] = [p, q].map fun (x : Nat) => (x : Int)) := by
    have := HV.out.all; exact Lib.hid (by simp <;> omega)
  have M2 : Hid (Smalls [p, q]) := by
    have := HV.out.all; exact Lib.hid ⟨by simp, by simp <;> omega⟩
  obtain ⟨qc_0, qc_1, qc_2, qc_3⟩ := o_c.cells4; obtain ⟨qm0_0, qm0_1, qm0_2, qm0_3⟩ := (o_c.alloc (.cells #[.int .i64 ((a : Int)), .int .i64 ((n : Int))] 3)).cells4; obtain ⟨o_s0, o_s1, hz2⟩ := new2 w1 [.int .i64 ((a : Int)), .int .i64 ((n : Int))] [.int .i64 ((p : Int)), .int .i64 ((q : Int))] 3 3; replace o_c := o_c.alloc (.cells #[.int .i64 ((a : Int)), .int .i64 ((n : Int))] 3); replace o_c := o_c.alloc (.cells #[.int .i64 ((p : Int)), .int .i64 ((q : Int))] 3); replace o_r := o_r.alloc (.cells #[.int .i64 ((a : Int)), .int .i64 ((n : Int))] 3); replace o_r := o_r.alloc (.cells #[.int .i64 ((p : Int)), .int .i64 ((q : Int))] 3); replace hbw := below6 hbw hz2; clear hz2
  go_wp2_with fail
  generalize ((w1.alloc (.cells #[.int .i64 ((a : Int)), .int .i64 ((n : Int))] 3)).alloc (.cells #[.int .i64 ((p : Int)), .int .i64 ((q : Int))] 3)) = wa3 at o_c o_r o_s0 o_s1 hbw ⊢; generalize w1.heap.size = g3 at o_s0 o_s1 ⊢; refine (quot_any HV.out (some ⟨g3, 0, none⟩) [(a : Int), (n : Int)] [a, n] 2 (some ⟨g3 + 1, 0, none⟩) [(p : Int), (q : Int)] [p, q] 2 _ o_s0.rd0 E1.out (by simp) (by decide) M1.out o_s1.rd0 E2.out (by simp) (by decide) M2.out (T0.out.below hbw)).mono ?_; rintro e w9 ⟨hq, hb9⟩; have he := HEND.out _ hq; subst he; replace o_c := o_c.below hb9 o_c.lt; replace o_r := o_r.below hb9 o_r.lt; replace hbw := below6 hbw hb9; clear hb9 hq o_s0 o_s1; obtain ⟨o_x, hz4⟩ := new1 w9 [.bool nx, .string sx, .string tx] 26; replace o_c := o_c.alloc (.cells #[.bool nx, .string sx, .string tx] 26); replace o_r := o_r.alloc (.cells #[.bool nx, .string sx, .string tx] 26); replace hbw := below6 hbw hz4
  clear hz4
  go_upto_region 9 with (fail)
  generalize (w9.alloc (.cells #[.bool nx, .string sx, .string tx] 26)) = wa5 at o_c o_r o_x hbw ⊢; generalize w9.heap.size = g5 at o_x ⊢; obtain ⟨qx_0, qx_1, qx_2⟩ := o_x.cells3
  go_wp2_with fail
  clear qx_0 qx_1 qx_2; refine (HBI.out _).mono ?_; rintro e w6 ⟨rfl, hb6⟩; replace o_c := o_c.below hb6 o_c.lt; replace o_r := o_r.below hb6 o_r.lt; replace o_x := o_x.below hb6 o_x.lt; replace hbw := below6 hbw hb6; clear hb6; obtain ⟨qr_0, qr_1, qr_2, qr_3, qr_4, qr_5⟩ := o_r.cells6; obtain ⟨fr_0, fr_1, fr_2, fr_3, fr_4, fr_5⟩ := o_r.frozens6; have oz := o_r.set6 (.bool ny) (.string sy) (.string ty) (.bool nz) (.string sz) (.string tz); have sz9 := Below.set6 hbw (g := w.heap.size + 1) (by omega) (.bool ny) (.string sy) (.string ty) (.bool nz) (.string sz) (.string tz)
  go_wp2_with fail
  generalize ((((((w6.setCell ⟨w.heap.size + 1, 0, none⟩ (.bool ny)).setCell ⟨w.heap.size + 1, 1, none⟩ (.string sy)).setCell ⟨w.heap.size + 1, 2, none⟩ (.string ty)).setCell ⟨w.heap.size + 1, 3, none⟩ (.bool nz)).setCell ⟨w.heap.size + 1, 4, none⟩ (.string sz)).setCell ⟨w.heap.size + 1, 5, none⟩ (.string tz)) = wz at oz sz9 ⊢; obtain ⟨z0, z1, z2, z3, z4, z5⟩ := oz.cells6; exact bodyPost_ret (v := .tuple #[.agg #[.bool ny, .string sy, .string ty, .bool nz, .string sz, .string tz], .int .i64 0]) (by simp [results, Tryz.results15, go_sem, z0, z1, z2, z3, z4, z5]) rfl ⟨rfl, sz9⟩
end Go.Proofs.YtffldjghdcfpiaaGreatDoor
