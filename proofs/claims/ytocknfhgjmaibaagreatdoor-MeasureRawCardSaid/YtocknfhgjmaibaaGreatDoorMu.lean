/- Parts of the proof: Mu. No condition of its own. -/
import Derived.Test.YtocknfhgjmaibaaGreatDoorMt
import Derived.Test.YtocknfhgjmaibaaGreatDoorSc
set_option linter.unusedSimpArgs false
set_option linter.unusedVariables false
set_option linter.unusedSectionVars false
set_option maxRecDepth 100000
set_option maxHeartbeats 4000000
namespace Go.Proofs.YtocknfhgjmaibaaGreatDoor
open Go.RowKit Dg

theorem check_yes {a p q n k : Nat} (hv : VC a p q n) (hk : k ≤ 8) (w : World) :
    Calls Tryz.prog 43 #[.agg #[.int .i64 (a : Int), .int .i64 (p : Int), .int .i64 (q : Int), .int .i64 (n : Int)], .int .i64 (k : Int)] w fun e w' => e = .returned (.int .i64 0) ∧ Below w.heap.size w w' := by
  have HV := Lib.hid hv; clear hv; obtain ⟨o_c, hbw⟩ := new1 w [.int .i64 (a : Int), .int .i64 (p : Int), .int .i64 (q : Int), .int .i64 (n : Int)] 23
  go_enter Tryz.func43, Tryz.ntmps43
  go_upto_region 1 with (fail)
  generalize (w.alloc (.cells #[.int .i64 (a : Int), .int .i64 (p : Int), .int .i64 (q : Int), .int .i64 (n : Int)] 23)) = wb at o_c hbw ⊢; have k1 : decide ((k : Int) < 0) = false := decide_eq_false (by omega); have k2 : decide ((k : Int) > 8) = false := decide_eq_false (by omega); have k3 : decide ((8 : Int) < (k : Int)) = false := decide_eq_false (by omega); have k4 : decide ((0 : Int) ≤ (k : Int)) = true := decide_eq_true (by omega); obtain ⟨qc_0, qc_1, qc_2, qc_3⟩ := o_c.cells4
  go_wp2_with fail
  refine (mvalid_yes HV.out _).mono ?_; rintro e w1 ⟨rfl, hb1⟩; replace o_c := o_c.below hb1 o_c.lt; replace hbw := below6 hbw hb1; clear hb1
  go_wp2
  go_ret
  exact ⟨rfl, hbw⟩
theorem whole_core (n : Int) (nx : Bool) (sx tx : ByteArray) (kx : Int) (h : RetV 69 #[.int .i64 n, .int .i64 1] (.tuple #[.agg #[.bool nx, .string sx, .string tx], .int .i64 kx])) :
    RetV 47 #[.int .i64 n] (.agg #[.bool nx, .string sx, .string tx, .bool nx, .string sx, .string tx]) := by
  intro w; have HM := Lib.hid h; clear h; obtain ⟨o_r, hbw⟩ := new1 w [.bool false, .string ⟨#[]⟩, .string ⟨#[]⟩, .bool false, .string ⟨#[]⟩, .string ⟨#[]⟩] 33
  go_enter Tryz.func47, Tryz.ntmps47
  go_upto_region 1 with (fail)
  generalize (w.alloc (.cells #[.bool false, .string ⟨#[]⟩, .string ⟨#[]⟩, .bool false, .string ⟨#[]⟩, .string ⟨#[]⟩] 33)) = wb at o_r hbw ⊢
  go_wp2_with fail
  refine (HM.out _).mono ?_; rintro e w1 ⟨rfl, hb1⟩; replace o_r := o_r.below hb1 o_r.lt; replace hbw := below6 hbw hb1; clear hb1; obtain ⟨o_x, hz2⟩ := new1 w1 [.bool nx, .string sx, .string tx] 27; replace o_r := o_r.alloc (.cells #[.bool nx, .string sx, .string tx] 27); replace hbw := below6 hbw hz2; clear hz2; obtain ⟨qx_0, qx_1, qx_2⟩ := o_x.cells3; obtain ⟨qr_0, qr_1, qr_2, qr_3, qr_4, qr_5⟩ := o_r.cells6; obtain ⟨fr_0, fr_1, fr_2, fr_3, fr_4, fr_5⟩ := o_r.frozens6
  go_upto_region 2 with (fail)
  generalize (w1.alloc (.cells #[.bool nx, .string sx, .string tx] 27)) = wa3 at o_r o_x hbw ⊢; generalize w1.heap.size = g3 at o_x ⊢; obtain ⟨qx_0, qx_1, qx_2⟩ := o_x.cells3; obtain ⟨qr_0, qr_1, qr_2, qr_3, qr_4, qr_5⟩ := o_r.cells6; obtain ⟨fr_0, fr_1, fr_2, fr_3, fr_4, fr_5⟩ := o_r.frozens6; have oz := o_r.set6 (.bool nx) (.string sx) (.string tx) (.bool nx) (.string sx) (.string tx); have sz9 := Below.set6 hbw (g := w.heap.size) (by omega) (.bool nx) (.string sx) (.string tx) (.bool nx) (.string sx) (.string tx)
  go_wp2_with fail
  generalize ((((((wa3.setCell ⟨w.heap.size, 0, none⟩ (.bool nx)).setCell ⟨w.heap.size, 1, none⟩ (.string sx)).setCell ⟨w.heap.size, 2, none⟩ (.string tx)).setCell ⟨w.heap.size, 3, none⟩ (.bool nx)).setCell ⟨w.heap.size, 4, none⟩ (.string sx)).setCell ⟨w.heap.size, 5, none⟩ (.string tx)) = wz at oz sz9 ⊢; obtain ⟨z0, z1, z2, z3, z4, z5⟩ := oz.cells6; exact bodyPost_ret (v := .agg #[.bool nx, .string sx, .string tx, .bool nx, .string sx, .string tx]) (by simp [results, Tryz.results47, go_sem, z0, z1, z2, z3, z4, z5]) rfl ⟨rfl, sz9⟩
theorem one_few {k m : Nat} (hk : 0 < k) (h : m < 10 ^ k) : Few k (rat false m 1) := few_rat (by decide) (dec_len_le hk h) (dec_len_le hk (Nat.lt_of_lt_of_le (by decide) (Nat.pow_le_pow_right (by decide) hk : 10 ^ 1 ≤ 10 ^ k)))
theorem make_one (n : Nat) (hn : n ≤ 1000000000000) : RetV 69 #[.int .i64 (n : Int), .int .i64 1] (.tuple #[RV (rat false n 1), .int .i64 0]) := by
  intro w; refine (make_any (n : Int) 1 w (by omega) (by omega) (by omega) (by omega) (by decide)).mono ?_; rintro e w1 ⟨hl, hb⟩; have g := hl.toRat (by decide); have e1 : (decide ((n : Int) < 0) != decide ((1 : Int) < 0)) = false := by rw [decide_eq_false (by omega)]; rfl
  rw [e1] at g; have e2 : (n : Int).natAbs = n := by omega
  rw [e2] at g; exact ⟨g.ok ((one_few (k := 13) (by decide) (by omega)).ok (by decide)), hb⟩
theorem whole_yes (n : Nat) (hn : n ≤ 1000000000000) : RetV 47 #[.int .i64 (n : Int)] (IV (rat false n 1) (rat false n 1)) :=
  whole_core _ _ _ _ _ (make_one n hn)
theorem odds_yes {a p q n : Nat} (hv : VC a p q n) (w : World) (ht : Tab w) :
    Calls Tryz.prog 20 #[.agg #[.int .i64 (a : Int), .int .i64 (p : Int), .int .i64 (q : Int), .int .i64 (n : Int)]] w fun e w' => QRes (prodN [a, n + a - p - q]) (prodN [p - a, q - a]) e ∧ Below w.heap.size w w' := by
  have HV := Lib.hid hv; have T0 := Lib.hid ht; obtain ⟨nz, sz, tz, kz, hend, hres⟩ := qres_one (prodN [a, n + a - p - q]) (prodN [p - a, q - a]); have HEND := Lib.hid hend; have HRES := Lib.hid hres; clear hv ht hend hres; obtain ⟨o_c, o_r, hbw⟩ := new2 w [.int .i64 (a : Int), .int .i64 (p : Int), .int .i64 (q : Int), .int .i64 (n : Int)] [.bool false, .string ⟨#[]⟩, .string ⟨#[]⟩] 23 27
  go_enter Tryz.func20, Tryz.ntmps20
  go_upto_region 1 with (fail)
  generalize ((w.alloc (.cells #[.int .i64 (a : Int), .int .i64 (p : Int), .int .i64 (q : Int), .int .i64 (n : Int)] 23)).alloc (.cells #[.bool false, .string ⟨#[]⟩, .string ⟨#[]⟩] 27)) = wb at o_c o_r hbw ⊢; obtain ⟨qc_0, qc_1, qc_2, qc_3⟩ := o_c.cells4
  go_wp2_with fail
  clear qc_0 qc_1 qc_2 qc_3; refine (mvalid_yes HV.out _).mono ?_; rintro e w1 ⟨rfl, hb1⟩; replace o_c := o_c.below hb1 o_c.lt; replace o_r := o_r.below hb1 o_r.lt; replace hbw := below6 hbw hb1; clear hb1; obtain ⟨qc_0, qc_1, qc_2, qc_3⟩ := o_c.cells4
  go_wp2_with fail
  clear qc_0 qc_1 qc_2 qc_3; refine (observed_yes HV.out _).mono ?_; rintro e w2 ⟨rfl, hb2⟩; replace o_c := o_c.below hb2 o_c.lt; replace o_r := o_r.below hb2 o_r.lt; replace hbw := below6 hbw hb2; clear hb2; obtain ⟨o_o, hz3⟩ := new1 w2 [.int .i64 ((a : Int)), .int .i64 ((p : Int) - (a : Int)), .int .i64 ((q : Int) - (a : Int)), .int .i64 ((n : Int) - (p : Int) - (q : Int) + (a : Int))] 40; replace o_c := o_c.alloc (.cells #[.int .i64 ((a : Int)), .int .i64 ((p : Int) - (a : Int)), .int .i64 ((q : Int) - (a : Int)), .int .i64 ((n : Int) - (p : Int) - (q : Int) + (a : Int))] 40); replace o_r := o_r.alloc (.cells #[.int .i64 ((a : Int)), .int .i64 ((p : Int) - (a : Int)), .int .i64 ((q : Int) - (a : Int)), .int .i64 ((n : Int) - (p : Int) - (q : Int) + (a : Int))] 40); replace hbw := below6 hbw hz3; clear hz3; obtain ⟨qo_0, qo_1, qo_2, qo_3⟩ := o_o.cells4; obtain ⟨qc_0, qc_1, qc_2, qc_3⟩ := o_c.cells4
  go_upto_region 4 with (fail)
  generalize (w2.alloc (.cells #[.int .i64 ((a : Int)), .int .i64 ((p : Int) - (a : Int)), .int .i64 ((q : Int) - (a : Int)), .int .i64 ((n : Int) - (p : Int) - (q : Int) + (a : Int))] 40)) = wa4 at o_c o_r o_o hbw ⊢; generalize w2.heap.size = g4 at o_o ⊢; have E1 : Hid ([(a : Int), (n : Int) - (p : Int) - (q : Int) + (a : Int)] = [a, n + a - p - q].map fun (x : Nat) => (x : Int)) := by
    have := HV.out.all; exact Lib.hid (by simp <;> omega)
  have M1 : Hid (Smalls [a, n + a - p - q]) := by
    have := HV.out.all; exact Lib.hid ⟨by simp, by simp <;> omega⟩
  have E2 : Hid ([(p : Int) - (a : Int), (q : Int) - (a : Int)] = [p - a, q - a].map fun (x : Nat) => (x : Int)) := by
    have := HV.out.all; exact Lib.hid (by simp <;> omega)
  have M2 : Hid (Smalls [p - a, q - a]) := by
    have := HV.out.all; exact Lib.hid ⟨by simp, by simp <;> omega⟩
  obtain ⟨qc_0, qc_1, qc_2, qc_3⟩ := o_c.cells4; obtain ⟨qo_0, qo_1, qo_2, qo_3⟩ := o_o.cells4; obtain ⟨qm0_0, qm0_1, qm0_2, qm0_3⟩ := (o_c.alloc (.cells #[.int .i64 ((a : Int)), .int .i64 ((n : Int) - (p : Int) - (q : Int) + (a : Int))] 3)).cells4; obtain ⟨qn0_0, qn0_1, qn0_2, qn0_3⟩ := (o_o.alloc (.cells #[.int .i64 ((a : Int)), .int .i64 ((n : Int) - (p : Int) - (q : Int) + (a : Int))] 3)).cells4; obtain ⟨o_s0, o_s1, hz5⟩ := new2 wa4 [.int .i64 ((a : Int)), .int .i64 ((n : Int) - (p : Int) - (q : Int) + (a : Int))] [.int .i64 ((p : Int) - (a : Int)), .int .i64 ((q : Int) - (a : Int))] 3 3; replace o_c := o_c.alloc (.cells #[.int .i64 ((a : Int)), .int .i64 ((n : Int) - (p : Int) - (q : Int) + (a : Int))] 3); replace o_c := o_c.alloc (.cells #[.int .i64 ((p : Int) - (a : Int)), .int .i64 ((q : Int) - (a : Int))] 3); replace o_r := o_r.alloc (.cells #[.int .i64 ((a : Int)), .int .i64 ((n : Int) - (p : Int) - (q : Int) + (a : Int))] 3)
  replace o_r := o_r.alloc (.cells #[.int .i64 ((p : Int) - (a : Int)), .int .i64 ((q : Int) - (a : Int))] 3); replace o_o := o_o.alloc (.cells #[.int .i64 ((a : Int)), .int .i64 ((n : Int) - (p : Int) - (q : Int) + (a : Int))] 3); replace o_o := o_o.alloc (.cells #[.int .i64 ((p : Int) - (a : Int)), .int .i64 ((q : Int) - (a : Int))] 3); replace hbw := below6 hbw hz5; clear hz5
  go_wp2_with fail
  generalize ((wa4.alloc (.cells #[.int .i64 ((a : Int)), .int .i64 ((n : Int) - (p : Int) - (q : Int) + (a : Int))] 3)).alloc (.cells #[.int .i64 ((p : Int) - (a : Int)), .int .i64 ((q : Int) - (a : Int))] 3)) = wa6 at o_c o_r o_o o_s0 o_s1 hbw ⊢; generalize wa4.heap.size = g6 at o_s0 o_s1 ⊢; refine (quot_any HV.out (some ⟨g6, 0, none⟩) [(a : Int), (n : Int) - (p : Int) - (q : Int) + (a : Int)] [a, n + a - p - q] 2 (some ⟨g6 + 1, 0, none⟩) [(p : Int) - (a : Int), (q : Int) - (a : Int)] [p - a, q - a] 2 _ o_s0.rd0 E1.out (by simp) (by decide) M1.out o_s1.rd0 E2.out (by simp) (by decide) M2.out (T0.out.below hbw)).mono ?_; rintro e w9 ⟨hq, hb9⟩; have he := HEND.out _ hq; subst he; replace o_c := o_c.below hb9 o_c.lt; replace o_r := o_r.below hb9 o_r.lt; replace hbw := below6 hbw hb9; clear hb9 hq o_s0 o_s1; obtain ⟨qr_0, qr_1, qr_2⟩ := o_r.cells3; obtain ⟨fr_0, fr_1, fr_2⟩ := o_r.frozens3
  have oz := o_r.set3 (.bool nz) (.string sz) (.string tz); have sz9 := Below.set3 hbw (g := w.heap.size + 1) (by omega) (.bool nz) (.string sz) (.string tz)
  go_wp2_with fail
  generalize (((w9.setCell ⟨w.heap.size + 1, 0, none⟩ (.bool nz)).setCell ⟨w.heap.size + 1, 1, none⟩ (.string sz)).setCell ⟨w.heap.size + 1, 2, none⟩ (.string tz)) = wz at oz sz9 ⊢; obtain ⟨z0, z1, z2⟩ := oz.cells3; exact bodyPost_ret (v := .tuple #[.agg #[.bool nz, .string sz, .string tz], .int .i64 kz]) (by simp [results, Tryz.results20, go_sem, z0, z1, z2]) rfl ⟨HRES.out, sz9⟩
theorem mi_zero {p q n k : Nat} (hv : VC 0 p q n) (hk : k ≤ 8) (w : World) (ht : Tab w) :
    Calls Tryz.prog 22 #[.agg #[.int .i64 0, .int .i64 (p : Int), .int .i64 (q : Int), .int .i64 (n : Int)], .int .i64 (k : Int)] w fun e w' => e = .returned (.tuple #[.agg #[.bool false, .string ⟨#[]⟩, .string ⟨#[]⟩, .bool false, .string ⟨#[]⟩, .string ⟨#[]⟩], .int .i64 14]) ∧ Below w.heap.size w w' := by
  have HV := Lib.hid hv; have HK := Lib.hid hk; have T0 := Lib.hid ht; clear hv hk ht; obtain ⟨o_c, o_r, hbw⟩ := new2 w [.int .i64 0, .int .i64 (p : Int), .int .i64 (q : Int), .int .i64 (n : Int)] [.bool false, .string ⟨#[]⟩, .string ⟨#[]⟩, .bool false, .string ⟨#[]⟩, .string ⟨#[]⟩] 23 33
  go_enter Tryz.func22, Tryz.ntmps22
  go_upto_region 1 with (fail)
  generalize ((w.alloc (.cells #[.int .i64 0, .int .i64 (p : Int), .int .i64 (q : Int), .int .i64 (n : Int)] 23)).alloc (.cells #[.bool false, .string ⟨#[]⟩, .string ⟨#[]⟩, .bool false, .string ⟨#[]⟩, .string ⟨#[]⟩] 33)) = wb at o_c o_r hbw ⊢; obtain ⟨qc_0, qc_1, qc_2, qc_3⟩ := o_c.cells4
  go_wp2_with fail
  clear qc_0 qc_1 qc_2 qc_3; refine (check_yes HV.out HK.out _).mono ?_; rintro e w1 ⟨rfl, hb1⟩; replace o_c := o_c.below hb1 o_c.lt; replace o_r := o_r.below hb1 o_r.lt; replace hbw := below6 hbw hb1; clear hb1; obtain ⟨qc_0, qc_1, qc_2, qc_3⟩ := o_c.cells4; obtain ⟨qr_0, qr_1, qr_2, qr_3, qr_4, qr_5⟩ := o_r.cells6; obtain ⟨fr_0, fr_1, fr_2, fr_3, fr_4, fr_5⟩ := o_r.frozens6; have oz := o_r.set6 (.bool false) (.string ⟨#[]⟩) (.string ⟨#[]⟩) (.bool false) (.string ⟨#[]⟩) (.string ⟨#[]⟩); have sz9 := Below.set6 hbw (g := w.heap.size + 1) (by omega) (.bool false) (.string ⟨#[]⟩) (.string ⟨#[]⟩) (.bool false) (.string ⟨#[]⟩) (.string ⟨#[]⟩)
  go_wp2_with fail
  generalize ((((((w1.setCell ⟨w.heap.size + 1, 0, none⟩ (.bool false)).setCell ⟨w.heap.size + 1, 1, none⟩ (.string ⟨#[]⟩)).setCell ⟨w.heap.size + 1, 2, none⟩ (.string ⟨#[]⟩)).setCell ⟨w.heap.size + 1, 3, none⟩ (.bool false)).setCell ⟨w.heap.size + 1, 4, none⟩ (.string ⟨#[]⟩)).setCell ⟨w.heap.size + 1, 5, none⟩ (.string ⟨#[]⟩)) = wz at oz sz9 ⊢; obtain ⟨z0, z1, z2, z3, z4, z5⟩ := oz.cells6; exact bodyPost_ret (v := .tuple #[.agg #[.bool false, .string ⟨#[]⟩, .string ⟨#[]⟩, .bool false, .string ⟨#[]⟩, .string ⟨#[]⟩], .int .i64 14]) (by simp [results, Tryz.results22, go_sem, z0, z1, z2, z3, z4, z5]) rfl ⟨rfl, sz9⟩
theorem mi_core {a p q n k : Nat} (nx : Bool) (sx tx : ByteArray) (ny : Bool) (sy ty : ByteArray) (nz : Bool) (sz tz : ByteArray) (hv : VC a p q n) (hk : k ≤ 8) (ha : 0 < a) (hq : ∀ e, QRes (prodN [a, n]) (prodN [p, q]) e → e = .returned (.tuple #[.agg #[.bool nx, .string sx, .string tx], .int .i64 0])) (hb : RetV 44 #[.agg #[.bool nx, .string sx, .string tx], .int .i64 (k : Int)] (.tuple #[.agg #[.bool ny, .string sy, .string ty, .bool nz, .string sz, .string tz], .int .i64 0])) (w : World) (ht : Tab w) :
    Calls Tryz.prog 22 #[.agg #[.int .i64 (a : Int), .int .i64 (p : Int), .int .i64 (q : Int), .int .i64 (n : Int)], .int .i64 (k : Int)] w fun e w' => e = .returned (.tuple #[.agg #[.bool ny, .string sy, .string ty, .bool nz, .string sz, .string tz], .int .i64 0]) ∧ Below w.heap.size w w' := by
  have HV := Lib.hid hv; have HK := Lib.hid hk; have T0 := Lib.hid ht; clear hv hk ht; have HA0 := Lib.hid ha; have HEND := Lib.hid hq; have HBI := Lib.hid hb; clear ha hq hb; obtain ⟨o_c, o_r, hbw⟩ := new2 w [.int .i64 (a : Int), .int .i64 (p : Int), .int .i64 (q : Int), .int .i64 (n : Int)] [.bool false, .string ⟨#[]⟩, .string ⟨#[]⟩, .bool false, .string ⟨#[]⟩, .string ⟨#[]⟩] 23 33
  go_enter Tryz.func22, Tryz.ntmps22
  go_upto_region 1 with (fail)
  generalize ((w.alloc (.cells #[.int .i64 (a : Int), .int .i64 (p : Int), .int .i64 (q : Int), .int .i64 (n : Int)] 23)).alloc (.cells #[.bool false, .string ⟨#[]⟩, .string ⟨#[]⟩, .bool false, .string ⟨#[]⟩, .string ⟨#[]⟩] 33)) = wb at o_c o_r hbw ⊢; obtain ⟨qc_0, qc_1, qc_2, qc_3⟩ := o_c.cells4
  go_wp2_with fail
  clear qc_0 qc_1 qc_2 qc_3; refine (check_yes HV.out HK.out _).mono ?_; rintro e w1 ⟨rfl, hb1⟩; replace o_c := o_c.below hb1 o_c.lt; replace o_r := o_r.below hb1 o_r.lt; replace hbw := below6 hbw hb1; clear hb1; have ha0 : decide ((a : Int) = 0) = false := decide_eq_false (by have := HA0.out; omega); have ha1 : decide (a = 0) = false := decide_eq_false (by have := HA0.out; omega); have ha2 : ((a : Int) == 0) = false := beq_eq_false_iff_ne.2 (by have := HA0.out; omega); have ha3 : (a == 0) = false := beq_eq_false_iff_ne.2 (by have := HA0.out; omega); obtain ⟨qc_0, qc_1, qc_2, qc_3⟩ := o_c.cells4
  go_upto_region 6 with (fail)
  have E1 : Hid ([(a : Int), (n : Int)] = [a, n].map fun (x : Nat) => (x : Int)) := by
    have := HV.out.all; exact Lib.hid (by simp <;> omega)
  have M1 : Hid (Smalls [a, n]) := by
    have := HV.out.all; exact Lib.hid ⟨by simp, by simp <;> omega⟩
  have E2 : Hid ([(p : Int), (q : Int)] = [p, q].map fun (x : Nat) => (x : Int)) := by
    have := HV.out.all; exact Lib.hid (by simp <;> omega)
  have M2 : Hid (Smalls [p, q]) := by
    have := HV.out.all; exact Lib.hid ⟨by simp, by simp <;> omega⟩
  obtain ⟨qc_0, qc_1, qc_2, qc_3⟩ := o_c.cells4; obtain ⟨qm0_0, qm0_1, qm0_2, qm0_3⟩ := (o_c.alloc (.cells #[.int .i64 ((a : Int)), .int .i64 ((n : Int))] 3)).cells4; obtain ⟨o_s0, o_s1, hz2⟩ := new2 w1 [.int .i64 ((a : Int)), .int .i64 ((n : Int))] [.int .i64 ((p : Int)), .int .i64 ((q : Int))] 3 3; replace o_c := o_c.alloc (.cells #[.int .i64 ((a : Int)), .int .i64 ((n : Int))] 3); replace o_c := o_c.alloc (.cells #[.int .i64 ((p : Int)), .int .i64 ((q : Int))] 3); replace o_r := o_r.alloc (.cells #[.int .i64 ((a : Int)), .int .i64 ((n : Int))] 3); replace o_r := o_r.alloc (.cells #[.int .i64 ((p : Int)), .int .i64 ((q : Int))] 3); replace hbw := below6 hbw hz2; clear hz2
  go_wp2_with fail
  generalize ((w1.alloc (.cells #[.int .i64 ((a : Int)), .int .i64 ((n : Int))] 3)).alloc (.cells #[.int .i64 ((p : Int)), .int .i64 ((q : Int))] 3)) = wa3 at o_c o_r o_s0 o_s1 hbw ⊢; generalize w1.heap.size = g3 at o_s0 o_s1 ⊢; refine (quot_any HV.out (some ⟨g3, 0, none⟩) [(a : Int), (n : Int)] [a, n] 2 (some ⟨g3 + 1, 0, none⟩) [(p : Int), (q : Int)] [p, q] 2 _ o_s0.rd0 E1.out (by simp) (by decide) M1.out o_s1.rd0 E2.out (by simp) (by decide) M2.out (T0.out.below hbw)).mono ?_; rintro e w9 ⟨hq, hb9⟩; have he := HEND.out _ hq; subst he; replace o_c := o_c.below hb9 o_c.lt; replace o_r := o_r.below hb9 o_r.lt; replace hbw := below6 hbw hb9; clear hb9 hq o_s0 o_s1; obtain ⟨o_x, hz4⟩ := new1 w9 [.bool nx, .string sx, .string tx] 27; replace o_c := o_c.alloc (.cells #[.bool nx, .string sx, .string tx] 27); replace o_r := o_r.alloc (.cells #[.bool nx, .string sx, .string tx] 27); replace hbw := below6 hbw hz4
  clear hz4
  go_upto_region 9 with (fail)
  generalize (w9.alloc (.cells #[.bool nx, .string sx, .string tx] 27)) = wa5 at o_c o_r o_x hbw ⊢; generalize w9.heap.size = g5 at o_x ⊢; obtain ⟨qx_0, qx_1, qx_2⟩ := o_x.cells3
  go_wp2_with fail
  clear qx_0 qx_1 qx_2; refine (HBI.out _).mono ?_; rintro e w6 ⟨rfl, hb6⟩; replace o_c := o_c.below hb6 o_c.lt; replace o_r := o_r.below hb6 o_r.lt; replace o_x := o_x.below hb6 o_x.lt; replace hbw := below6 hbw hb6; clear hb6; obtain ⟨qr_0, qr_1, qr_2, qr_3, qr_4, qr_5⟩ := o_r.cells6; obtain ⟨fr_0, fr_1, fr_2, fr_3, fr_4, fr_5⟩ := o_r.frozens6; have oz := o_r.set6 (.bool ny) (.string sy) (.string ty) (.bool nz) (.string sz) (.string tz); have sz9 := Below.set6 hbw (g := w.heap.size + 1) (by omega) (.bool ny) (.string sy) (.string ty) (.bool nz) (.string sz) (.string tz)
  go_wp2_with fail
  generalize ((((((w6.setCell ⟨w.heap.size + 1, 0, none⟩ (.bool ny)).setCell ⟨w.heap.size + 1, 1, none⟩ (.string sy)).setCell ⟨w.heap.size + 1, 2, none⟩ (.string ty)).setCell ⟨w.heap.size + 1, 3, none⟩ (.bool nz)).setCell ⟨w.heap.size + 1, 4, none⟩ (.string sz)).setCell ⟨w.heap.size + 1, 5, none⟩ (.string tz)) = wz at oz sz9 ⊢; obtain ⟨z0, z1, z2, z3, z4, z5⟩ := oz.cells6; exact bodyPost_ret (v := .tuple #[.agg #[.bool ny, .string sy, .string ty, .bool nz, .string sz, .string tz], .int .i64 0]) (by simp [results, Tryz.results22, go_sem, z0, z1, z2, z3, z4, z5]) rfl ⟨rfl, sz9⟩
theorem ld_zero {p q n k : Nat} (hv : VC 0 p q n) (hk : k ≤ 8) (w : World) (ht : Tab w) :
    Calls Tryz.prog 26 #[.agg #[.int .i64 0, .int .i64 (p : Int), .int .i64 (q : Int), .int .i64 (n : Int)], .int .i64 (k : Int)] w fun e w' => e = .returned (.tuple #[.agg #[.bool false, .string ⟨#[]⟩, .string ⟨#[]⟩, .bool false, .string ⟨#[]⟩, .string ⟨#[]⟩], .int .i64 14]) ∧ Below w.heap.size w w' := by
  have HV := Lib.hid hv; have HK := Lib.hid hk; have T0 := Lib.hid ht; clear hv hk ht; obtain ⟨o_c, o_r, hbw⟩ := new2 w [.int .i64 0, .int .i64 (p : Int), .int .i64 (q : Int), .int .i64 (n : Int)] [.bool false, .string ⟨#[]⟩, .string ⟨#[]⟩, .bool false, .string ⟨#[]⟩, .string ⟨#[]⟩] 23 33
  go_enter Tryz.func26, Tryz.ntmps26
  go_upto_region 1 with (fail)
  generalize ((w.alloc (.cells #[.int .i64 0, .int .i64 (p : Int), .int .i64 (q : Int), .int .i64 (n : Int)] 23)).alloc (.cells #[.bool false, .string ⟨#[]⟩, .string ⟨#[]⟩, .bool false, .string ⟨#[]⟩, .string ⟨#[]⟩] 33)) = wb at o_c o_r hbw ⊢; obtain ⟨qc_0, qc_1, qc_2, qc_3⟩ := o_c.cells4
  go_wp2_with fail
  clear qc_0 qc_1 qc_2 qc_3; refine (check_yes HV.out HK.out _).mono ?_; rintro e w1 ⟨rfl, hb1⟩; replace o_c := o_c.below hb1 o_c.lt; replace o_r := o_r.below hb1 o_r.lt; replace hbw := below6 hbw hb1; clear hb1; obtain ⟨qc_0, qc_1, qc_2, qc_3⟩ := o_c.cells4; obtain ⟨qr_0, qr_1, qr_2, qr_3, qr_4, qr_5⟩ := o_r.cells6; obtain ⟨fr_0, fr_1, fr_2, fr_3, fr_4, fr_5⟩ := o_r.frozens6; have oz := o_r.set6 (.bool false) (.string ⟨#[]⟩) (.string ⟨#[]⟩) (.bool false) (.string ⟨#[]⟩) (.string ⟨#[]⟩); have sz9 := Below.set6 hbw (g := w.heap.size + 1) (by omega) (.bool false) (.string ⟨#[]⟩) (.string ⟨#[]⟩) (.bool false) (.string ⟨#[]⟩) (.string ⟨#[]⟩)
  go_wp2_with fail
  generalize ((((((w1.setCell ⟨w.heap.size + 1, 0, none⟩ (.bool false)).setCell ⟨w.heap.size + 1, 1, none⟩ (.string ⟨#[]⟩)).setCell ⟨w.heap.size + 1, 2, none⟩ (.string ⟨#[]⟩)).setCell ⟨w.heap.size + 1, 3, none⟩ (.bool false)).setCell ⟨w.heap.size + 1, 4, none⟩ (.string ⟨#[]⟩)).setCell ⟨w.heap.size + 1, 5, none⟩ (.string ⟨#[]⟩)) = wz at oz sz9 ⊢; obtain ⟨z0, z1, z2, z3, z4, z5⟩ := oz.cells6; exact bodyPost_ret (v := .tuple #[.agg #[.bool false, .string ⟨#[]⟩, .string ⟨#[]⟩, .bool false, .string ⟨#[]⟩, .string ⟨#[]⟩], .int .i64 14]) (by simp [results, Tryz.results26, go_sem, z0, z1, z2, z3, z4, z5]) rfl ⟨rfl, sz9⟩
theorem ld_core {a p q n k : Nat} (nx : Bool) (sx tx : ByteArray) (ny : Bool) (sy ty : ByteArray) (nz : Bool) (sz tz : ByteArray) (nf : Bool) (sf tf : ByteArray) (nu : Bool) (su tu : ByteArray) (nv : Bool) (sv tv : ByteArray) (hv : VC a p q n) (hk : k ≤ 8) (ha : 0 < a) (hq : ∀ e, QRes (prodN [2, a]) (prodN [p + q]) e → e = .returned (.tuple #[.agg #[.bool nx, .string sx, .string tx], .int .i64 0])) (hb : RetV 44 #[.agg #[.bool nx, .string sx, .string tx], .int .i64 (k : Int)] (.tuple #[.agg #[.bool ny, .string sy, .string ty, .bool nz, .string sz, .string tz], .int .i64 0]))
    (hw : RetV 47 #[.int .i64 14] (.agg #[.bool nf, .string sf, .string tf, .bool nf, .string sf, .string tf])) (hd : RetV 49 #[.agg #[.bool nf, .string sf, .string tf, .bool nf, .string sf, .string tf], .agg #[.bool ny, .string sy, .string ty, .bool nz, .string sz, .string tz]] (.tuple #[.agg #[.bool nu, .string su, .string tu, .bool nv, .string sv, .string tv], .int .i64 0])) (w : World) (ht : Tab w) :
    Calls Tryz.prog 26 #[.agg #[.int .i64 (a : Int), .int .i64 (p : Int), .int .i64 (q : Int), .int .i64 (n : Int)], .int .i64 (k : Int)] w fun e w' => e = .returned (.tuple #[.agg #[.bool nu, .string su, .string tu, .bool nv, .string sv, .string tv], .int .i64 0]) ∧ Below w.heap.size w w' := by
  have HV := Lib.hid hv; have HK := Lib.hid hk; have T0 := Lib.hid ht; clear hv hk ht; have HA0 := Lib.hid ha; have HEND := Lib.hid hq; have HBI := Lib.hid hb; have HWH := Lib.hid hw; have HAD := Lib.hid hd; clear ha hq hb hw hd; obtain ⟨o_c, o_r, hbw⟩ := new2 w [.int .i64 (a : Int), .int .i64 (p : Int), .int .i64 (q : Int), .int .i64 (n : Int)] [.bool false, .string ⟨#[]⟩, .string ⟨#[]⟩, .bool false, .string ⟨#[]⟩, .string ⟨#[]⟩] 23 33
  go_enter Tryz.func26, Tryz.ntmps26
  go_upto_region 1 with (fail)
  generalize ((w.alloc (.cells #[.int .i64 (a : Int), .int .i64 (p : Int), .int .i64 (q : Int), .int .i64 (n : Int)] 23)).alloc (.cells #[.bool false, .string ⟨#[]⟩, .string ⟨#[]⟩, .bool false, .string ⟨#[]⟩, .string ⟨#[]⟩] 33)) = wb at o_c o_r hbw ⊢; obtain ⟨qc_0, qc_1, qc_2, qc_3⟩ := o_c.cells4
  go_wp2_with fail
  clear qc_0 qc_1 qc_2 qc_3; refine (check_yes HV.out HK.out _).mono ?_; rintro e w1 ⟨rfl, hb1⟩; replace o_c := o_c.below hb1 o_c.lt; replace o_r := o_r.below hb1 o_r.lt; replace hbw := below6 hbw hb1; clear hb1; have ha0 : decide ((a : Int) = 0) = false := decide_eq_false (by have := HA0.out; omega); have ha1 : decide (a = 0) = false := decide_eq_false (by have := HA0.out; omega); have ha2 : ((a : Int) == 0) = false := beq_eq_false_iff_ne.2 (by have := HA0.out; omega); have ha3 : (a == 0) = false := beq_eq_false_iff_ne.2 (by have := HA0.out; omega); obtain ⟨qc_0, qc_1, qc_2, qc_3⟩ := o_c.cells4
  go_wp2_with fail
  clear qc_0 qc_1 qc_2 qc_3; refine (dice_yes HV.out _ (T0.out.below hbw)).mono ?_; rintro e w9 ⟨hq, hb9⟩; have he := HEND.out _ hq; subst he; replace o_c := o_c.below hb9 o_c.lt; replace o_r := o_r.below hb9 o_r.lt; replace hbw := below6 hbw hb9; clear hb9 hq; obtain ⟨o_x, hz2⟩ := new1 w9 [.bool nx, .string sx, .string tx] 27; replace o_c := o_c.alloc (.cells #[.bool nx, .string sx, .string tx] 27); replace o_r := o_r.alloc (.cells #[.bool nx, .string sx, .string tx] 27); replace hbw := below6 hbw hz2; clear hz2
  go_upto_region 9 with (fail)
  generalize (w9.alloc (.cells #[.bool nx, .string sx, .string tx] 27)) = wa3 at o_c o_r o_x hbw ⊢; generalize w9.heap.size = g3 at o_x ⊢; obtain ⟨qx_0, qx_1, qx_2⟩ := o_x.cells3
  go_wp2_with fail
  clear qx_0 qx_1 qx_2; refine (HBI.out _).mono ?_; rintro e w4 ⟨rfl, hb4⟩; replace o_c := o_c.below hb4 o_c.lt; replace o_r := o_r.below hb4 o_r.lt; replace o_x := o_x.below hb4 o_x.lt; replace hbw := below6 hbw hb4; clear hb4; obtain ⟨o_y, hz5⟩ := new1 w4 [.bool ny, .string sy, .string ty, .bool nz, .string sz, .string tz] 33; replace o_c := o_c.alloc (.cells #[.bool ny, .string sy, .string ty, .bool nz, .string sz, .string tz] 33); replace o_r := o_r.alloc (.cells #[.bool ny, .string sy, .string ty, .bool nz, .string sz, .string tz] 33); replace o_x := o_x.alloc (.cells #[.bool ny, .string sy, .string ty, .bool nz, .string sz, .string tz] 33); replace hbw := below6 hbw hz5; clear hz5
  go_upto_region 12 with (fail)
  generalize (w4.alloc (.cells #[.bool ny, .string sy, .string ty, .bool nz, .string sz, .string tz] 33)) = wa6 at o_c o_r o_x o_y hbw ⊢; generalize w4.heap.size = g6 at o_y ⊢; obtain ⟨qy_0, qy_1, qy_2, qy_3, qy_4, qy_5⟩ := o_y.cells6; refine wp_reg_st [some 40, some 41, some 42, some 43, some 44, none, some 5] [isV (.agg #[.bool nf, .string sf, .string tf, .bool nf, .string sf, .string tf]), isV ?v1_1, isV (.tuple #[.agg #[.bool nu, .string su, .string tu, .bool nv, .string sv, .string tv], .int .i64 0]), isV ?v1_3, isV ?v1_4, fun _ _ => False, fun _ _ => False] [anyV, anyV, anyV, anyV, anyV, anyV, isV ?w1_6] 5 [0, 1, 2, 3, 4] (fun _ => fun w' => Below w.heap.size w w' ∧ Own w' (w.heap.size + 1) 33 [.bool nu, .string su, .string tu, .bool nv, .string sv, .string tv]) rfl (by kernel_rfl) rfl rfl (by decide) (by kernel_rfl) (by kernel_rfl) (fun _ _ _ _ h => h) ?k1 ?m1 ⟨?s1_0, ?s1_1, ?s1_2, ?s1_3, ?s1_4, ?s1_5, ?s1_6, trivial⟩ ?p1
  case s1_0 =>
    rw [if_neg (by decide)]
    constructor
    · rw [if_neg (by decide)]; intro t9 w9 hT9 hV9 hO9 K9 hK9; clear hV9 hO9; go_simp; refine (HWH.out _).mono ?_; rintro e w8 ⟨rfl, hb8⟩; exact hK9 _ _ hb8 rfl
    · rw [if_pos (by decide)]; trivial
  case s1_1 =>
    rw [if_neg (by decide)]
    constructor
    · rw [if_neg (by decide)]; intro t9 w9 hT9 hV9 hO9 K9 hK9; have o9_9 := hO9 9 _ (.inl (show List.contains _ _ = false from by kernel_rfl)) rfl; clear hV9 hO9; have d9_0 := grow_cell hT9 qy_0; have d9_1 := grow_cell hT9 qy_1; have d9_2 := grow_cell hT9 qy_2; have d9_3 := grow_cell hT9 qy_3; have d9_4 := grow_cell hT9 qy_4; have d9_5 := grow_cell hT9 qy_5; go_simp
      (refine hK9 _ _ (Grow.refl _) ?_; exact rfl)
    · rw [if_pos (by decide)]; trivial
  case s1_2 =>
    rw [if_neg (by decide)]
    constructor
    · rw [if_neg (by decide)]; intro t9 w9 hT9 hV9 hO9 K9 hK9; obtain ⟨x9_0, p9_0, q9_0⟩ := hV9.g 0 40 rfl rfl (by kernel_rfl); obtain rfl : x9_0 = (.agg #[.bool nf, .string sf, .string tf, .bool nf, .string sf, .string tf]) := q9_0; obtain ⟨x9_1, p9_1, q9_1⟩ := hV9.g 1 41 rfl rfl (by kernel_rfl); obtain rfl : x9_1 = ?v1_1 := q9_1; clear hV9 hO9; go_simp; refine (HAD.out _).mono ?_; rintro e w8 ⟨rfl, hb8⟩; exact hK9 _ _ hb8 rfl
    · rw [if_pos (by decide)]; trivial
  case s1_3 =>
    rw [if_neg (by decide)]
    constructor
    · rw [if_neg (by decide)]; intro t9 w9 hT9 hV9 hO9 K9 hK9; obtain ⟨x9_2, p9_2, q9_2⟩ := hV9.g 2 42 rfl rfl (by kernel_rfl); obtain rfl : x9_2 = (.tuple #[.agg #[.bool nu, .string su, .string tu, .bool nv, .string sv, .string tv], .int .i64 0]) := q9_2; clear hV9 hO9; go_simp
      (refine hK9 _ _ (Grow.refl _) ?_; exact rfl)
    · rw [if_pos (by decide)]; trivial
  case s1_4 =>
    rw [if_neg (by decide)]
    constructor
    · rw [if_neg (by decide)]; intro t9 w9 hT9 hV9 hO9 K9 hK9; obtain ⟨x9_2, p9_2, q9_2⟩ := hV9.g 2 42 rfl rfl (by kernel_rfl); obtain rfl : x9_2 = (.tuple #[.agg #[.bool nu, .string su, .string tu, .bool nv, .string sv, .string tv], .int .i64 0]) := q9_2; clear hV9 hO9; go_simp
      (refine hK9 _ _ (Grow.refl _) ?_; exact rfl)
    · rw [if_pos (by decide)]; trivial
  case s1_5 =>
    rw [if_pos (by decide)]; intro t9 w9 hT9 hV9 hO9 K9 hK9; obtain ⟨x9_3, p9_3, q9_3⟩ := hV9.g 3 43 (by decide) rfl (by kernel_rfl); obtain rfl : x9_3 = ?v1_3 := q9_3; have o9_4 := hO9 4 _ (.inl (show List.contains _ _ = false from by kernel_rfl)) rfl; clear hV9 hO9; have og := o_r.below hT9.below o_r.lt; obtain ⟨hg0, hg1, hg2, hg3, hg4, hg5⟩ := og.cells6; obtain ⟨hf0, hf1, hf2, hf3, hf4, hf5⟩ := og.frozens6; have HE := Lib.hid (⟨Below.set6 (below6 hbw hT9.below) (g := w.heap.size + 1) (by omega) (.bool nu) (.string su) (.string tu) (.bool nv) (.string sv) (.string tv), og.set6 (.bool nu) (.string su) (.string tu) (.bool nv) (.string sv) (.string tv)⟩ : (fun w' => Below w.heap.size w w' ∧ Own w' (w.heap.size + 1) 33 [.bool nu, .string su, .string tu, .bool nv, .string sv, .string tv]) ((((((w9.setCell ⟨w.heap.size + 1, 0, none⟩ (.bool nu)).setCell ⟨w.heap.size + 1, 1, none⟩ (.string su)).setCell ⟨w.heap.size + 1, 2, none⟩ (.string tu)).setCell ⟨w.heap.size + 1, 3, none⟩ (.bool nv)).setCell ⟨w.heap.size + 1, 4, none⟩ (.string sv)).setCell ⟨w.heap.size + 1, 5, none⟩ (.string tv)))
    go_simp; exact hK9 undef _ HE.out trivial
  case s1_6 =>
    rw [if_neg (by decide)]
    constructor
    · rw [if_pos (by rfl)]; trivial
    · rw [if_neg (by decide)]; intro t9 w9 hV9 hO9 K9 hK9; obtain ⟨x9_4, p9_4, q9_4⟩ := hV9.g 4 44 rfl rfl (by kernel_rfl); obtain ⟨_, q9_4⟩ := q9_4.pre (by decide); obtain rfl : x9_4 = ?v1_4 := q9_4; clear hV9 hO9; go_simp
      (refine hK9 _ ?_; exact rfl)
  case k1 =>
    intro i9 v9 w9 x9 h9 g9
    match i9, h9 with
    | 0, h9 => exact h9
    | 1, h9 => exact h9
    | 2, h9 => exact h9
    | 3, h9 => exact h9
    | 4, h9 => exact h9
    | 5, h9 => exact h9
    | 6, h9 => exact h9
    | _ + 7, h9 => exact trivial
  case m1 =>
    intro i9 v9 w9 x9 a s h
    match i9, a, s, h with
    | 0, a, _, _ => exact absurd (by decide) a
    | 1, a, _, _ => exact absurd (by decide) a
    | 2, a, _, _ => exact absurd (by decide) a
    | 3, a, _, _ => exact absurd (by decide) a
    | 4, a, _, _ => exact absurd (by decide) a
    | 5, _, s, _ => exact absurd rfl s
    | 6, _, _, h => exact False.elim h
    | _ + 7, _, _, _ => exact trivial
  intro u9 w9 hE9 hu9; obtain ⟨_, r9_0⟩ := (hu9 0 (by decide)).pre (by decide); replace r9_0 : u9 0 = (.agg #[.bool nf, .string sf, .string tf, .bool nf, .string sf, .string tf]) := r9_0; obtain ⟨_, r9_1⟩ := (hu9 1 (by decide)).pre (by decide); replace r9_1 : u9 1 = ?v1_1 := r9_1; obtain ⟨_, r9_2⟩ := (hu9 2 (by decide)).pre (by decide); replace r9_2 : u9 2 = (.tuple #[.agg #[.bool nu, .string su, .string tu, .bool nv, .string sv, .string tv], .int .i64 0]) := r9_2; obtain ⟨_, r9_3⟩ := (hu9 3 (by decide)).pre (by decide); replace r9_3 : u9 3 = ?v1_3 := r9_3; obtain ⟨_, r9_4⟩ := (hu9 4 (by decide)).pre (by decide); replace r9_4 : u9 4 = ?v1_4 := r9_4; have r9_6 : u9 6 = ?w1_6 := (hu9 6 (by decide)).late (by decide); clear hu9; obtain ⟨sz9, oz⟩ := hE9
  simp only [putAll, Act.put, List.setIfInBounds_toArray, List.set_cons_succ, List.set_cons_zero, List.getD_cons_succ, List.getD_cons_zero, Nat.reduceAdd, Nat.zero_add]
  simp only [r9_0, r9_1, r9_2, r9_3, r9_4, r9_6]
  clear r9_0 r9_1 r9_2 r9_3 r9_4 r9_6
  go_wp2_with fail
  obtain ⟨z0, z1, z2, z3, z4, z5⟩ := oz.cells6; exact bodyPost_ret (v := .tuple #[.agg #[.bool nu, .string su, .string tu, .bool nv, .string sv, .string tv], .int .i64 0]) (by simp [results, Tryz.results26, go_sem, z0, z1, z2, z3, z4, z5]) rfl ⟨rfl, sz9⟩
end Go.Proofs.YtocknfhgjmaibaaGreatDoor
