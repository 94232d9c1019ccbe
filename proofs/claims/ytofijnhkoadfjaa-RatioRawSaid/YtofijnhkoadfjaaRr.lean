/- The law RatioRaw as a walk. -/
import Derived.Test.YtofijnhkoadfjaaEx
import Derived.Test.YtofijnhkoadfjaaNk
namespace Go.Proofs.Ytofijnhkoadfjaa
set_option linter.unusedSimpArgs false
set_option linter.unusedVariables false
set_option linter.unusedSectionVars false
open Go.RowKit Dg

set_option maxRecDepth 100000 in
set_option maxHeartbeats 16000000 in
theorem law_raw36 (na : Bool) (sa ta : ByteArray) (nb : Bool) (sb tb : ByteArray) (s : ByteArray) (w : World) (h0 : Cell0 w) :
    Calls Try.prog 8 #[.agg #[.bool na, .string sa, .string ta], .agg #[.bool nb, .string sb, .string tb], .string s] w (Holds w) := by
  obtain ⟨o_a, o_b, hbw⟩ := new2 w [.bool na, .string sa, .string ta] [.bool nb, .string sb, .string tb] 33 33
  go_enter Try.func8, Try.ntmps8
  go_upto_region 1 with (fail)
  generalize ((w.alloc (.cells #[.bool na, .string sa, .string ta] 33)).alloc (.cells #[.bool nb, .string sb, .string tb] 33)) = wb at o_a o_b hbw ⊢
  by_cases g0 : 60 < sa.size
  · skip
    have d_sa : decide ((60 : Int) < (sa.size : Int)) = true := decide_eq_true (by omega)
    clear g0
    have qa_0 : wb.cell? ⟨w.heap.size, 0, none⟩ = some (.bool na) := o_a.cell 0
    have qa_1 : wb.cell? ⟨w.heap.size, 1, none⟩ = some (.string sa) := o_a.cell 1
    have qa_2 : wb.cell? ⟨w.heap.size, 2, none⟩ = some (.string ta) := o_a.cell 2
    have qb_0 : wb.cell? ⟨w.heap.size + 1, 0, none⟩ = some (.bool nb) := o_b.cell 0
    have qb_1 : wb.cell? ⟨w.heap.size + 1, 1, none⟩ = some (.string sb) := o_b.cell 1
    have qb_2 : wb.cell? ⟨w.heap.size + 1, 2, none⟩ = some (.string tb) := o_b.cell 2
    go_wp2
    go_ret
    exact ⟨rfl, hbw⟩
  by_cases g1 : 60 < ta.size
  · skip
    have d_sa : decide ((60 : Int) < (sa.size : Int)) = false := decide_eq_false (by omega)
    have d_ta : decide ((60 : Int) < (ta.size : Int)) = true := decide_eq_true (by omega)
    clear g0 g1
    have qa_0 : wb.cell? ⟨w.heap.size, 0, none⟩ = some (.bool na) := o_a.cell 0
    have qa_1 : wb.cell? ⟨w.heap.size, 1, none⟩ = some (.string sa) := o_a.cell 1
    have qa_2 : wb.cell? ⟨w.heap.size, 2, none⟩ = some (.string ta) := o_a.cell 2
    have qb_0 : wb.cell? ⟨w.heap.size + 1, 0, none⟩ = some (.bool nb) := o_b.cell 0
    have qb_1 : wb.cell? ⟨w.heap.size + 1, 1, none⟩ = some (.string sb) := o_b.cell 1
    have qb_2 : wb.cell? ⟨w.heap.size + 1, 2, none⟩ = some (.string tb) := o_b.cell 2
    go_wp2
    go_ret
    exact ⟨rfl, hbw⟩
  by_cases g2 : 60 < sb.size
  · skip
    have d_sa : decide ((60 : Int) < (sa.size : Int)) = false := decide_eq_false (by omega)
    have d_ta : decide ((60 : Int) < (ta.size : Int)) = false := decide_eq_false (by omega)
    have d_sb : decide ((60 : Int) < (sb.size : Int)) = true := decide_eq_true (by omega)
    clear g0 g1 g2
    have qa_0 : wb.cell? ⟨w.heap.size, 0, none⟩ = some (.bool na) := o_a.cell 0
    have qa_1 : wb.cell? ⟨w.heap.size, 1, none⟩ = some (.string sa) := o_a.cell 1
    have qa_2 : wb.cell? ⟨w.heap.size, 2, none⟩ = some (.string ta) := o_a.cell 2
    have qb_0 : wb.cell? ⟨w.heap.size + 1, 0, none⟩ = some (.bool nb) := o_b.cell 0
    have qb_1 : wb.cell? ⟨w.heap.size + 1, 1, none⟩ = some (.string sb) := o_b.cell 1
    have qb_2 : wb.cell? ⟨w.heap.size + 1, 2, none⟩ = some (.string tb) := o_b.cell 2
    go_wp2
    go_ret
    exact ⟨rfl, hbw⟩
  by_cases g3 : 60 < tb.size
  · skip
    have d_sa : decide ((60 : Int) < (sa.size : Int)) = false := decide_eq_false (by omega)
    have d_ta : decide ((60 : Int) < (ta.size : Int)) = false := decide_eq_false (by omega)
    have d_sb : decide ((60 : Int) < (sb.size : Int)) = false := decide_eq_false (by omega)
    have d_tb : decide ((60 : Int) < (tb.size : Int)) = true := decide_eq_true (by omega)
    clear g0 g1 g2 g3
    have qa_0 : wb.cell? ⟨w.heap.size, 0, none⟩ = some (.bool na) := o_a.cell 0
    have qa_1 : wb.cell? ⟨w.heap.size, 1, none⟩ = some (.string sa) := o_a.cell 1
    have qa_2 : wb.cell? ⟨w.heap.size, 2, none⟩ = some (.string ta) := o_a.cell 2
    have qb_0 : wb.cell? ⟨w.heap.size + 1, 0, none⟩ = some (.bool nb) := o_b.cell 0
    have qb_1 : wb.cell? ⟨w.heap.size + 1, 1, none⟩ = some (.string sb) := o_b.cell 1
    have qb_2 : wb.cell? ⟨w.heap.size + 1, 2, none⟩ = some (.string tb) := o_b.cell 2
    go_wp2
    go_ret
    exact ⟨rfl, hbw⟩
  by_cases g4 : 80 < s.size
  · skip
    have d_sa : decide ((60 : Int) < (sa.size : Int)) = false := decide_eq_false (by omega)
    have d_ta : decide ((60 : Int) < (ta.size : Int)) = false := decide_eq_false (by omega)
    have d_sb : decide ((60 : Int) < (sb.size : Int)) = false := decide_eq_false (by omega)
    have d_tb : decide ((60 : Int) < (tb.size : Int)) = false := decide_eq_false (by omega)
    have d_s : decide ((80 : Int) < (s.size : Int)) = true := decide_eq_true (by omega)
    clear g0 g1 g2 g3 g4
    have qa_0 : wb.cell? ⟨w.heap.size, 0, none⟩ = some (.bool na) := o_a.cell 0
    have qa_1 : wb.cell? ⟨w.heap.size, 1, none⟩ = some (.string sa) := o_a.cell 1
    have qa_2 : wb.cell? ⟨w.heap.size, 2, none⟩ = some (.string ta) := o_a.cell 2
    have qb_0 : wb.cell? ⟨w.heap.size + 1, 0, none⟩ = some (.bool nb) := o_b.cell 0
    have qb_1 : wb.cell? ⟨w.heap.size + 1, 1, none⟩ = some (.string sb) := o_b.cell 1
    have qb_2 : wb.cell? ⟨w.heap.size + 1, 2, none⟩ = some (.string tb) := o_b.cell 2
    go_wp2
    go_ret
    exact ⟨rfl, hbw⟩
  have d_sa : decide ((60 : Int) < (sa.size : Int)) = false := decide_eq_false (by omega)
  have d_ta : decide ((60 : Int) < (ta.size : Int)) = false := decide_eq_false (by omega)
  have d_sb : decide ((60 : Int) < (sb.size : Int)) = false := decide_eq_false (by omega)
  have d_tb : decide ((60 : Int) < (tb.size : Int)) = false := decide_eq_false (by omega)
  have d_s : decide ((80 : Int) < (s.size : Int)) = false := decide_eq_false (by omega)
  have z1 : sa.size ≤ 80 := by omega
  have z2 : ta.size ≤ 80 := by omega
  have z3 : sb.size ≤ 80 := by omega
  have z4 : tb.size ≤ 80 := by omega
  have z5 : s.size ≤ 80 := by omega
  obtain ⟨nx, sx, tx, kx, hx1, hx2⟩ := add2 na sa ta nb sb tb z1 z2 z3 z4
  obtain ⟨np, sp, tp, kp, hp1, hp2⟩ := quo2 na sa ta nb sb tb z1 z2 z3 z4
  obtain ⟨nc, sc, tc, kc, hc1, hc2⟩ := of2 na sa ta z1 z2
  obtain ⟨nu, su, tu, ku, hu1, hu2⟩ := parse2 s z5
  obtain ⟨nn, sn, tn, kn, hn1, hn2⟩ := floor2 na sa ta z1 z2
  obtain ⟨bi, hi1, hi2, -, -⟩ := isr2 na sa ta z1 z2
  obtain ⟨zc, hm1, hm2⟩ := cmp2 na sa ta nb sb tb z1 z2 z3 z4
  obtain ⟨tf, hf1, hf2⟩ := fmt2 na sa ta z1 z2
  have H0 := Lib.hid h0
  clear z1 z2 z3 z4 z5 g0 g1 g2 g3 g4 h0
  have HX1 := Lib.hid hx1
  clear hx1
  have HX2 := Lib.hid hx2
  clear hx2
  have HP1 := Lib.hid hp1
  clear hp1
  have HP2 := Lib.hid hp2
  clear hp2
  have HC1 := Lib.hid hc1
  clear hc1
  have HC2 := Lib.hid hc2
  clear hc2
  have HU1 := Lib.hid hu1
  clear hu1
  have HU2 := Lib.hid hu2
  clear hu2
  have HN1 := Lib.hid hn1
  clear hn1
  have HN2 := Lib.hid hn2
  clear hn2
  have HI1 := Lib.hid hi1
  clear hi1
  have HI2 := Lib.hid hi2
  clear hi2
  have HM1 := Lib.hid hm1
  clear hm1
  have HM2 := Lib.hid hm2
  clear hm2
  have HF1 := Lib.hid hf1
  clear hf1
  have HF2 := Lib.hid hf2
  clear hf2
  have qa_0 : wb.cell? ⟨w.heap.size, 0, none⟩ = some (.bool na) := o_a.cell 0
  have qa_1 : wb.cell? ⟨w.heap.size, 1, none⟩ = some (.string sa) := o_a.cell 1
  have qa_2 : wb.cell? ⟨w.heap.size, 2, none⟩ = some (.string ta) := o_a.cell 2
  have qb_0 : wb.cell? ⟨w.heap.size + 1, 0, none⟩ = some (.bool nb) := o_b.cell 0
  have qb_1 : wb.cell? ⟨w.heap.size + 1, 1, none⟩ = some (.string sb) := o_b.cell 1
  have qb_2 : wb.cell? ⟨w.heap.size + 1, 2, none⟩ = some (.string tb) := o_b.cell 2
  go_upto_region 3 with (fail)
  clear d_sa d_ta d_sb d_tb d_s qa_0 qa_1 qa_2 qb_0 qb_1 qb_2
  have qa_0 : wb.cell? ⟨w.heap.size, 0, none⟩ = some (.bool na) := o_a.cell 0
  have qa_1 : wb.cell? ⟨w.heap.size, 1, none⟩ = some (.string sa) := o_a.cell 1
  have qa_2 : wb.cell? ⟨w.heap.size, 2, none⟩ = some (.string ta) := o_a.cell 2
  have qb_0 : wb.cell? ⟨w.heap.size + 1, 0, none⟩ = some (.bool nb) := o_b.cell 0
  have qb_1 : wb.cell? ⟨w.heap.size + 1, 1, none⟩ = some (.string sb) := o_b.cell 1
  have qb_2 : wb.cell? ⟨w.heap.size + 1, 2, none⟩ = some (.string tb) := o_b.cell 2
  go_wp2_with fail
  clear qa_0 qa_1 qa_2 qb_0 qb_1 qb_2
  refine (HX1.out _).mono ?_
  rintro e w1 ⟨rfl, hb1⟩
  replace o_a := o_a.below hb1 o_a.lt
  replace o_b := o_b.below hb1 o_b.lt
  replace hbw := below6 hbw hb1
  clear hb1
  obtain ⟨o_x1, hz2⟩ := new1 w1 [.bool nx, .string sx, .string tx] 33
  replace o_a := o_a.alloc (.cells #[.bool nx, .string sx, .string tx] 33)
  replace o_b := o_b.alloc (.cells #[.bool nx, .string sx, .string tx] 33)
  replace hbw := below6 hbw hz2
  clear hz2
  have qa_0 : (w1.alloc (.cells #[.bool nx, .string sx, .string tx] 33)).cell? ⟨w.heap.size, 0, none⟩ = some (.bool na) := o_a.cell 0
  have qa_1 : (w1.alloc (.cells #[.bool nx, .string sx, .string tx] 33)).cell? ⟨w.heap.size, 1, none⟩ = some (.string sa) := o_a.cell 1
  have qa_2 : (w1.alloc (.cells #[.bool nx, .string sx, .string tx] 33)).cell? ⟨w.heap.size, 2, none⟩ = some (.string ta) := o_a.cell 2
  have qb_0 : (w1.alloc (.cells #[.bool nx, .string sx, .string tx] 33)).cell? ⟨w.heap.size + 1, 0, none⟩ = some (.bool nb) := o_b.cell 0
  have qb_1 : (w1.alloc (.cells #[.bool nx, .string sx, .string tx] 33)).cell? ⟨w.heap.size + 1, 1, none⟩ = some (.string sb) := o_b.cell 1
  have qb_2 : (w1.alloc (.cells #[.bool nx, .string sx, .string tx] 33)).cell? ⟨w.heap.size + 1, 2, none⟩ = some (.string tb) := o_b.cell 2
  go_wp2_with fail
  generalize (w1.alloc (.cells #[.bool nx, .string sx, .string tx] 33)) = wa3 at o_a o_b o_x1 hbw ⊢
  generalize w1.heap.size = g3 at o_x1 ⊢
  clear qa_0 qa_1 qa_2 qb_0 qb_1 qb_2
  refine (HX2.out _).mono ?_
  rintro e w4 ⟨rfl, hb4⟩
  replace o_a := o_a.below hb4 o_a.lt
  replace o_b := o_b.below hb4 o_b.lt
  replace o_x1 := o_x1.below hb4 o_x1.lt
  replace hbw := below6 hbw hb4
  clear hb4
  obtain ⟨o_x2, hz5⟩ := new1 w4 [.bool nx, .string sx, .string tx] 33
  replace o_a := o_a.alloc (.cells #[.bool nx, .string sx, .string tx] 33)
  replace o_b := o_b.alloc (.cells #[.bool nx, .string sx, .string tx] 33)
  replace o_x1 := o_x1.alloc (.cells #[.bool nx, .string sx, .string tx] 33)
  replace hbw := below6 hbw hz5
  clear hz5
  have qa_0 : (w4.alloc (.cells #[.bool nx, .string sx, .string tx] 33)).cell? ⟨w.heap.size, 0, none⟩ = some (.bool na) := o_a.cell 0
  have qa_1 : (w4.alloc (.cells #[.bool nx, .string sx, .string tx] 33)).cell? ⟨w.heap.size, 1, none⟩ = some (.string sa) := o_a.cell 1
  have qa_2 : (w4.alloc (.cells #[.bool nx, .string sx, .string tx] 33)).cell? ⟨w.heap.size, 2, none⟩ = some (.string ta) := o_a.cell 2
  have qb_0 : (w4.alloc (.cells #[.bool nx, .string sx, .string tx] 33)).cell? ⟨w.heap.size + 1, 0, none⟩ = some (.bool nb) := o_b.cell 0
  have qb_1 : (w4.alloc (.cells #[.bool nx, .string sx, .string tx] 33)).cell? ⟨w.heap.size + 1, 1, none⟩ = some (.string sb) := o_b.cell 1
  have qb_2 : (w4.alloc (.cells #[.bool nx, .string sx, .string tx] 33)).cell? ⟨w.heap.size + 1, 2, none⟩ = some (.string tb) := o_b.cell 2
  go_wp2_with fail
  generalize (w4.alloc (.cells #[.bool nx, .string sx, .string tx] 33)) = wa6 at o_a o_b o_x1 o_x2 hbw ⊢
  generalize w4.heap.size = g6 at o_x2 ⊢
  clear qa_0 qa_1 qa_2 qb_0 qb_1 qb_2
  refine (HP1.out _).mono ?_
  rintro e w7 ⟨rfl, hb7⟩
  replace o_a := o_a.below hb7 o_a.lt
  replace o_b := o_b.below hb7 o_b.lt
  replace o_x1 := o_x1.below hb7 o_x1.lt
  replace o_x2 := o_x2.below hb7 o_x2.lt
  replace hbw := below6 hbw hb7
  clear hb7
  obtain ⟨o_p1, hz8⟩ := new1 w7 [.bool np, .string sp, .string tp] 33
  replace o_a := o_a.alloc (.cells #[.bool np, .string sp, .string tp] 33)
  replace o_b := o_b.alloc (.cells #[.bool np, .string sp, .string tp] 33)
  replace o_x1 := o_x1.alloc (.cells #[.bool np, .string sp, .string tp] 33)
  replace o_x2 := o_x2.alloc (.cells #[.bool np, .string sp, .string tp] 33)
  replace hbw := below6 hbw hz8
  clear hz8
  have qa_0 : (w7.alloc (.cells #[.bool np, .string sp, .string tp] 33)).cell? ⟨w.heap.size, 0, none⟩ = some (.bool na) := o_a.cell 0
  have qa_1 : (w7.alloc (.cells #[.bool np, .string sp, .string tp] 33)).cell? ⟨w.heap.size, 1, none⟩ = some (.string sa) := o_a.cell 1
  have qa_2 : (w7.alloc (.cells #[.bool np, .string sp, .string tp] 33)).cell? ⟨w.heap.size, 2, none⟩ = some (.string ta) := o_a.cell 2
  have qb_0 : (w7.alloc (.cells #[.bool np, .string sp, .string tp] 33)).cell? ⟨w.heap.size + 1, 0, none⟩ = some (.bool nb) := o_b.cell 0
  have qb_1 : (w7.alloc (.cells #[.bool np, .string sp, .string tp] 33)).cell? ⟨w.heap.size + 1, 1, none⟩ = some (.string sb) := o_b.cell 1
  have qb_2 : (w7.alloc (.cells #[.bool np, .string sp, .string tp] 33)).cell? ⟨w.heap.size + 1, 2, none⟩ = some (.string tb) := o_b.cell 2
  go_wp2_with fail
  generalize (w7.alloc (.cells #[.bool np, .string sp, .string tp] 33)) = wa9 at o_a o_b o_x1 o_x2 o_p1 hbw ⊢
  generalize w7.heap.size = g9 at o_p1 ⊢
  clear qa_0 qa_1 qa_2 qb_0 qb_1 qb_2
  refine (HP2.out _).mono ?_
  rintro e w10 ⟨rfl, hb10⟩
  replace o_a := o_a.below hb10 o_a.lt
  replace o_b := o_b.below hb10 o_b.lt
  replace o_x1 := o_x1.below hb10 o_x1.lt
  replace o_x2 := o_x2.below hb10 o_x2.lt
  replace o_p1 := o_p1.below hb10 o_p1.lt
  replace hbw := below6 hbw hb10
  clear hb10
  obtain ⟨o_p2, hz11⟩ := new1 w10 [.bool np, .string sp, .string tp] 33
  replace o_a := o_a.alloc (.cells #[.bool np, .string sp, .string tp] 33)
  replace o_b := o_b.alloc (.cells #[.bool np, .string sp, .string tp] 33)
  replace o_x1 := o_x1.alloc (.cells #[.bool np, .string sp, .string tp] 33)
  replace o_x2 := o_x2.alloc (.cells #[.bool np, .string sp, .string tp] 33)
  replace o_p1 := o_p1.alloc (.cells #[.bool np, .string sp, .string tp] 33)
  replace hbw := below6 hbw hz11
  clear hz11
  have qa_0 : (w10.alloc (.cells #[.bool np, .string sp, .string tp] 33)).cell? ⟨w.heap.size, 0, none⟩ = some (.bool na) := o_a.cell 0
  have qa_1 : (w10.alloc (.cells #[.bool np, .string sp, .string tp] 33)).cell? ⟨w.heap.size, 1, none⟩ = some (.string sa) := o_a.cell 1
  have qa_2 : (w10.alloc (.cells #[.bool np, .string sp, .string tp] 33)).cell? ⟨w.heap.size, 2, none⟩ = some (.string ta) := o_a.cell 2
  have qb_0 : (w10.alloc (.cells #[.bool np, .string sp, .string tp] 33)).cell? ⟨w.heap.size + 1, 0, none⟩ = some (.bool nb) := o_b.cell 0
  have qb_1 : (w10.alloc (.cells #[.bool np, .string sp, .string tp] 33)).cell? ⟨w.heap.size + 1, 1, none⟩ = some (.string sb) := o_b.cell 1
  have qb_2 : (w10.alloc (.cells #[.bool np, .string sp, .string tp] 33)).cell? ⟨w.heap.size + 1, 2, none⟩ = some (.string tb) := o_b.cell 2
  go_wp2_with fail
  generalize (w10.alloc (.cells #[.bool np, .string sp, .string tp] 33)) = wa12 at o_a o_b o_x1 o_x2 o_p1 o_p2 hbw ⊢
  generalize w10.heap.size = g12 at o_p2 ⊢
  clear qa_0 qa_1 qa_2 qb_0 qb_1 qb_2
  refine (HC1.out _).mono ?_
  rintro e w13 ⟨rfl, hb13⟩
  replace o_a := o_a.below hb13 o_a.lt
  replace o_b := o_b.below hb13 o_b.lt
  replace o_x1 := o_x1.below hb13 o_x1.lt
  replace o_x2 := o_x2.below hb13 o_x2.lt
  replace o_p1 := o_p1.below hb13 o_p1.lt
  replace o_p2 := o_p2.below hb13 o_p2.lt
  replace hbw := below6 hbw hb13
  clear hb13
  obtain ⟨o_c1, hz14⟩ := new1 w13 [.bool nc, .string sc, .string tc] 33
  replace o_a := o_a.alloc (.cells #[.bool nc, .string sc, .string tc] 33)
  replace o_b := o_b.alloc (.cells #[.bool nc, .string sc, .string tc] 33)
  replace o_x1 := o_x1.alloc (.cells #[.bool nc, .string sc, .string tc] 33)
  replace o_x2 := o_x2.alloc (.cells #[.bool nc, .string sc, .string tc] 33)
  replace o_p1 := o_p1.alloc (.cells #[.bool nc, .string sc, .string tc] 33)
  replace o_p2 := o_p2.alloc (.cells #[.bool nc, .string sc, .string tc] 33)
  replace hbw := below6 hbw hz14
  clear hz14
  have qa_0 : (w13.alloc (.cells #[.bool nc, .string sc, .string tc] 33)).cell? ⟨w.heap.size, 0, none⟩ = some (.bool na) := o_a.cell 0
  have qa_1 : (w13.alloc (.cells #[.bool nc, .string sc, .string tc] 33)).cell? ⟨w.heap.size, 1, none⟩ = some (.string sa) := o_a.cell 1
  have qa_2 : (w13.alloc (.cells #[.bool nc, .string sc, .string tc] 33)).cell? ⟨w.heap.size, 2, none⟩ = some (.string ta) := o_a.cell 2
  have qb_0 : (w13.alloc (.cells #[.bool nc, .string sc, .string tc] 33)).cell? ⟨w.heap.size + 1, 0, none⟩ = some (.bool nb) := o_b.cell 0
  have qb_1 : (w13.alloc (.cells #[.bool nc, .string sc, .string tc] 33)).cell? ⟨w.heap.size + 1, 1, none⟩ = some (.string sb) := o_b.cell 1
  have qb_2 : (w13.alloc (.cells #[.bool nc, .string sc, .string tc] 33)).cell? ⟨w.heap.size + 1, 2, none⟩ = some (.string tb) := o_b.cell 2
  go_wp2_with fail
  generalize (w13.alloc (.cells #[.bool nc, .string sc, .string tc] 33)) = wa15 at o_a o_b o_x1 o_x2 o_p1 o_p2 o_c1 hbw ⊢
  generalize w13.heap.size = g15 at o_c1 ⊢
  clear qa_0 qa_1 qa_2 qb_0 qb_1 qb_2
  refine (HC2.out _).mono ?_
  rintro e w16 ⟨rfl, hb16⟩
  replace o_a := o_a.below hb16 o_a.lt
  replace o_b := o_b.below hb16 o_b.lt
  replace o_x1 := o_x1.below hb16 o_x1.lt
  replace o_x2 := o_x2.below hb16 o_x2.lt
  replace o_p1 := o_p1.below hb16 o_p1.lt
  replace o_p2 := o_p2.below hb16 o_p2.lt
  replace o_c1 := o_c1.below hb16 o_c1.lt
  replace hbw := below6 hbw hb16
  clear hb16
  obtain ⟨o_c2, hz17⟩ := new1 w16 [.bool nc, .string sc, .string tc] 33
  replace o_a := o_a.alloc (.cells #[.bool nc, .string sc, .string tc] 33)
  replace o_b := o_b.alloc (.cells #[.bool nc, .string sc, .string tc] 33)
  replace o_x1 := o_x1.alloc (.cells #[.bool nc, .string sc, .string tc] 33)
  replace o_x2 := o_x2.alloc (.cells #[.bool nc, .string sc, .string tc] 33)
  replace o_p1 := o_p1.alloc (.cells #[.bool nc, .string sc, .string tc] 33)
  replace o_p2 := o_p2.alloc (.cells #[.bool nc, .string sc, .string tc] 33)
  replace o_c1 := o_c1.alloc (.cells #[.bool nc, .string sc, .string tc] 33)
  replace hbw := below6 hbw hz17
  clear hz17
  go_wp2_with fail
  generalize (w16.alloc (.cells #[.bool nc, .string sc, .string tc] 33)) = wa18 at o_a o_b o_x1 o_x2 o_p1 o_p2 o_c1 o_c2 hbw ⊢
  generalize w16.heap.size = g18 at o_c2 ⊢
  refine (HU1.out _ (H0.out.below hbw)).mono ?_
  rintro e w19 ⟨rfl, hb19⟩
  replace o_a := o_a.below hb19 o_a.lt
  replace o_b := o_b.below hb19 o_b.lt
  replace o_x1 := o_x1.below hb19 o_x1.lt
  replace o_x2 := o_x2.below hb19 o_x2.lt
  replace o_p1 := o_p1.below hb19 o_p1.lt
  replace o_p2 := o_p2.below hb19 o_p2.lt
  replace o_c1 := o_c1.below hb19 o_c1.lt
  replace o_c2 := o_c2.below hb19 o_c2.lt
  replace hbw := below6 hbw hb19
  clear hb19
  obtain ⟨o_u1, hz20⟩ := new1 w19 [.bool nu, .string su, .string tu] 33
  replace o_a := o_a.alloc (.cells #[.bool nu, .string su, .string tu] 33)
  replace o_b := o_b.alloc (.cells #[.bool nu, .string su, .string tu] 33)
  replace o_x1 := o_x1.alloc (.cells #[.bool nu, .string su, .string tu] 33)
  replace o_x2 := o_x2.alloc (.cells #[.bool nu, .string su, .string tu] 33)
  replace o_p1 := o_p1.alloc (.cells #[.bool nu, .string su, .string tu] 33)
  replace o_p2 := o_p2.alloc (.cells #[.bool nu, .string su, .string tu] 33)
  replace o_c1 := o_c1.alloc (.cells #[.bool nu, .string su, .string tu] 33)
  replace o_c2 := o_c2.alloc (.cells #[.bool nu, .string su, .string tu] 33)
  replace hbw := below6 hbw hz20
  clear hz20
  go_wp2_with fail
  generalize (w19.alloc (.cells #[.bool nu, .string su, .string tu] 33)) = wa21 at o_a o_b o_x1 o_x2 o_p1 o_p2 o_c1 o_c2 o_u1 hbw ⊢
  generalize w19.heap.size = g21 at o_u1 ⊢
  refine (HU2.out _).mono ?_
  rintro e w22 ⟨rfl, hb22⟩
  replace o_a := o_a.below hb22 o_a.lt
  replace o_b := o_b.below hb22 o_b.lt
  replace o_x1 := o_x1.below hb22 o_x1.lt
  replace o_x2 := o_x2.below hb22 o_x2.lt
  replace o_p1 := o_p1.below hb22 o_p1.lt
  replace o_p2 := o_p2.below hb22 o_p2.lt
  replace o_c1 := o_c1.below hb22 o_c1.lt
  replace o_c2 := o_c2.below hb22 o_c2.lt
  replace o_u1 := o_u1.below hb22 o_u1.lt
  replace hbw := below6 hbw hb22
  clear hb22
  obtain ⟨o_u2, hz23⟩ := new1 w22 [.bool nu, .string su, .string tu] 33
  replace o_a := o_a.alloc (.cells #[.bool nu, .string su, .string tu] 33)
  replace o_b := o_b.alloc (.cells #[.bool nu, .string su, .string tu] 33)
  replace o_x1 := o_x1.alloc (.cells #[.bool nu, .string su, .string tu] 33)
  replace o_x2 := o_x2.alloc (.cells #[.bool nu, .string su, .string tu] 33)
  replace o_p1 := o_p1.alloc (.cells #[.bool nu, .string su, .string tu] 33)
  replace o_p2 := o_p2.alloc (.cells #[.bool nu, .string su, .string tu] 33)
  replace o_c1 := o_c1.alloc (.cells #[.bool nu, .string su, .string tu] 33)
  replace o_c2 := o_c2.alloc (.cells #[.bool nu, .string su, .string tu] 33)
  replace o_u1 := o_u1.alloc (.cells #[.bool nu, .string su, .string tu] 33)
  replace hbw := below6 hbw hz23
  clear hz23
  have qa_0 : (w22.alloc (.cells #[.bool nu, .string su, .string tu] 33)).cell? ⟨w.heap.size, 0, none⟩ = some (.bool na) := o_a.cell 0
  have qa_1 : (w22.alloc (.cells #[.bool nu, .string su, .string tu] 33)).cell? ⟨w.heap.size, 1, none⟩ = some (.string sa) := o_a.cell 1
  have qa_2 : (w22.alloc (.cells #[.bool nu, .string su, .string tu] 33)).cell? ⟨w.heap.size, 2, none⟩ = some (.string ta) := o_a.cell 2
  go_wp2_with fail
  generalize (w22.alloc (.cells #[.bool nu, .string su, .string tu] 33)) = wa24 at o_a o_b o_x1 o_x2 o_p1 o_p2 o_c1 o_c2 o_u1 o_u2 hbw ⊢
  generalize w22.heap.size = g24 at o_u2 ⊢
  clear qa_0 qa_1 qa_2
  refine (HN1.out _).mono ?_
  rintro e w25 ⟨rfl, hb25⟩
  replace o_a := o_a.below hb25 o_a.lt
  replace o_b := o_b.below hb25 o_b.lt
  replace o_x1 := o_x1.below hb25 o_x1.lt
  replace o_x2 := o_x2.below hb25 o_x2.lt
  replace o_p1 := o_p1.below hb25 o_p1.lt
  replace o_p2 := o_p2.below hb25 o_p2.lt
  replace o_c1 := o_c1.below hb25 o_c1.lt
  replace o_c2 := o_c2.below hb25 o_c2.lt
  replace o_u1 := o_u1.below hb25 o_u1.lt
  replace o_u2 := o_u2.below hb25 o_u2.lt
  replace hbw := below6 hbw hb25
  clear hb25
  obtain ⟨o_n1, hz26⟩ := new1 w25 [.bool nn, .string sn, .string tn] 33
  replace o_a := o_a.alloc (.cells #[.bool nn, .string sn, .string tn] 33)
  replace o_b := o_b.alloc (.cells #[.bool nn, .string sn, .string tn] 33)
  replace o_x1 := o_x1.alloc (.cells #[.bool nn, .string sn, .string tn] 33)
  replace o_x2 := o_x2.alloc (.cells #[.bool nn, .string sn, .string tn] 33)
  replace o_p1 := o_p1.alloc (.cells #[.bool nn, .string sn, .string tn] 33)
  replace o_p2 := o_p2.alloc (.cells #[.bool nn, .string sn, .string tn] 33)
  replace o_c1 := o_c1.alloc (.cells #[.bool nn, .string sn, .string tn] 33)
  replace o_c2 := o_c2.alloc (.cells #[.bool nn, .string sn, .string tn] 33)
  replace o_u1 := o_u1.alloc (.cells #[.bool nn, .string sn, .string tn] 33)
  replace o_u2 := o_u2.alloc (.cells #[.bool nn, .string sn, .string tn] 33)
  replace hbw := below6 hbw hz26
  clear hz26
  have qa_0 : (w25.alloc (.cells #[.bool nn, .string sn, .string tn] 33)).cell? ⟨w.heap.size, 0, none⟩ = some (.bool na) := o_a.cell 0
  have qa_1 : (w25.alloc (.cells #[.bool nn, .string sn, .string tn] 33)).cell? ⟨w.heap.size, 1, none⟩ = some (.string sa) := o_a.cell 1
  have qa_2 : (w25.alloc (.cells #[.bool nn, .string sn, .string tn] 33)).cell? ⟨w.heap.size, 2, none⟩ = some (.string ta) := o_a.cell 2
  go_wp2_with fail
  generalize (w25.alloc (.cells #[.bool nn, .string sn, .string tn] 33)) = wa27 at o_a o_b o_x1 o_x2 o_p1 o_p2 o_c1 o_c2 o_u1 o_u2 o_n1 hbw ⊢
  generalize w25.heap.size = g27 at o_n1 ⊢
  clear qa_0 qa_1 qa_2
  refine (HN2.out _).mono ?_
  rintro e w28 ⟨rfl, hb28⟩
  replace o_a := o_a.below hb28 o_a.lt
  replace o_b := o_b.below hb28 o_b.lt
  replace o_x1 := o_x1.below hb28 o_x1.lt
  replace o_x2 := o_x2.below hb28 o_x2.lt
  replace o_p1 := o_p1.below hb28 o_p1.lt
  replace o_p2 := o_p2.below hb28 o_p2.lt
  replace o_c1 := o_c1.below hb28 o_c1.lt
  replace o_c2 := o_c2.below hb28 o_c2.lt
  replace o_u1 := o_u1.below hb28 o_u1.lt
  replace o_u2 := o_u2.below hb28 o_u2.lt
  replace o_n1 := o_n1.below hb28 o_n1.lt
  replace hbw := below6 hbw hb28
  clear hb28
  obtain ⟨o_n2, hz29⟩ := new1 w28 [.bool nn, .string sn, .string tn] 33
  replace o_a := o_a.alloc (.cells #[.bool nn, .string sn, .string tn] 33)
  replace o_b := o_b.alloc (.cells #[.bool nn, .string sn, .string tn] 33)
  replace o_x1 := o_x1.alloc (.cells #[.bool nn, .string sn, .string tn] 33)
  replace o_x2 := o_x2.alloc (.cells #[.bool nn, .string sn, .string tn] 33)
  replace o_p1 := o_p1.alloc (.cells #[.bool nn, .string sn, .string tn] 33)
  replace o_p2 := o_p2.alloc (.cells #[.bool nn, .string sn, .string tn] 33)
  replace o_c1 := o_c1.alloc (.cells #[.bool nn, .string sn, .string tn] 33)
  replace o_c2 := o_c2.alloc (.cells #[.bool nn, .string sn, .string tn] 33)
  replace o_u1 := o_u1.alloc (.cells #[.bool nn, .string sn, .string tn] 33)
  replace o_u2 := o_u2.alloc (.cells #[.bool nn, .string sn, .string tn] 33)
  replace o_n1 := o_n1.alloc (.cells #[.bool nn, .string sn, .string tn] 33)
  replace hbw := below6 hbw hz29
  clear hz29
  go_upto_region 13 with (fail)
  generalize (w28.alloc (.cells #[.bool nn, .string sn, .string tn] 33)) = wa30 at o_a o_b o_x1 o_x2 o_p1 o_p2 o_c1 o_c2 o_u1 o_u2 o_n1 o_n2 hbw ⊢
  generalize w28.heap.size = g30 at o_n2 ⊢
  have qa_0 : wa30.cell? ⟨w.heap.size, 0, none⟩ = some (.bool na) := o_a.cell 0
  have qa_1 : wa30.cell? ⟨w.heap.size, 1, none⟩ = some (.string sa) := o_a.cell 1
  have qa_2 : wa30.cell? ⟨w.heap.size, 2, none⟩ = some (.string ta) := o_a.cell 2
  have qb_0 : wa30.cell? ⟨w.heap.size + 1, 0, none⟩ = some (.bool nb) := o_b.cell 0
  have qb_1 : wa30.cell? ⟨w.heap.size + 1, 1, none⟩ = some (.string sb) := o_b.cell 1
  have qb_2 : wa30.cell? ⟨w.heap.size + 1, 2, none⟩ = some (.string tb) := o_b.cell 2
  have qx1_0 : wa30.cell? ⟨g3, 0, none⟩ = some (.bool nx) := o_x1.cell 0
  have qx1_1 : wa30.cell? ⟨g3, 1, none⟩ = some (.string sx) := o_x1.cell 1
  have qx1_2 : wa30.cell? ⟨g3, 2, none⟩ = some (.string tx) := o_x1.cell 2
  have qx2_0 : wa30.cell? ⟨g6, 0, none⟩ = some (.bool nx) := o_x2.cell 0
  have qx2_1 : wa30.cell? ⟨g6, 1, none⟩ = some (.string sx) := o_x2.cell 1
  have qx2_2 : wa30.cell? ⟨g6, 2, none⟩ = some (.string tx) := o_x2.cell 2
  have qp1_0 : wa30.cell? ⟨g9, 0, none⟩ = some (.bool np) := o_p1.cell 0
  have qp1_1 : wa30.cell? ⟨g9, 1, none⟩ = some (.string sp) := o_p1.cell 1
  have qp1_2 : wa30.cell? ⟨g9, 2, none⟩ = some (.string tp) := o_p1.cell 2
  have qp2_0 : wa30.cell? ⟨g12, 0, none⟩ = some (.bool np) := o_p2.cell 0
  have qp2_1 : wa30.cell? ⟨g12, 1, none⟩ = some (.string sp) := o_p2.cell 1
  have qp2_2 : wa30.cell? ⟨g12, 2, none⟩ = some (.string tp) := o_p2.cell 2
  have qc1_0 : wa30.cell? ⟨g15, 0, none⟩ = some (.bool nc) := o_c1.cell 0
  have qc1_1 : wa30.cell? ⟨g15, 1, none⟩ = some (.string sc) := o_c1.cell 1
  have qc1_2 : wa30.cell? ⟨g15, 2, none⟩ = some (.string tc) := o_c1.cell 2
  have qc2_0 : wa30.cell? ⟨g18, 0, none⟩ = some (.bool nc) := o_c2.cell 0
  have qc2_1 : wa30.cell? ⟨g18, 1, none⟩ = some (.string sc) := o_c2.cell 1
  have qc2_2 : wa30.cell? ⟨g18, 2, none⟩ = some (.string tc) := o_c2.cell 2
  have qu1_0 : wa30.cell? ⟨g21, 0, none⟩ = some (.bool nu) := o_u1.cell 0
  have qu1_1 : wa30.cell? ⟨g21, 1, none⟩ = some (.string su) := o_u1.cell 1
  have qu1_2 : wa30.cell? ⟨g21, 2, none⟩ = some (.string tu) := o_u1.cell 2
  have qu2_0 : wa30.cell? ⟨g24, 0, none⟩ = some (.bool nu) := o_u2.cell 0
  have qu2_1 : wa30.cell? ⟨g24, 1, none⟩ = some (.string su) := o_u2.cell 1
  have qu2_2 : wa30.cell? ⟨g24, 2, none⟩ = some (.string tu) := o_u2.cell 2
  have qn1_0 : wa30.cell? ⟨g27, 0, none⟩ = some (.bool nn) := o_n1.cell 0
  have qn1_1 : wa30.cell? ⟨g27, 1, none⟩ = some (.string sn) := o_n1.cell 1
  have qn1_2 : wa30.cell? ⟨g27, 2, none⟩ = some (.string tn) := o_n1.cell 2
  have qn2_0 : wa30.cell? ⟨g30, 0, none⟩ = some (.bool nn) := o_n2.cell 0
  have qn2_1 : wa30.cell? ⟨g30, 1, none⟩ = some (.string sn) := o_n2.cell 1
  have qn2_2 : wa30.cell? ⟨g30, 2, none⟩ = some (.string tn) := o_n2.cell 2
  have HKN := Lib.hid known_any
  refine wp_reg_abs (some 118 :: some 119 :: some 120 :: some 121 :: some 122 :: some 123 :: some 124 :: some 125 :: some 126 :: some 127 :: some 128 :: some 129 :: some 130 :: some 131 :: some 132 :: some 133 :: some 134 :: some 135 :: some 136 :: some 137 :: some 138 :: some 139 :: some 140 :: some 141 :: some 142 :: some 143 :: some 144 :: some 145 :: some 146 :: some 147 :: some 148 :: some 149 :: some 150 :: some 151 :: some 152 :: some 153 :: some 154 :: some 155 :: some 156 :: some 157 :: some 158 :: some 159 :: some 160 :: some 161 :: some 162 :: some 163 :: some 164 :: some 165 :: some 166 :: some 167 :: some 168 :: some 169 :: some 170 :: some 171 :: some 172 :: some 173 :: some 174 :: some 175 :: some 176 :: some 177 :: some 178 :: some 179 :: some 180 :: some 181 :: some 182 :: some 183 :: some 184 :: some 185 :: some 186 :: some 187 :: some 188 :: some 189 :: some 190 :: some 191 :: some 6 :: []) (?v1_0 :: ?v1_1 :: ?v1_2 :: ?v1_3 :: ?v1_4 :: ?v1_5 :: ?v1_6 :: ?v1_7 :: ?v1_8 :: ?v1_9 :: ?v1_10 :: ?v1_11 :: ?v1_12 :: ?v1_13 :: ?v1_14 :: ?v1_15 :: ?v1_16 :: ?v1_17 :: ?v1_18 :: ?v1_19 :: ?v1_20 :: ?v1_21 :: ?v1_22 :: ?v1_23 :: ?v1_24 :: ?v1_25 :: ?v1_26 :: ?v1_27 :: ?v1_28 :: ?v1_29 :: ?v1_30 :: ?v1_31 :: ?v1_32 :: ?v1_33 :: ?v1_34 :: ?v1_35 :: ?v1_36 :: ?v1_37 :: ?v1_38 :: ?v1_39 :: ?v1_40 :: ?v1_41 :: ?v1_42 :: ?v1_43 :: ?v1_44 :: ?v1_45 :: ?v1_46 :: ?v1_47 :: ?v1_48 :: ?v1_49 :: ?v1_50 :: ?v1_51 :: ?v1_52 :: ?v1_53 :: ?v1_54 :: ?v1_55 :: ?v1_56 :: ?v1_57 :: ?v1_58 :: ?v1_59 :: ?v1_60 :: ?v1_61 :: ?v1_62 :: ?v1_63 :: ?v1_64 :: ?v1_65 :: ?v1_66 :: ?v1_67 :: ?v1_68 :: ?v1_69 :: ?v1_70 :: ?v1_71 :: ?v1_72 :: ?v1_73 :: ?v1_74 :: []) rfl (by kernel_rfl) rfl rfl ⟨?s1_0, ?s1_1, ?s1_2, ?s1_3, ?s1_4, ?s1_5, ?s1_6, ?s1_7, ?s1_8, ?s1_9, ?s1_10, ?s1_11, ?s1_12, ?s1_13, ?s1_14, ?s1_15, ?s1_16, ?s1_17, ?s1_18, ?s1_19, ?s1_20, ?s1_21, ?s1_22, ?s1_23, ?s1_24, ?s1_25, ?s1_26, ?s1_27, ?s1_28, ?s1_29, ?s1_30, ?s1_31, ?s1_32, ?s1_33, ?s1_34, ?s1_35, ?s1_36, ?s1_37, ?s1_38, ?s1_39, ?s1_40, ?s1_41, ?s1_42, ?s1_43, ?s1_44, ?s1_45, ?s1_46, ?s1_47, ?s1_48, ?s1_49, ?s1_50, ?s1_51, ?s1_52, ?s1_53, ?s1_54, ?s1_55, ?s1_56, ?s1_57, ?s1_58, ?s1_59, ?s1_60, ?s1_61, ?s1_62, ?s1_63, ?s1_64, ?s1_65, ?s1_66, ?s1_67, ?s1_68, ?s1_69, ?s1_70, ?s1_71, ?s1_72, ?s1_73, ?s1_74, trivial⟩ ?p1
  case s1_0 =>
    intro t9 w9 hT9 hV9 hO9 K9 hK9
    have o9_3 := hO9 3 _ (by kernel_rfl) rfl
    clear hV9 hO9
    have d9_0 := grow_cell hT9 qa_0
    have d9_1 := grow_cell hT9 qa_1
    have d9_2 := grow_cell hT9 qa_2
    have d9_3 := grow_cell hT9 qb_0
    have d9_4 := grow_cell hT9 qb_1
    have d9_5 := grow_cell hT9 qb_2
    have d9_6 := grow_cell hT9 qx1_0
    have d9_7 := grow_cell hT9 qx1_1
    have d9_8 := grow_cell hT9 qx1_2
    have d9_9 := grow_cell hT9 qx2_0
    have d9_10 := grow_cell hT9 qx2_1
    have d9_11 := grow_cell hT9 qx2_2
    have d9_12 := grow_cell hT9 qp1_0
    have d9_13 := grow_cell hT9 qp1_1
    have d9_14 := grow_cell hT9 qp1_2
    have d9_15 := grow_cell hT9 qp2_0
    have d9_16 := grow_cell hT9 qp2_1
    have d9_17 := grow_cell hT9 qp2_2
    have d9_18 := grow_cell hT9 qc1_0
    have d9_19 := grow_cell hT9 qc1_1
    have d9_20 := grow_cell hT9 qc1_2
    have d9_21 := grow_cell hT9 qc2_0
    have d9_22 := grow_cell hT9 qc2_1
    have d9_23 := grow_cell hT9 qc2_2
    have d9_24 := grow_cell hT9 qu1_0
    have d9_25 := grow_cell hT9 qu1_1
    have d9_26 := grow_cell hT9 qu1_2
    have d9_27 := grow_cell hT9 qu2_0
    have d9_28 := grow_cell hT9 qu2_1
    have d9_29 := grow_cell hT9 qu2_2
    have d9_30 := grow_cell hT9 qn1_0
    have d9_31 := grow_cell hT9 qn1_1
    have d9_32 := grow_cell hT9 qn1_2
    have d9_33 := grow_cell hT9 qn2_0
    have d9_34 := grow_cell hT9 qn2_1
    have d9_35 := grow_cell hT9 qn2_2
    go_simp
    exact hK9 _ (Grow.refl _)
  case s1_1 =>
    intro t9 w9 hT9 hV9 hO9 K9 hK9
    have p9_0 : t9[118]? = some ?v1_0 := hV9 0 118 rfl rfl (of_decide_eq_true (by kernel_rfl))
    clear hV9 hO9
    go_simp
    first | exact hK9 _ (Grow.refl _) | (refine (HI1.out _).mono ?_; rintro _ w8 ⟨rfl, hb8⟩; exact hK9 _ hb8)
  case s1_2 =>
    intro t9 w9 hT9 hV9 hO9 K9 hK9
    have o9_3 := hO9 3 _ (by kernel_rfl) rfl
    clear hV9 hO9
    have d9_0 := grow_cell hT9 qa_0
    have d9_1 := grow_cell hT9 qa_1
    have d9_2 := grow_cell hT9 qa_2
    have d9_3 := grow_cell hT9 qb_0
    have d9_4 := grow_cell hT9 qb_1
    have d9_5 := grow_cell hT9 qb_2
    have d9_6 := grow_cell hT9 qx1_0
    have d9_7 := grow_cell hT9 qx1_1
    have d9_8 := grow_cell hT9 qx1_2
    have d9_9 := grow_cell hT9 qx2_0
    have d9_10 := grow_cell hT9 qx2_1
    have d9_11 := grow_cell hT9 qx2_2
    have d9_12 := grow_cell hT9 qp1_0
    have d9_13 := grow_cell hT9 qp1_1
    have d9_14 := grow_cell hT9 qp1_2
    have d9_15 := grow_cell hT9 qp2_0
    have d9_16 := grow_cell hT9 qp2_1
    have d9_17 := grow_cell hT9 qp2_2
    have d9_18 := grow_cell hT9 qc1_0
    have d9_19 := grow_cell hT9 qc1_1
    have d9_20 := grow_cell hT9 qc1_2
    have d9_21 := grow_cell hT9 qc2_0
    have d9_22 := grow_cell hT9 qc2_1
    have d9_23 := grow_cell hT9 qc2_2
    have d9_24 := grow_cell hT9 qu1_0
    have d9_25 := grow_cell hT9 qu1_1
    have d9_26 := grow_cell hT9 qu1_2
    have d9_27 := grow_cell hT9 qu2_0
    have d9_28 := grow_cell hT9 qu2_1
    have d9_29 := grow_cell hT9 qu2_2
    have d9_30 := grow_cell hT9 qn1_0
    have d9_31 := grow_cell hT9 qn1_1
    have d9_32 := grow_cell hT9 qn1_2
    have d9_33 := grow_cell hT9 qn2_0
    have d9_34 := grow_cell hT9 qn2_1
    have d9_35 := grow_cell hT9 qn2_2
    go_simp
    exact hK9 _ (Grow.refl _)
  case s1_3 =>
    intro t9 w9 hT9 hV9 hO9 K9 hK9
    have p9_2 : t9[120]? = some ?v1_2 := hV9 2 120 rfl rfl (of_decide_eq_true (by kernel_rfl))
    clear hV9 hO9
    go_simp
    first | exact hK9 _ (Grow.refl _) | (refine (HI2.out _).mono ?_; rintro _ w8 ⟨rfl, hb8⟩; exact hK9 _ hb8)
  case s1_4 =>
    intro t9 w9 hT9 hV9 hO9 K9 hK9
    have p9_1 : t9[119]? = some ?v1_1 := hV9 1 119 rfl rfl (of_decide_eq_true (by kernel_rfl))
    have p9_3 : t9[121]? = some ?v1_3 := hV9 3 121 rfl rfl (of_decide_eq_true (by kernel_rfl))
    clear hV9 hO9
    go_simp
    exact hK9 _ (Grow.refl _)
  case s1_5 =>
    intro t9 w9 hT9 hV9 hO9 K9 hK9
    have p9_4 : t9[122]? = some ?v1_4 := hV9 4 122 rfl rfl (of_decide_eq_true (by kernel_rfl))
    clear hV9 hO9
    go_simp
    exact hK9 _ (Grow.refl _)
  case s1_6 =>
    intro t9 w9 hT9 hV9 hO9 K9 hK9
    have p9_5 : t9[123]? = some ?v1_5 := hV9 5 123 rfl rfl (of_decide_eq_true (by kernel_rfl))
    have o9_7 := hO9 7 _ (by kernel_rfl) rfl
    clear hV9 hO9
    have d9_0 := grow_cell hT9 qa_0
    have d9_1 := grow_cell hT9 qa_1
    have d9_2 := grow_cell hT9 qa_2
    have d9_3 := grow_cell hT9 qb_0
    have d9_4 := grow_cell hT9 qb_1
    have d9_5 := grow_cell hT9 qb_2
    have d9_6 := grow_cell hT9 qx1_0
    have d9_7 := grow_cell hT9 qx1_1
    have d9_8 := grow_cell hT9 qx1_2
    have d9_9 := grow_cell hT9 qx2_0
    have d9_10 := grow_cell hT9 qx2_1
    have d9_11 := grow_cell hT9 qx2_2
    have d9_12 := grow_cell hT9 qp1_0
    have d9_13 := grow_cell hT9 qp1_1
    have d9_14 := grow_cell hT9 qp1_2
    have d9_15 := grow_cell hT9 qp2_0
    have d9_16 := grow_cell hT9 qp2_1
    have d9_17 := grow_cell hT9 qp2_2
    have d9_18 := grow_cell hT9 qc1_0
    have d9_19 := grow_cell hT9 qc1_1
    have d9_20 := grow_cell hT9 qc1_2
    have d9_21 := grow_cell hT9 qc2_0
    have d9_22 := grow_cell hT9 qc2_1
    have d9_23 := grow_cell hT9 qc2_2
    have d9_24 := grow_cell hT9 qu1_0
    have d9_25 := grow_cell hT9 qu1_1
    have d9_26 := grow_cell hT9 qu1_2
    have d9_27 := grow_cell hT9 qu2_0
    have d9_28 := grow_cell hT9 qu2_1
    have d9_29 := grow_cell hT9 qu2_2
    have d9_30 := grow_cell hT9 qn1_0
    have d9_31 := grow_cell hT9 qn1_1
    have d9_32 := grow_cell hT9 qn1_2
    have d9_33 := grow_cell hT9 qn2_0
    have d9_34 := grow_cell hT9 qn2_1
    have d9_35 := grow_cell hT9 qn2_2
    go_simp
    exact hK9 _ (Grow.refl _)
  case s1_7 =>
    intro t9 w9 hT9 hV9 hO9 K9 hK9
    have p9_5 : t9[123]? = some ?v1_5 := hV9 5 123 rfl rfl (of_decide_eq_true (by kernel_rfl))
    have o9_9 := hO9 9 _ (by kernel_rfl) rfl
    clear hV9 hO9
    have d9_0 := grow_cell hT9 qa_0
    have d9_1 := grow_cell hT9 qa_1
    have d9_2 := grow_cell hT9 qa_2
    have d9_3 := grow_cell hT9 qb_0
    have d9_4 := grow_cell hT9 qb_1
    have d9_5 := grow_cell hT9 qb_2
    have d9_6 := grow_cell hT9 qx1_0
    have d9_7 := grow_cell hT9 qx1_1
    have d9_8 := grow_cell hT9 qx1_2
    have d9_9 := grow_cell hT9 qx2_0
    have d9_10 := grow_cell hT9 qx2_1
    have d9_11 := grow_cell hT9 qx2_2
    have d9_12 := grow_cell hT9 qp1_0
    have d9_13 := grow_cell hT9 qp1_1
    have d9_14 := grow_cell hT9 qp1_2
    have d9_15 := grow_cell hT9 qp2_0
    have d9_16 := grow_cell hT9 qp2_1
    have d9_17 := grow_cell hT9 qp2_2
    have d9_18 := grow_cell hT9 qc1_0
    have d9_19 := grow_cell hT9 qc1_1
    have d9_20 := grow_cell hT9 qc1_2
    have d9_21 := grow_cell hT9 qc2_0
    have d9_22 := grow_cell hT9 qc2_1
    have d9_23 := grow_cell hT9 qc2_2
    have d9_24 := grow_cell hT9 qu1_0
    have d9_25 := grow_cell hT9 qu1_1
    have d9_26 := grow_cell hT9 qu1_2
    have d9_27 := grow_cell hT9 qu2_0
    have d9_28 := grow_cell hT9 qu2_1
    have d9_29 := grow_cell hT9 qu2_2
    have d9_30 := grow_cell hT9 qn1_0
    have d9_31 := grow_cell hT9 qn1_1
    have d9_32 := grow_cell hT9 qn1_2
    have d9_33 := grow_cell hT9 qn2_0
    have d9_34 := grow_cell hT9 qn2_1
    have d9_35 := grow_cell hT9 qn2_2
    go_simp
    exact hK9 _ (Grow.refl _)
  case s1_8 =>
    intro t9 w9 hT9 hV9 hO9 K9 hK9
    have p9_5 : t9[123]? = some ?v1_5 := hV9 5 123 rfl rfl (of_decide_eq_true (by kernel_rfl))
    have p9_6 : t9[124]? = some ?v1_6 := hV9 6 124 rfl rfl (of_decide_eq_true (by kernel_rfl))
    have p9_7 : t9[125]? = some ?v1_7 := hV9 7 125 rfl rfl (of_decide_eq_true (by kernel_rfl))
    clear hV9 hO9
    go_simp
    exact hK9 _ (Grow.refl _)
  case s1_9 =>
    intro t9 w9 hT9 hV9 hO9 K9 hK9
    have p9_5 : t9[123]? = some ?v1_5 := hV9 5 123 rfl rfl (of_decide_eq_true (by kernel_rfl))
    have p9_8 : t9[126]? = some ?v1_8 := hV9 8 126 rfl rfl (of_decide_eq_true (by kernel_rfl))
    clear hV9 hO9
    go_simp
    exact hK9 _ (Grow.refl _)
  case s1_10 =>
    intro t9 w9 hT9 hV9 hO9 K9 hK9
    have p9_9 : t9[127]? = some ?v1_9 := hV9 9 127 rfl rfl (of_decide_eq_true (by kernel_rfl))
    clear hV9 hO9
    go_simp
    exact hK9 _ (Grow.refl _)
  case s1_11 =>
    intro t9 w9 hT9 hV9 hO9 K9 hK9
    have p9_10 : t9[128]? = some ?v1_10 := hV9 10 128 rfl rfl (of_decide_eq_true (by kernel_rfl))
    have o9_8 := hO9 8 _ (by kernel_rfl) rfl
    clear hV9 hO9
    go_simp
    exact hK9 _ (Grow.refl _)
  case s1_12 =>
    intro t9 w9 hT9 hV9 hO9 K9 hK9
    have p9_10 : t9[128]? = some ?v1_10 := hV9 10 128 rfl rfl (of_decide_eq_true (by kernel_rfl))
    have o9_10 := hO9 10 _ (by kernel_rfl) rfl
    clear hV9 hO9
    go_simp
    exact hK9 _ (Grow.refl _)
  case s1_13 =>
    intro t9 w9 hT9 hV9 hO9 K9 hK9
    have p9_10 : t9[128]? = some ?v1_10 := hV9 10 128 rfl rfl (of_decide_eq_true (by kernel_rfl))
    have p9_11 : t9[129]? = some ?v1_11 := hV9 11 129 rfl rfl (of_decide_eq_true (by kernel_rfl))
    have p9_12 : t9[130]? = some ?v1_12 := hV9 12 130 rfl rfl (of_decide_eq_true (by kernel_rfl))
    clear hV9 hO9
    go_simp
    exact hK9 _ (Grow.refl _)
  case s1_14 =>
    intro t9 w9 hT9 hV9 hO9 K9 hK9
    have p9_10 : t9[128]? = some ?v1_10 := hV9 10 128 rfl rfl (of_decide_eq_true (by kernel_rfl))
    have p9_13 : t9[131]? = some ?v1_13 := hV9 13 131 rfl rfl (of_decide_eq_true (by kernel_rfl))
    clear hV9 hO9
    go_simp
    exact hK9 _ (Grow.refl _)
  case s1_15 =>
    intro t9 w9 hT9 hV9 hO9 K9 hK9
    have p9_14 : t9[132]? = some ?v1_14 := hV9 14 132 rfl rfl (of_decide_eq_true (by kernel_rfl))
    clear hV9 hO9
    go_simp
    exact hK9 _ (Grow.refl _)
  case s1_16 =>
    intro t9 w9 hT9 hV9 hO9 K9 hK9
    have p9_15 : t9[133]? = some ?v1_15 := hV9 15 133 rfl rfl (of_decide_eq_true (by kernel_rfl))
    have o9_11 := hO9 11 _ (by kernel_rfl) rfl
    clear hV9 hO9
    have d9_0 := grow_cell hT9 qa_0
    have d9_1 := grow_cell hT9 qa_1
    have d9_2 := grow_cell hT9 qa_2
    have d9_3 := grow_cell hT9 qb_0
    have d9_4 := grow_cell hT9 qb_1
    have d9_5 := grow_cell hT9 qb_2
    have d9_6 := grow_cell hT9 qx1_0
    have d9_7 := grow_cell hT9 qx1_1
    have d9_8 := grow_cell hT9 qx1_2
    have d9_9 := grow_cell hT9 qx2_0
    have d9_10 := grow_cell hT9 qx2_1
    have d9_11 := grow_cell hT9 qx2_2
    have d9_12 := grow_cell hT9 qp1_0
    have d9_13 := grow_cell hT9 qp1_1
    have d9_14 := grow_cell hT9 qp1_2
    have d9_15 := grow_cell hT9 qp2_0
    have d9_16 := grow_cell hT9 qp2_1
    have d9_17 := grow_cell hT9 qp2_2
    have d9_18 := grow_cell hT9 qc1_0
    have d9_19 := grow_cell hT9 qc1_1
    have d9_20 := grow_cell hT9 qc1_2
    have d9_21 := grow_cell hT9 qc2_0
    have d9_22 := grow_cell hT9 qc2_1
    have d9_23 := grow_cell hT9 qc2_2
    have d9_24 := grow_cell hT9 qu1_0
    have d9_25 := grow_cell hT9 qu1_1
    have d9_26 := grow_cell hT9 qu1_2
    have d9_27 := grow_cell hT9 qu2_0
    have d9_28 := grow_cell hT9 qu2_1
    have d9_29 := grow_cell hT9 qu2_2
    have d9_30 := grow_cell hT9 qn1_0
    have d9_31 := grow_cell hT9 qn1_1
    have d9_32 := grow_cell hT9 qn1_2
    have d9_33 := grow_cell hT9 qn2_0
    have d9_34 := grow_cell hT9 qn2_1
    have d9_35 := grow_cell hT9 qn2_2
    go_simp
    exact hK9 _ (Grow.refl _)
  case s1_17 =>
    intro t9 w9 hT9 hV9 hO9 K9 hK9
    have p9_15 : t9[133]? = some ?v1_15 := hV9 15 133 rfl rfl (of_decide_eq_true (by kernel_rfl))
    have o9_13 := hO9 13 _ (by kernel_rfl) rfl
    clear hV9 hO9
    have d9_0 := grow_cell hT9 qa_0
    have d9_1 := grow_cell hT9 qa_1
    have d9_2 := grow_cell hT9 qa_2
    have d9_3 := grow_cell hT9 qb_0
    have d9_4 := grow_cell hT9 qb_1
    have d9_5 := grow_cell hT9 qb_2
    have d9_6 := grow_cell hT9 qx1_0
    have d9_7 := grow_cell hT9 qx1_1
    have d9_8 := grow_cell hT9 qx1_2
    have d9_9 := grow_cell hT9 qx2_0
    have d9_10 := grow_cell hT9 qx2_1
    have d9_11 := grow_cell hT9 qx2_2
    have d9_12 := grow_cell hT9 qp1_0
    have d9_13 := grow_cell hT9 qp1_1
    have d9_14 := grow_cell hT9 qp1_2
    have d9_15 := grow_cell hT9 qp2_0
    have d9_16 := grow_cell hT9 qp2_1
    have d9_17 := grow_cell hT9 qp2_2
    have d9_18 := grow_cell hT9 qc1_0
    have d9_19 := grow_cell hT9 qc1_1
    have d9_20 := grow_cell hT9 qc1_2
    have d9_21 := grow_cell hT9 qc2_0
    have d9_22 := grow_cell hT9 qc2_1
    have d9_23 := grow_cell hT9 qc2_2
    have d9_24 := grow_cell hT9 qu1_0
    have d9_25 := grow_cell hT9 qu1_1
    have d9_26 := grow_cell hT9 qu1_2
    have d9_27 := grow_cell hT9 qu2_0
    have d9_28 := grow_cell hT9 qu2_1
    have d9_29 := grow_cell hT9 qu2_2
    have d9_30 := grow_cell hT9 qn1_0
    have d9_31 := grow_cell hT9 qn1_1
    have d9_32 := grow_cell hT9 qn1_2
    have d9_33 := grow_cell hT9 qn2_0
    have d9_34 := grow_cell hT9 qn2_1
    have d9_35 := grow_cell hT9 qn2_2
    go_simp
    exact hK9 _ (Grow.refl _)
  case s1_18 =>
    intro t9 w9 hT9 hV9 hO9 K9 hK9
    have p9_15 : t9[133]? = some ?v1_15 := hV9 15 133 rfl rfl (of_decide_eq_true (by kernel_rfl))
    have p9_16 : t9[134]? = some ?v1_16 := hV9 16 134 rfl rfl (of_decide_eq_true (by kernel_rfl))
    have p9_17 : t9[135]? = some ?v1_17 := hV9 17 135 rfl rfl (of_decide_eq_true (by kernel_rfl))
    clear hV9 hO9
    go_simp
    exact hK9 _ (Grow.refl _)
  case s1_19 =>
    intro t9 w9 hT9 hV9 hO9 K9 hK9
    have p9_15 : t9[133]? = some ?v1_15 := hV9 15 133 rfl rfl (of_decide_eq_true (by kernel_rfl))
    have p9_18 : t9[136]? = some ?v1_18 := hV9 18 136 rfl rfl (of_decide_eq_true (by kernel_rfl))
    clear hV9 hO9
    go_simp
    exact hK9 _ (Grow.refl _)
  case s1_20 =>
    intro t9 w9 hT9 hV9 hO9 K9 hK9
    have p9_19 : t9[137]? = some ?v1_19 := hV9 19 137 rfl rfl (of_decide_eq_true (by kernel_rfl))
    clear hV9 hO9
    go_simp
    exact hK9 _ (Grow.refl _)
  case s1_21 =>
    intro t9 w9 hT9 hV9 hO9 K9 hK9
    have p9_20 : t9[138]? = some ?v1_20 := hV9 20 138 rfl rfl (of_decide_eq_true (by kernel_rfl))
    have o9_12 := hO9 12 _ (by kernel_rfl) rfl
    clear hV9 hO9
    go_simp
    exact hK9 _ (Grow.refl _)
  case s1_22 =>
    intro t9 w9 hT9 hV9 hO9 K9 hK9
    have p9_20 : t9[138]? = some ?v1_20 := hV9 20 138 rfl rfl (of_decide_eq_true (by kernel_rfl))
    have o9_14 := hO9 14 _ (by kernel_rfl) rfl
    clear hV9 hO9
    go_simp
    exact hK9 _ (Grow.refl _)
  case s1_23 =>
    intro t9 w9 hT9 hV9 hO9 K9 hK9
    have p9_20 : t9[138]? = some ?v1_20 := hV9 20 138 rfl rfl (of_decide_eq_true (by kernel_rfl))
    have p9_21 : t9[139]? = some ?v1_21 := hV9 21 139 rfl rfl (of_decide_eq_true (by kernel_rfl))
    have p9_22 : t9[140]? = some ?v1_22 := hV9 22 140 rfl rfl (of_decide_eq_true (by kernel_rfl))
    clear hV9 hO9
    go_simp
    exact hK9 _ (Grow.refl _)
  case s1_24 =>
    intro t9 w9 hT9 hV9 hO9 K9 hK9
    have p9_20 : t9[138]? = some ?v1_20 := hV9 20 138 rfl rfl (of_decide_eq_true (by kernel_rfl))
    have p9_23 : t9[141]? = some ?v1_23 := hV9 23 141 rfl rfl (of_decide_eq_true (by kernel_rfl))
    clear hV9 hO9
    go_simp
    exact hK9 _ (Grow.refl _)
  case s1_25 =>
    intro t9 w9 hT9 hV9 hO9 K9 hK9
    have p9_24 : t9[142]? = some ?v1_24 := hV9 24 142 rfl rfl (of_decide_eq_true (by kernel_rfl))
    clear hV9 hO9
    go_simp
    exact hK9 _ (Grow.refl _)
  case s1_26 =>
    intro t9 w9 hT9 hV9 hO9 K9 hK9
    have p9_25 : t9[143]? = some ?v1_25 := hV9 25 143 rfl rfl (of_decide_eq_true (by kernel_rfl))
    have o9_15 := hO9 15 _ (by kernel_rfl) rfl
    clear hV9 hO9
    have d9_0 := grow_cell hT9 qa_0
    have d9_1 := grow_cell hT9 qa_1
    have d9_2 := grow_cell hT9 qa_2
    have d9_3 := grow_cell hT9 qb_0
    have d9_4 := grow_cell hT9 qb_1
    have d9_5 := grow_cell hT9 qb_2
    have d9_6 := grow_cell hT9 qx1_0
    have d9_7 := grow_cell hT9 qx1_1
    have d9_8 := grow_cell hT9 qx1_2
    have d9_9 := grow_cell hT9 qx2_0
    have d9_10 := grow_cell hT9 qx2_1
    have d9_11 := grow_cell hT9 qx2_2
    have d9_12 := grow_cell hT9 qp1_0
    have d9_13 := grow_cell hT9 qp1_1
    have d9_14 := grow_cell hT9 qp1_2
    have d9_15 := grow_cell hT9 qp2_0
    have d9_16 := grow_cell hT9 qp2_1
    have d9_17 := grow_cell hT9 qp2_2
    have d9_18 := grow_cell hT9 qc1_0
    have d9_19 := grow_cell hT9 qc1_1
    have d9_20 := grow_cell hT9 qc1_2
    have d9_21 := grow_cell hT9 qc2_0
    have d9_22 := grow_cell hT9 qc2_1
    have d9_23 := grow_cell hT9 qc2_2
    have d9_24 := grow_cell hT9 qu1_0
    have d9_25 := grow_cell hT9 qu1_1
    have d9_26 := grow_cell hT9 qu1_2
    have d9_27 := grow_cell hT9 qu2_0
    have d9_28 := grow_cell hT9 qu2_1
    have d9_29 := grow_cell hT9 qu2_2
    have d9_30 := grow_cell hT9 qn1_0
    have d9_31 := grow_cell hT9 qn1_1
    have d9_32 := grow_cell hT9 qn1_2
    have d9_33 := grow_cell hT9 qn2_0
    have d9_34 := grow_cell hT9 qn2_1
    have d9_35 := grow_cell hT9 qn2_2
    go_simp
    exact hK9 _ (Grow.refl _)
  case s1_27 =>
    intro t9 w9 hT9 hV9 hO9 K9 hK9
    have p9_25 : t9[143]? = some ?v1_25 := hV9 25 143 rfl rfl (of_decide_eq_true (by kernel_rfl))
    have o9_17 := hO9 17 _ (by kernel_rfl) rfl
    clear hV9 hO9
    have d9_0 := grow_cell hT9 qa_0
    have d9_1 := grow_cell hT9 qa_1
    have d9_2 := grow_cell hT9 qa_2
    have d9_3 := grow_cell hT9 qb_0
    have d9_4 := grow_cell hT9 qb_1
    have d9_5 := grow_cell hT9 qb_2
    have d9_6 := grow_cell hT9 qx1_0
    have d9_7 := grow_cell hT9 qx1_1
    have d9_8 := grow_cell hT9 qx1_2
    have d9_9 := grow_cell hT9 qx2_0
    have d9_10 := grow_cell hT9 qx2_1
    have d9_11 := grow_cell hT9 qx2_2
    have d9_12 := grow_cell hT9 qp1_0
    have d9_13 := grow_cell hT9 qp1_1
    have d9_14 := grow_cell hT9 qp1_2
    have d9_15 := grow_cell hT9 qp2_0
    have d9_16 := grow_cell hT9 qp2_1
    have d9_17 := grow_cell hT9 qp2_2
    have d9_18 := grow_cell hT9 qc1_0
    have d9_19 := grow_cell hT9 qc1_1
    have d9_20 := grow_cell hT9 qc1_2
    have d9_21 := grow_cell hT9 qc2_0
    have d9_22 := grow_cell hT9 qc2_1
    have d9_23 := grow_cell hT9 qc2_2
    have d9_24 := grow_cell hT9 qu1_0
    have d9_25 := grow_cell hT9 qu1_1
    have d9_26 := grow_cell hT9 qu1_2
    have d9_27 := grow_cell hT9 qu2_0
    have d9_28 := grow_cell hT9 qu2_1
    have d9_29 := grow_cell hT9 qu2_2
    have d9_30 := grow_cell hT9 qn1_0
    have d9_31 := grow_cell hT9 qn1_1
    have d9_32 := grow_cell hT9 qn1_2
    have d9_33 := grow_cell hT9 qn2_0
    have d9_34 := grow_cell hT9 qn2_1
    have d9_35 := grow_cell hT9 qn2_2
    go_simp
    exact hK9 _ (Grow.refl _)
  case s1_28 =>
    intro t9 w9 hT9 hV9 hO9 K9 hK9
    have p9_25 : t9[143]? = some ?v1_25 := hV9 25 143 rfl rfl (of_decide_eq_true (by kernel_rfl))
    have p9_26 : t9[144]? = some ?v1_26 := hV9 26 144 rfl rfl (of_decide_eq_true (by kernel_rfl))
    have p9_27 : t9[145]? = some ?v1_27 := hV9 27 145 rfl rfl (of_decide_eq_true (by kernel_rfl))
    clear hV9 hO9
    go_simp
    exact hK9 _ (Grow.refl _)
  case s1_29 =>
    intro t9 w9 hT9 hV9 hO9 K9 hK9
    have p9_25 : t9[143]? = some ?v1_25 := hV9 25 143 rfl rfl (of_decide_eq_true (by kernel_rfl))
    have p9_28 : t9[146]? = some ?v1_28 := hV9 28 146 rfl rfl (of_decide_eq_true (by kernel_rfl))
    clear hV9 hO9
    go_simp
    exact hK9 _ (Grow.refl _)
  case s1_30 =>
    intro t9 w9 hT9 hV9 hO9 K9 hK9
    have p9_29 : t9[147]? = some ?v1_29 := hV9 29 147 rfl rfl (of_decide_eq_true (by kernel_rfl))
    clear hV9 hO9
    go_simp
    exact hK9 _ (Grow.refl _)
  case s1_31 =>
    intro t9 w9 hT9 hV9 hO9 K9 hK9
    have p9_30 : t9[148]? = some ?v1_30 := hV9 30 148 rfl rfl (of_decide_eq_true (by kernel_rfl))
    have o9_16 := hO9 16 _ (by kernel_rfl) rfl
    clear hV9 hO9
    go_simp
    exact hK9 _ (Grow.refl _)
  case s1_32 =>
    intro t9 w9 hT9 hV9 hO9 K9 hK9
    have p9_30 : t9[148]? = some ?v1_30 := hV9 30 148 rfl rfl (of_decide_eq_true (by kernel_rfl))
    have o9_18 := hO9 18 _ (by kernel_rfl) rfl
    clear hV9 hO9
    go_simp
    exact hK9 _ (Grow.refl _)
  case s1_33 =>
    intro t9 w9 hT9 hV9 hO9 K9 hK9
    have p9_30 : t9[148]? = some ?v1_30 := hV9 30 148 rfl rfl (of_decide_eq_true (by kernel_rfl))
    have p9_31 : t9[149]? = some ?v1_31 := hV9 31 149 rfl rfl (of_decide_eq_true (by kernel_rfl))
    have p9_32 : t9[150]? = some ?v1_32 := hV9 32 150 rfl rfl (of_decide_eq_true (by kernel_rfl))
    clear hV9 hO9
    go_simp
    exact hK9 _ (Grow.refl _)
  case s1_34 =>
    intro t9 w9 hT9 hV9 hO9 K9 hK9
    have p9_30 : t9[148]? = some ?v1_30 := hV9 30 148 rfl rfl (of_decide_eq_true (by kernel_rfl))
    have p9_33 : t9[151]? = some ?v1_33 := hV9 33 151 rfl rfl (of_decide_eq_true (by kernel_rfl))
    clear hV9 hO9
    go_simp
    exact hK9 _ (Grow.refl _)
  case s1_35 =>
    intro t9 w9 hT9 hV9 hO9 K9 hK9
    have p9_34 : t9[152]? = some ?v1_34 := hV9 34 152 rfl rfl (of_decide_eq_true (by kernel_rfl))
    clear hV9 hO9
    go_simp
    exact hK9 _ (Grow.refl _)
  case s1_36 =>
    intro t9 w9 hT9 hV9 hO9 K9 hK9
    have p9_35 : t9[153]? = some ?v1_35 := hV9 35 153 rfl rfl (of_decide_eq_true (by kernel_rfl))
    have o9_19 := hO9 19 _ (by kernel_rfl) rfl
    clear hV9 hO9
    have d9_0 := grow_cell hT9 qa_0
    have d9_1 := grow_cell hT9 qa_1
    have d9_2 := grow_cell hT9 qa_2
    have d9_3 := grow_cell hT9 qb_0
    have d9_4 := grow_cell hT9 qb_1
    have d9_5 := grow_cell hT9 qb_2
    have d9_6 := grow_cell hT9 qx1_0
    have d9_7 := grow_cell hT9 qx1_1
    have d9_8 := grow_cell hT9 qx1_2
    have d9_9 := grow_cell hT9 qx2_0
    have d9_10 := grow_cell hT9 qx2_1
    have d9_11 := grow_cell hT9 qx2_2
    have d9_12 := grow_cell hT9 qp1_0
    have d9_13 := grow_cell hT9 qp1_1
    have d9_14 := grow_cell hT9 qp1_2
    have d9_15 := grow_cell hT9 qp2_0
    have d9_16 := grow_cell hT9 qp2_1
    have d9_17 := grow_cell hT9 qp2_2
    have d9_18 := grow_cell hT9 qc1_0
    have d9_19 := grow_cell hT9 qc1_1
    have d9_20 := grow_cell hT9 qc1_2
    have d9_21 := grow_cell hT9 qc2_0
    have d9_22 := grow_cell hT9 qc2_1
    have d9_23 := grow_cell hT9 qc2_2
    have d9_24 := grow_cell hT9 qu1_0
    have d9_25 := grow_cell hT9 qu1_1
    have d9_26 := grow_cell hT9 qu1_2
    have d9_27 := grow_cell hT9 qu2_0
    have d9_28 := grow_cell hT9 qu2_1
    have d9_29 := grow_cell hT9 qu2_2
    have d9_30 := grow_cell hT9 qn1_0
    have d9_31 := grow_cell hT9 qn1_1
    have d9_32 := grow_cell hT9 qn1_2
    have d9_33 := grow_cell hT9 qn2_0
    have d9_34 := grow_cell hT9 qn2_1
    have d9_35 := grow_cell hT9 qn2_2
    go_simp
    exact hK9 _ (Grow.refl _)
  case s1_37 =>
    intro t9 w9 hT9 hV9 hO9 K9 hK9
    have p9_35 : t9[153]? = some ?v1_35 := hV9 35 153 rfl rfl (of_decide_eq_true (by kernel_rfl))
    have o9_21 := hO9 21 _ (by kernel_rfl) rfl
    clear hV9 hO9
    have d9_0 := grow_cell hT9 qa_0
    have d9_1 := grow_cell hT9 qa_1
    have d9_2 := grow_cell hT9 qa_2
    have d9_3 := grow_cell hT9 qb_0
    have d9_4 := grow_cell hT9 qb_1
    have d9_5 := grow_cell hT9 qb_2
    have d9_6 := grow_cell hT9 qx1_0
    have d9_7 := grow_cell hT9 qx1_1
    have d9_8 := grow_cell hT9 qx1_2
    have d9_9 := grow_cell hT9 qx2_0
    have d9_10 := grow_cell hT9 qx2_1
    have d9_11 := grow_cell hT9 qx2_2
    have d9_12 := grow_cell hT9 qp1_0
    have d9_13 := grow_cell hT9 qp1_1
    have d9_14 := grow_cell hT9 qp1_2
    have d9_15 := grow_cell hT9 qp2_0
    have d9_16 := grow_cell hT9 qp2_1
    have d9_17 := grow_cell hT9 qp2_2
    have d9_18 := grow_cell hT9 qc1_0
    have d9_19 := grow_cell hT9 qc1_1
    have d9_20 := grow_cell hT9 qc1_2
    have d9_21 := grow_cell hT9 qc2_0
    have d9_22 := grow_cell hT9 qc2_1
    have d9_23 := grow_cell hT9 qc2_2
    have d9_24 := grow_cell hT9 qu1_0
    have d9_25 := grow_cell hT9 qu1_1
    have d9_26 := grow_cell hT9 qu1_2
    have d9_27 := grow_cell hT9 qu2_0
    have d9_28 := grow_cell hT9 qu2_1
    have d9_29 := grow_cell hT9 qu2_2
    have d9_30 := grow_cell hT9 qn1_0
    have d9_31 := grow_cell hT9 qn1_1
    have d9_32 := grow_cell hT9 qn1_2
    have d9_33 := grow_cell hT9 qn2_0
    have d9_34 := grow_cell hT9 qn2_1
    have d9_35 := grow_cell hT9 qn2_2
    go_simp
    exact hK9 _ (Grow.refl _)
  case s1_38 =>
    intro t9 w9 hT9 hV9 hO9 K9 hK9
    have p9_35 : t9[153]? = some ?v1_35 := hV9 35 153 rfl rfl (of_decide_eq_true (by kernel_rfl))
    have p9_36 : t9[154]? = some ?v1_36 := hV9 36 154 rfl rfl (of_decide_eq_true (by kernel_rfl))
    have p9_37 : t9[155]? = some ?v1_37 := hV9 37 155 rfl rfl (of_decide_eq_true (by kernel_rfl))
    clear hV9 hO9
    go_simp
    exact hK9 _ (Grow.refl _)
  case s1_39 =>
    intro t9 w9 hT9 hV9 hO9 K9 hK9
    have p9_35 : t9[153]? = some ?v1_35 := hV9 35 153 rfl rfl (of_decide_eq_true (by kernel_rfl))
    have p9_38 : t9[156]? = some ?v1_38 := hV9 38 156 rfl rfl (of_decide_eq_true (by kernel_rfl))
    clear hV9 hO9
    go_simp
    exact hK9 _ (Grow.refl _)
  case s1_40 =>
    intro t9 w9 hT9 hV9 hO9 K9 hK9
    have p9_39 : t9[157]? = some ?v1_39 := hV9 39 157 rfl rfl (of_decide_eq_true (by kernel_rfl))
    clear hV9 hO9
    go_simp
    exact hK9 _ (Grow.refl _)
  case s1_41 =>
    intro t9 w9 hT9 hV9 hO9 K9 hK9
    have p9_40 : t9[158]? = some ?v1_40 := hV9 40 158 rfl rfl (of_decide_eq_true (by kernel_rfl))
    have o9_20 := hO9 20 _ (by kernel_rfl) rfl
    clear hV9 hO9
    go_simp
    exact hK9 _ (Grow.refl _)
  case s1_42 =>
    intro t9 w9 hT9 hV9 hO9 K9 hK9
    have p9_40 : t9[158]? = some ?v1_40 := hV9 40 158 rfl rfl (of_decide_eq_true (by kernel_rfl))
    have o9_22 := hO9 22 _ (by kernel_rfl) rfl
    clear hV9 hO9
    go_simp
    exact hK9 _ (Grow.refl _)
  case s1_43 =>
    intro t9 w9 hT9 hV9 hO9 K9 hK9
    have p9_40 : t9[158]? = some ?v1_40 := hV9 40 158 rfl rfl (of_decide_eq_true (by kernel_rfl))
    have p9_41 : t9[159]? = some ?v1_41 := hV9 41 159 rfl rfl (of_decide_eq_true (by kernel_rfl))
    have p9_42 : t9[160]? = some ?v1_42 := hV9 42 160 rfl rfl (of_decide_eq_true (by kernel_rfl))
    clear hV9 hO9
    go_simp
    exact hK9 _ (Grow.refl _)
  case s1_44 =>
    intro t9 w9 hT9 hV9 hO9 K9 hK9
    have p9_40 : t9[158]? = some ?v1_40 := hV9 40 158 rfl rfl (of_decide_eq_true (by kernel_rfl))
    have p9_43 : t9[161]? = some ?v1_43 := hV9 43 161 rfl rfl (of_decide_eq_true (by kernel_rfl))
    clear hV9 hO9
    go_simp
    exact hK9 _ (Grow.refl _)
  case s1_45 =>
    intro t9 w9 hT9 hV9 hO9 K9 hK9
    have p9_44 : t9[162]? = some ?v1_44 := hV9 44 162 rfl rfl (of_decide_eq_true (by kernel_rfl))
    clear hV9 hO9
    go_simp
    exact hK9 _ (Grow.refl _)
  case s1_46 =>
    intro t9 w9 hT9 hV9 hO9 K9 hK9
    have p9_45 : t9[163]? = some ?v1_45 := hV9 45 163 rfl rfl (of_decide_eq_true (by kernel_rfl))
    have o9_23 := hO9 23 _ (by kernel_rfl) rfl
    clear hV9 hO9
    have d9_0 := grow_cell hT9 qa_0
    have d9_1 := grow_cell hT9 qa_1
    have d9_2 := grow_cell hT9 qa_2
    have d9_3 := grow_cell hT9 qb_0
    have d9_4 := grow_cell hT9 qb_1
    have d9_5 := grow_cell hT9 qb_2
    have d9_6 := grow_cell hT9 qx1_0
    have d9_7 := grow_cell hT9 qx1_1
    have d9_8 := grow_cell hT9 qx1_2
    have d9_9 := grow_cell hT9 qx2_0
    have d9_10 := grow_cell hT9 qx2_1
    have d9_11 := grow_cell hT9 qx2_2
    have d9_12 := grow_cell hT9 qp1_0
    have d9_13 := grow_cell hT9 qp1_1
    have d9_14 := grow_cell hT9 qp1_2
    have d9_15 := grow_cell hT9 qp2_0
    have d9_16 := grow_cell hT9 qp2_1
    have d9_17 := grow_cell hT9 qp2_2
    have d9_18 := grow_cell hT9 qc1_0
    have d9_19 := grow_cell hT9 qc1_1
    have d9_20 := grow_cell hT9 qc1_2
    have d9_21 := grow_cell hT9 qc2_0
    have d9_22 := grow_cell hT9 qc2_1
    have d9_23 := grow_cell hT9 qc2_2
    have d9_24 := grow_cell hT9 qu1_0
    have d9_25 := grow_cell hT9 qu1_1
    have d9_26 := grow_cell hT9 qu1_2
    have d9_27 := grow_cell hT9 qu2_0
    have d9_28 := grow_cell hT9 qu2_1
    have d9_29 := grow_cell hT9 qu2_2
    have d9_30 := grow_cell hT9 qn1_0
    have d9_31 := grow_cell hT9 qn1_1
    have d9_32 := grow_cell hT9 qn1_2
    have d9_33 := grow_cell hT9 qn2_0
    have d9_34 := grow_cell hT9 qn2_1
    have d9_35 := grow_cell hT9 qn2_2
    go_simp
    exact hK9 _ (Grow.refl _)
  case s1_47 =>
    intro t9 w9 hT9 hV9 hO9 K9 hK9
    have p9_45 : t9[163]? = some ?v1_45 := hV9 45 163 rfl rfl (of_decide_eq_true (by kernel_rfl))
    have o9_25 := hO9 25 _ (by kernel_rfl) rfl
    clear hV9 hO9
    have d9_0 := grow_cell hT9 qa_0
    have d9_1 := grow_cell hT9 qa_1
    have d9_2 := grow_cell hT9 qa_2
    have d9_3 := grow_cell hT9 qb_0
    have d9_4 := grow_cell hT9 qb_1
    have d9_5 := grow_cell hT9 qb_2
    have d9_6 := grow_cell hT9 qx1_0
    have d9_7 := grow_cell hT9 qx1_1
    have d9_8 := grow_cell hT9 qx1_2
    have d9_9 := grow_cell hT9 qx2_0
    have d9_10 := grow_cell hT9 qx2_1
    have d9_11 := grow_cell hT9 qx2_2
    have d9_12 := grow_cell hT9 qp1_0
    have d9_13 := grow_cell hT9 qp1_1
    have d9_14 := grow_cell hT9 qp1_2
    have d9_15 := grow_cell hT9 qp2_0
    have d9_16 := grow_cell hT9 qp2_1
    have d9_17 := grow_cell hT9 qp2_2
    have d9_18 := grow_cell hT9 qc1_0
    have d9_19 := grow_cell hT9 qc1_1
    have d9_20 := grow_cell hT9 qc1_2
    have d9_21 := grow_cell hT9 qc2_0
    have d9_22 := grow_cell hT9 qc2_1
    have d9_23 := grow_cell hT9 qc2_2
    have d9_24 := grow_cell hT9 qu1_0
    have d9_25 := grow_cell hT9 qu1_1
    have d9_26 := grow_cell hT9 qu1_2
    have d9_27 := grow_cell hT9 qu2_0
    have d9_28 := grow_cell hT9 qu2_1
    have d9_29 := grow_cell hT9 qu2_2
    have d9_30 := grow_cell hT9 qn1_0
    have d9_31 := grow_cell hT9 qn1_1
    have d9_32 := grow_cell hT9 qn1_2
    have d9_33 := grow_cell hT9 qn2_0
    have d9_34 := grow_cell hT9 qn2_1
    have d9_35 := grow_cell hT9 qn2_2
    go_simp
    exact hK9 _ (Grow.refl _)
  case s1_48 =>
    intro t9 w9 hT9 hV9 hO9 K9 hK9
    have p9_45 : t9[163]? = some ?v1_45 := hV9 45 163 rfl rfl (of_decide_eq_true (by kernel_rfl))
    have p9_46 : t9[164]? = some ?v1_46 := hV9 46 164 rfl rfl (of_decide_eq_true (by kernel_rfl))
    have p9_47 : t9[165]? = some ?v1_47 := hV9 47 165 rfl rfl (of_decide_eq_true (by kernel_rfl))
    clear hV9 hO9
    go_simp
    exact hK9 _ (Grow.refl _)
  case s1_49 =>
    intro t9 w9 hT9 hV9 hO9 K9 hK9
    have p9_45 : t9[163]? = some ?v1_45 := hV9 45 163 rfl rfl (of_decide_eq_true (by kernel_rfl))
    have p9_48 : t9[166]? = some ?v1_48 := hV9 48 166 rfl rfl (of_decide_eq_true (by kernel_rfl))
    clear hV9 hO9
    go_simp
    exact hK9 _ (Grow.refl _)
  case s1_50 =>
    intro t9 w9 hT9 hV9 hO9 K9 hK9
    have p9_49 : t9[167]? = some ?v1_49 := hV9 49 167 rfl rfl (of_decide_eq_true (by kernel_rfl))
    clear hV9 hO9
    go_simp
    exact hK9 _ (Grow.refl _)
  case s1_51 =>
    intro t9 w9 hT9 hV9 hO9 K9 hK9
    have p9_50 : t9[168]? = some ?v1_50 := hV9 50 168 rfl rfl (of_decide_eq_true (by kernel_rfl))
    have o9_24 := hO9 24 _ (by kernel_rfl) rfl
    clear hV9 hO9
    go_simp
    exact hK9 _ (Grow.refl _)
  case s1_52 =>
    intro t9 w9 hT9 hV9 hO9 K9 hK9
    have p9_50 : t9[168]? = some ?v1_50 := hV9 50 168 rfl rfl (of_decide_eq_true (by kernel_rfl))
    have o9_26 := hO9 26 _ (by kernel_rfl) rfl
    clear hV9 hO9
    go_simp
    exact hK9 _ (Grow.refl _)
  case s1_53 =>
    intro t9 w9 hT9 hV9 hO9 K9 hK9
    have p9_50 : t9[168]? = some ?v1_50 := hV9 50 168 rfl rfl (of_decide_eq_true (by kernel_rfl))
    have p9_51 : t9[169]? = some ?v1_51 := hV9 51 169 rfl rfl (of_decide_eq_true (by kernel_rfl))
    have p9_52 : t9[170]? = some ?v1_52 := hV9 52 170 rfl rfl (of_decide_eq_true (by kernel_rfl))
    clear hV9 hO9
    go_simp
    exact hK9 _ (Grow.refl _)
  case s1_54 =>
    intro t9 w9 hT9 hV9 hO9 K9 hK9
    have p9_50 : t9[168]? = some ?v1_50 := hV9 50 168 rfl rfl (of_decide_eq_true (by kernel_rfl))
    have p9_53 : t9[171]? = some ?v1_53 := hV9 53 171 rfl rfl (of_decide_eq_true (by kernel_rfl))
    clear hV9 hO9
    go_simp
    exact hK9 _ (Grow.refl _)
  case s1_55 =>
    intro t9 w9 hT9 hV9 hO9 K9 hK9
    have p9_54 : t9[172]? = some ?v1_54 := hV9 54 172 rfl rfl (of_decide_eq_true (by kernel_rfl))
    clear hV9 hO9
    go_simp
    exact hK9 _ (Grow.refl _)
  case s1_56 =>
    intro t9 w9 hT9 hV9 hO9 K9 hK9
    have p9_55 : t9[173]? = some ?v1_55 := hV9 55 173 rfl rfl (of_decide_eq_true (by kernel_rfl))
    have o9_3 := hO9 3 _ (by kernel_rfl) rfl
    clear hV9 hO9
    have d9_0 := grow_cell hT9 qa_0
    have d9_1 := grow_cell hT9 qa_1
    have d9_2 := grow_cell hT9 qa_2
    have d9_3 := grow_cell hT9 qb_0
    have d9_4 := grow_cell hT9 qb_1
    have d9_5 := grow_cell hT9 qb_2
    have d9_6 := grow_cell hT9 qx1_0
    have d9_7 := grow_cell hT9 qx1_1
    have d9_8 := grow_cell hT9 qx1_2
    have d9_9 := grow_cell hT9 qx2_0
    have d9_10 := grow_cell hT9 qx2_1
    have d9_11 := grow_cell hT9 qx2_2
    have d9_12 := grow_cell hT9 qp1_0
    have d9_13 := grow_cell hT9 qp1_1
    have d9_14 := grow_cell hT9 qp1_2
    have d9_15 := grow_cell hT9 qp2_0
    have d9_16 := grow_cell hT9 qp2_1
    have d9_17 := grow_cell hT9 qp2_2
    have d9_18 := grow_cell hT9 qc1_0
    have d9_19 := grow_cell hT9 qc1_1
    have d9_20 := grow_cell hT9 qc1_2
    have d9_21 := grow_cell hT9 qc2_0
    have d9_22 := grow_cell hT9 qc2_1
    have d9_23 := grow_cell hT9 qc2_2
    have d9_24 := grow_cell hT9 qu1_0
    have d9_25 := grow_cell hT9 qu1_1
    have d9_26 := grow_cell hT9 qu1_2
    have d9_27 := grow_cell hT9 qu2_0
    have d9_28 := grow_cell hT9 qu2_1
    have d9_29 := grow_cell hT9 qu2_2
    have d9_30 := grow_cell hT9 qn1_0
    have d9_31 := grow_cell hT9 qn1_1
    have d9_32 := grow_cell hT9 qn1_2
    have d9_33 := grow_cell hT9 qn2_0
    have d9_34 := grow_cell hT9 qn2_1
    have d9_35 := grow_cell hT9 qn2_2
    go_simp
    exact hK9 _ (Grow.refl _)
  case s1_57 =>
    intro t9 w9 hT9 hV9 hO9 K9 hK9
    have p9_55 : t9[173]? = some ?v1_55 := hV9 55 173 rfl rfl (of_decide_eq_true (by kernel_rfl))
    have o9_4 := hO9 4 _ (by kernel_rfl) rfl
    clear hV9 hO9
    have d9_0 := grow_cell hT9 qa_0
    have d9_1 := grow_cell hT9 qa_1
    have d9_2 := grow_cell hT9 qa_2
    have d9_3 := grow_cell hT9 qb_0
    have d9_4 := grow_cell hT9 qb_1
    have d9_5 := grow_cell hT9 qb_2
    have d9_6 := grow_cell hT9 qx1_0
    have d9_7 := grow_cell hT9 qx1_1
    have d9_8 := grow_cell hT9 qx1_2
    have d9_9 := grow_cell hT9 qx2_0
    have d9_10 := grow_cell hT9 qx2_1
    have d9_11 := grow_cell hT9 qx2_2
    have d9_12 := grow_cell hT9 qp1_0
    have d9_13 := grow_cell hT9 qp1_1
    have d9_14 := grow_cell hT9 qp1_2
    have d9_15 := grow_cell hT9 qp2_0
    have d9_16 := grow_cell hT9 qp2_1
    have d9_17 := grow_cell hT9 qp2_2
    have d9_18 := grow_cell hT9 qc1_0
    have d9_19 := grow_cell hT9 qc1_1
    have d9_20 := grow_cell hT9 qc1_2
    have d9_21 := grow_cell hT9 qc2_0
    have d9_22 := grow_cell hT9 qc2_1
    have d9_23 := grow_cell hT9 qc2_2
    have d9_24 := grow_cell hT9 qu1_0
    have d9_25 := grow_cell hT9 qu1_1
    have d9_26 := grow_cell hT9 qu1_2
    have d9_27 := grow_cell hT9 qu2_0
    have d9_28 := grow_cell hT9 qu2_1
    have d9_29 := grow_cell hT9 qu2_2
    have d9_30 := grow_cell hT9 qn1_0
    have d9_31 := grow_cell hT9 qn1_1
    have d9_32 := grow_cell hT9 qn1_2
    have d9_33 := grow_cell hT9 qn2_0
    have d9_34 := grow_cell hT9 qn2_1
    have d9_35 := grow_cell hT9 qn2_2
    go_simp
    exact hK9 _ (Grow.refl _)
  case s1_58 =>
    intro t9 w9 hT9 hV9 hO9 K9 hK9
    have p9_55 : t9[173]? = some ?v1_55 := hV9 55 173 rfl rfl (of_decide_eq_true (by kernel_rfl))
    have p9_56 : t9[174]? = some ?v1_56 := hV9 56 174 rfl rfl (of_decide_eq_true (by kernel_rfl))
    have p9_57 : t9[175]? = some ?v1_57 := hV9 57 175 rfl rfl (of_decide_eq_true (by kernel_rfl))
    clear hV9 hO9
    go_simp
    first | exact hK9 _ (Grow.refl _) | (refine (HM1.out _).mono ?_; rintro _ w8 ⟨rfl, hb8⟩; exact hK9 _ hb8)
  case s1_59 =>
    intro t9 w9 hT9 hV9 hO9 K9 hK9
    have p9_55 : t9[173]? = some ?v1_55 := hV9 55 173 rfl rfl (of_decide_eq_true (by kernel_rfl))
    have o9_3 := hO9 3 _ (by kernel_rfl) rfl
    clear hV9 hO9
    have d9_0 := grow_cell hT9 qa_0
    have d9_1 := grow_cell hT9 qa_1
    have d9_2 := grow_cell hT9 qa_2
    have d9_3 := grow_cell hT9 qb_0
    have d9_4 := grow_cell hT9 qb_1
    have d9_5 := grow_cell hT9 qb_2
    have d9_6 := grow_cell hT9 qx1_0
    have d9_7 := grow_cell hT9 qx1_1
    have d9_8 := grow_cell hT9 qx1_2
    have d9_9 := grow_cell hT9 qx2_0
    have d9_10 := grow_cell hT9 qx2_1
    have d9_11 := grow_cell hT9 qx2_2
    have d9_12 := grow_cell hT9 qp1_0
    have d9_13 := grow_cell hT9 qp1_1
    have d9_14 := grow_cell hT9 qp1_2
    have d9_15 := grow_cell hT9 qp2_0
    have d9_16 := grow_cell hT9 qp2_1
    have d9_17 := grow_cell hT9 qp2_2
    have d9_18 := grow_cell hT9 qc1_0
    have d9_19 := grow_cell hT9 qc1_1
    have d9_20 := grow_cell hT9 qc1_2
    have d9_21 := grow_cell hT9 qc2_0
    have d9_22 := grow_cell hT9 qc2_1
    have d9_23 := grow_cell hT9 qc2_2
    have d9_24 := grow_cell hT9 qu1_0
    have d9_25 := grow_cell hT9 qu1_1
    have d9_26 := grow_cell hT9 qu1_2
    have d9_27 := grow_cell hT9 qu2_0
    have d9_28 := grow_cell hT9 qu2_1
    have d9_29 := grow_cell hT9 qu2_2
    have d9_30 := grow_cell hT9 qn1_0
    have d9_31 := grow_cell hT9 qn1_1
    have d9_32 := grow_cell hT9 qn1_2
    have d9_33 := grow_cell hT9 qn2_0
    have d9_34 := grow_cell hT9 qn2_1
    have d9_35 := grow_cell hT9 qn2_2
    go_simp
    exact hK9 _ (Grow.refl _)
  case s1_60 =>
    intro t9 w9 hT9 hV9 hO9 K9 hK9
    have p9_55 : t9[173]? = some ?v1_55 := hV9 55 173 rfl rfl (of_decide_eq_true (by kernel_rfl))
    have o9_4 := hO9 4 _ (by kernel_rfl) rfl
    clear hV9 hO9
    have d9_0 := grow_cell hT9 qa_0
    have d9_1 := grow_cell hT9 qa_1
    have d9_2 := grow_cell hT9 qa_2
    have d9_3 := grow_cell hT9 qb_0
    have d9_4 := grow_cell hT9 qb_1
    have d9_5 := grow_cell hT9 qb_2
    have d9_6 := grow_cell hT9 qx1_0
    have d9_7 := grow_cell hT9 qx1_1
    have d9_8 := grow_cell hT9 qx1_2
    have d9_9 := grow_cell hT9 qx2_0
    have d9_10 := grow_cell hT9 qx2_1
    have d9_11 := grow_cell hT9 qx2_2
    have d9_12 := grow_cell hT9 qp1_0
    have d9_13 := grow_cell hT9 qp1_1
    have d9_14 := grow_cell hT9 qp1_2
    have d9_15 := grow_cell hT9 qp2_0
    have d9_16 := grow_cell hT9 qp2_1
    have d9_17 := grow_cell hT9 qp2_2
    have d9_18 := grow_cell hT9 qc1_0
    have d9_19 := grow_cell hT9 qc1_1
    have d9_20 := grow_cell hT9 qc1_2
    have d9_21 := grow_cell hT9 qc2_0
    have d9_22 := grow_cell hT9 qc2_1
    have d9_23 := grow_cell hT9 qc2_2
    have d9_24 := grow_cell hT9 qu1_0
    have d9_25 := grow_cell hT9 qu1_1
    have d9_26 := grow_cell hT9 qu1_2
    have d9_27 := grow_cell hT9 qu2_0
    have d9_28 := grow_cell hT9 qu2_1
    have d9_29 := grow_cell hT9 qu2_2
    have d9_30 := grow_cell hT9 qn1_0
    have d9_31 := grow_cell hT9 qn1_1
    have d9_32 := grow_cell hT9 qn1_2
    have d9_33 := grow_cell hT9 qn2_0
    have d9_34 := grow_cell hT9 qn2_1
    have d9_35 := grow_cell hT9 qn2_2
    go_simp
    exact hK9 _ (Grow.refl _)
  case s1_61 =>
    intro t9 w9 hT9 hV9 hO9 K9 hK9
    have p9_55 : t9[173]? = some ?v1_55 := hV9 55 173 rfl rfl (of_decide_eq_true (by kernel_rfl))
    have p9_59 : t9[177]? = some ?v1_59 := hV9 59 177 rfl rfl (of_decide_eq_true (by kernel_rfl))
    have p9_60 : t9[178]? = some ?v1_60 := hV9 60 178 rfl rfl (of_decide_eq_true (by kernel_rfl))
    clear hV9 hO9
    go_simp
    first | exact hK9 _ (Grow.refl _) | (refine (HM2.out _).mono ?_; rintro _ w8 ⟨rfl, hb8⟩; exact hK9 _ hb8)
  case s1_62 =>
    intro t9 w9 hT9 hV9 hO9 K9 hK9
    have p9_55 : t9[173]? = some ?v1_55 := hV9 55 173 rfl rfl (of_decide_eq_true (by kernel_rfl))
    have p9_58 : t9[176]? = some ?v1_58 := hV9 58 176 rfl rfl (of_decide_eq_true (by kernel_rfl))
    have p9_61 : t9[179]? = some ?v1_61 := hV9 61 179 rfl rfl (of_decide_eq_true (by kernel_rfl))
    clear hV9 hO9
    go_simp
    exact hK9 _ (Grow.refl _)
  case s1_63 =>
    intro t9 w9 hT9 hV9 hO9 K9 hK9
    have p9_55 : t9[173]? = some ?v1_55 := hV9 55 173 rfl rfl (of_decide_eq_true (by kernel_rfl))
    have p9_62 : t9[180]? = some ?v1_62 := hV9 62 180 rfl rfl (of_decide_eq_true (by kernel_rfl))
    clear hV9 hO9
    go_simp
    exact hK9 _ (Grow.refl _)
  case s1_64 =>
    intro t9 w9 hT9 hV9 hO9 K9 hK9
    have p9_63 : t9[181]? = some ?v1_63 := hV9 63 181 rfl rfl (of_decide_eq_true (by kernel_rfl))
    clear hV9 hO9
    go_simp
    exact hK9 _ (Grow.refl _)
  case s1_65 =>
    intro t9 w9 hT9 hV9 hO9 K9 hK9
    have p9_64 : t9[182]? = some ?v1_64 := hV9 64 182 rfl rfl (of_decide_eq_true (by kernel_rfl))
    have o9_3 := hO9 3 _ (by kernel_rfl) rfl
    clear hV9 hO9
    have d9_0 := grow_cell hT9 qa_0
    have d9_1 := grow_cell hT9 qa_1
    have d9_2 := grow_cell hT9 qa_2
    have d9_3 := grow_cell hT9 qb_0
    have d9_4 := grow_cell hT9 qb_1
    have d9_5 := grow_cell hT9 qb_2
    have d9_6 := grow_cell hT9 qx1_0
    have d9_7 := grow_cell hT9 qx1_1
    have d9_8 := grow_cell hT9 qx1_2
    have d9_9 := grow_cell hT9 qx2_0
    have d9_10 := grow_cell hT9 qx2_1
    have d9_11 := grow_cell hT9 qx2_2
    have d9_12 := grow_cell hT9 qp1_0
    have d9_13 := grow_cell hT9 qp1_1
    have d9_14 := grow_cell hT9 qp1_2
    have d9_15 := grow_cell hT9 qp2_0
    have d9_16 := grow_cell hT9 qp2_1
    have d9_17 := grow_cell hT9 qp2_2
    have d9_18 := grow_cell hT9 qc1_0
    have d9_19 := grow_cell hT9 qc1_1
    have d9_20 := grow_cell hT9 qc1_2
    have d9_21 := grow_cell hT9 qc2_0
    have d9_22 := grow_cell hT9 qc2_1
    have d9_23 := grow_cell hT9 qc2_2
    have d9_24 := grow_cell hT9 qu1_0
    have d9_25 := grow_cell hT9 qu1_1
    have d9_26 := grow_cell hT9 qu1_2
    have d9_27 := grow_cell hT9 qu2_0
    have d9_28 := grow_cell hT9 qu2_1
    have d9_29 := grow_cell hT9 qu2_2
    have d9_30 := grow_cell hT9 qn1_0
    have d9_31 := grow_cell hT9 qn1_1
    have d9_32 := grow_cell hT9 qn1_2
    have d9_33 := grow_cell hT9 qn2_0
    have d9_34 := grow_cell hT9 qn2_1
    have d9_35 := grow_cell hT9 qn2_2
    go_simp
    exact hK9 _ (Grow.refl _)
  case s1_66 =>
    intro t9 w9 hT9 hV9 hO9 K9 hK9
    have p9_64 : t9[182]? = some ?v1_64 := hV9 64 182 rfl rfl (of_decide_eq_true (by kernel_rfl))
    have p9_65 : t9[183]? = some ?v1_65 := hV9 65 183 rfl rfl (of_decide_eq_true (by kernel_rfl))
    clear hV9 hO9
    go_simp
    first | exact hK9 _ (Grow.refl _) | (refine (HF1.out _).mono ?_; rintro _ w8 ⟨rfl, hb8⟩; exact hK9 _ hb8)
  case s1_67 =>
    intro t9 w9 hT9 hV9 hO9 K9 hK9
    have p9_64 : t9[182]? = some ?v1_64 := hV9 64 182 rfl rfl (of_decide_eq_true (by kernel_rfl))
    have o9_3 := hO9 3 _ (by kernel_rfl) rfl
    clear hV9 hO9
    have d9_0 := grow_cell hT9 qa_0
    have d9_1 := grow_cell hT9 qa_1
    have d9_2 := grow_cell hT9 qa_2
    have d9_3 := grow_cell hT9 qb_0
    have d9_4 := grow_cell hT9 qb_1
    have d9_5 := grow_cell hT9 qb_2
    have d9_6 := grow_cell hT9 qx1_0
    have d9_7 := grow_cell hT9 qx1_1
    have d9_8 := grow_cell hT9 qx1_2
    have d9_9 := grow_cell hT9 qx2_0
    have d9_10 := grow_cell hT9 qx2_1
    have d9_11 := grow_cell hT9 qx2_2
    have d9_12 := grow_cell hT9 qp1_0
    have d9_13 := grow_cell hT9 qp1_1
    have d9_14 := grow_cell hT9 qp1_2
    have d9_15 := grow_cell hT9 qp2_0
    have d9_16 := grow_cell hT9 qp2_1
    have d9_17 := grow_cell hT9 qp2_2
    have d9_18 := grow_cell hT9 qc1_0
    have d9_19 := grow_cell hT9 qc1_1
    have d9_20 := grow_cell hT9 qc1_2
    have d9_21 := grow_cell hT9 qc2_0
    have d9_22 := grow_cell hT9 qc2_1
    have d9_23 := grow_cell hT9 qc2_2
    have d9_24 := grow_cell hT9 qu1_0
    have d9_25 := grow_cell hT9 qu1_1
    have d9_26 := grow_cell hT9 qu1_2
    have d9_27 := grow_cell hT9 qu2_0
    have d9_28 := grow_cell hT9 qu2_1
    have d9_29 := grow_cell hT9 qu2_2
    have d9_30 := grow_cell hT9 qn1_0
    have d9_31 := grow_cell hT9 qn1_1
    have d9_32 := grow_cell hT9 qn1_2
    have d9_33 := grow_cell hT9 qn2_0
    have d9_34 := grow_cell hT9 qn2_1
    have d9_35 := grow_cell hT9 qn2_2
    go_simp
    exact hK9 _ (Grow.refl _)
  case s1_68 =>
    intro t9 w9 hT9 hV9 hO9 K9 hK9
    have p9_64 : t9[182]? = some ?v1_64 := hV9 64 182 rfl rfl (of_decide_eq_true (by kernel_rfl))
    have p9_67 : t9[185]? = some ?v1_67 := hV9 67 185 rfl rfl (of_decide_eq_true (by kernel_rfl))
    clear hV9 hO9
    go_simp
    first | exact hK9 _ (Grow.refl _) | (refine (HF2.out _).mono ?_; rintro _ w8 ⟨rfl, hb8⟩; exact hK9 _ hb8)
  case s1_69 =>
    intro t9 w9 hT9 hV9 hO9 K9 hK9
    have p9_64 : t9[182]? = some ?v1_64 := hV9 64 182 rfl rfl (of_decide_eq_true (by kernel_rfl))
    have p9_66 : t9[184]? = some ?v1_66 := hV9 66 184 rfl rfl (of_decide_eq_true (by kernel_rfl))
    have p9_68 : t9[186]? = some ?v1_68 := hV9 68 186 rfl rfl (of_decide_eq_true (by kernel_rfl))
    clear hV9 hO9
    go_simp
    exact hK9 _ (Grow.refl _)
  case s1_70 =>
    intro t9 w9 hT9 hV9 hO9 K9 hK9
    have p9_64 : t9[182]? = some ?v1_64 := hV9 64 182 rfl rfl (of_decide_eq_true (by kernel_rfl))
    have p9_69 : t9[187]? = some ?v1_69 := hV9 69 187 rfl rfl (of_decide_eq_true (by kernel_rfl))
    clear hV9 hO9
    go_simp
    exact hK9 _ (Grow.refl _)
  case s1_71 =>
    intro t9 w9 hT9 hV9 hO9 K9 hK9
    have p9_70 : t9[188]? = some ?v1_70 := hV9 70 188 rfl rfl (of_decide_eq_true (by kernel_rfl))
    clear hV9 hO9
    go_simp
    exact hK9 _ (Grow.refl _)
  case s1_72 =>
    intro t9 w9 hT9 hV9 hO9 K9 hK9
    have p9_71 : t9[189]? = some ?v1_71 := hV9 71 189 rfl rfl (of_decide_eq_true (by kernel_rfl))
    clear hV9 hO9
    go_simp
    first | exact hK9 _ (Grow.refl _) | (refine (HKN.out _).mono ?_; rintro _ w8 ⟨rfl, hb8⟩; exact hK9 _ hb8)
  case s1_73 =>
    intro t9 w9 hT9 hV9 hO9 K9 hK9
    have p9_71 : t9[189]? = some ?v1_71 := hV9 71 189 rfl rfl (of_decide_eq_true (by kernel_rfl))
    have p9_72 : t9[190]? = some ?v1_72 := hV9 72 190 rfl rfl (of_decide_eq_true (by kernel_rfl))
    clear hV9 hO9
    go_simp
    exact hK9 _ (Grow.refl _)
  case s1_74 =>
    intro t9 w9 hT9 hV9 hO9 K9 hK9
    have p9_73 : t9[191]? = some ?v1_73 := hV9 73 191 rfl rfl (of_decide_eq_true (by kernel_rfl))
    clear hV9 hO9
    go_simp
    exact hK9 _ (Grow.refl _)
  intro w9 hb9
  simp only [putAll, Act.put, List.setIfInBounds_toArray, List.set_cons_succ, List.set_cons_zero, List.getD_cons_succ, List.getD_cons_zero, Nat.reduceAdd, Nat.zero_add]
  go_wp2
  go_ret
  exact ⟨rfl, below6 hbw hb9⟩
end Go.Proofs.Ytofijnhkoadfjaa
