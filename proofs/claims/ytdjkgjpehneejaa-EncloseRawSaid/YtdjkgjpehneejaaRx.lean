/- The reference's Add and Scale of intervals; both Logs where they refuse. -/
import Derived.Test.YtdjkgjpehneejaaRv
namespace Go.Proofs.Ytdjkgjpehneejaa
set_option linter.unusedSimpArgs false
set_option linter.unusedVariables false
set_option linter.unusedSectionVars false
open Go.RowKit Dg

set_option maxRecDepth 100000 in
set_option maxHeartbeats 4000000 in
theorem raddi_core (na : Bool) (sa ta : ByteArray) (nb : Bool) (sb tb : ByteArray) (nc : Bool) (sc tc : ByteArray) (nd : Bool) (sd td : ByteArray) (nu : Bool) (su tu : ByteArray) (nv : Bool) (sv tv : ByteArray) (h1 : RetV 35 #[.agg #[.bool na, .string sa, .string ta, .bool nb, .string sb, .string tb]] (.bool true)) (h2 : RetV 35 #[.agg #[.bool nc, .string sc, .string tc, .bool nd, .string sd, .string td]] (.bool true))
    (h3 : RetV 57 #[.agg #[.bool na, .string sa, .string ta], .agg #[.bool nc, .string sc, .string tc]] (.tuple #[.agg #[.bool nu, .string su, .string tu], .int .i64 0])) (h4 : RetV 57 #[.agg #[.bool nb, .string sb, .string tb], .agg #[.bool nd, .string sd, .string td]] (.tuple #[.agg #[.bool nv, .string sv, .string tv], .int .i64 0])) :
    RetV 31 #[.agg #[.bool na, .string sa, .string ta, .bool nb, .string sb, .string tb], .agg #[.bool nc, .string sc, .string tc, .bool nd, .string sd, .string td]] (.tuple #[.agg #[.bool nu, .string su, .string tu, .bool nv, .string sv, .string tv], .int .i64 0]) := by
  intro w
  have H1 := Lib.hid h1
  have H2 := Lib.hid h2
  have H3 := Lib.hid h3
  have H4 := Lib.hid h4
  clear h1 h2 h3 h4
  obtain ⟨o_i, o_j, o_r, hbw⟩ := new3 w [.bool na, .string sa, .string ta, .bool nb, .string sb, .string tb] [.bool nc, .string sc, .string tc, .bool nd, .string sd, .string td] [.bool false, .string ⟨#[]⟩, .string ⟨#[]⟩, .bool false, .string ⟨#[]⟩, .string ⟨#[]⟩] 37 37 37
  go_enter Try.func31, Try.ntmps31
  go_upto_region 1 with (fail)
  generalize (((w.alloc (.cells #[.bool na, .string sa, .string ta, .bool nb, .string sb, .string tb] 37)).alloc (.cells #[.bool nc, .string sc, .string tc, .bool nd, .string sd, .string td] 37)).alloc (.cells #[.bool false, .string ⟨#[]⟩, .string ⟨#[]⟩, .bool false, .string ⟨#[]⟩, .string ⟨#[]⟩] 37)) = wb at o_i o_j o_r hbw ⊢
  have qi_0 : wb.cell? ⟨w.heap.size, 0, none⟩ = some (.bool na) := o_i.cell 0
  have qi_1 : wb.cell? ⟨w.heap.size, 1, none⟩ = some (.string sa) := o_i.cell 1
  have qi_2 : wb.cell? ⟨w.heap.size, 2, none⟩ = some (.string ta) := o_i.cell 2
  have qi_3 : wb.cell? ⟨w.heap.size, 3, none⟩ = some (.bool nb) := o_i.cell 3
  have qi_4 : wb.cell? ⟨w.heap.size, 4, none⟩ = some (.string sb) := o_i.cell 4
  have qi_5 : wb.cell? ⟨w.heap.size, 5, none⟩ = some (.string tb) := o_i.cell 5
  have qj_0 : wb.cell? ⟨w.heap.size + 1, 0, none⟩ = some (.bool nc) := o_j.cell 0
  have qj_1 : wb.cell? ⟨w.heap.size + 1, 1, none⟩ = some (.string sc) := o_j.cell 1
  have qj_2 : wb.cell? ⟨w.heap.size + 1, 2, none⟩ = some (.string tc) := o_j.cell 2
  have qj_3 : wb.cell? ⟨w.heap.size + 1, 3, none⟩ = some (.bool nd) := o_j.cell 3
  have qj_4 : wb.cell? ⟨w.heap.size + 1, 4, none⟩ = some (.string sd) := o_j.cell 4
  have qj_5 : wb.cell? ⟨w.heap.size + 1, 5, none⟩ = some (.string td) := o_j.cell 5
  go_wp2_with fail
  clear qi_0 qi_1 qi_2 qi_3 qi_4 qi_5 qj_0 qj_1 qj_2 qj_3 qj_4 qj_5
  refine (H1.out _).mono ?_
  rintro e w1 ⟨rfl, hb1⟩
  replace o_i := o_i.below hb1 o_i.lt
  replace o_j := o_j.below hb1 o_j.lt
  replace o_r := o_r.below hb1 o_r.lt
  replace hbw := below6 hbw hb1
  clear hb1
  have qi_0 : w1.cell? ⟨w.heap.size, 0, none⟩ = some (.bool na) := o_i.cell 0
  have qi_1 : w1.cell? ⟨w.heap.size, 1, none⟩ = some (.string sa) := o_i.cell 1
  have qi_2 : w1.cell? ⟨w.heap.size, 2, none⟩ = some (.string ta) := o_i.cell 2
  have qi_3 : w1.cell? ⟨w.heap.size, 3, none⟩ = some (.bool nb) := o_i.cell 3
  have qi_4 : w1.cell? ⟨w.heap.size, 4, none⟩ = some (.string sb) := o_i.cell 4
  have qi_5 : w1.cell? ⟨w.heap.size, 5, none⟩ = some (.string tb) := o_i.cell 5
  have qj_0 : w1.cell? ⟨w.heap.size + 1, 0, none⟩ = some (.bool nc) := o_j.cell 0
  have qj_1 : w1.cell? ⟨w.heap.size + 1, 1, none⟩ = some (.string sc) := o_j.cell 1
  have qj_2 : w1.cell? ⟨w.heap.size + 1, 2, none⟩ = some (.string tc) := o_j.cell 2
  have qj_3 : w1.cell? ⟨w.heap.size + 1, 3, none⟩ = some (.bool nd) := o_j.cell 3
  have qj_4 : w1.cell? ⟨w.heap.size + 1, 4, none⟩ = some (.string sd) := o_j.cell 4
  have qj_5 : w1.cell? ⟨w.heap.size + 1, 5, none⟩ = some (.string td) := o_j.cell 5
  go_wp2_with fail
  clear qi_0 qi_1 qi_2 qi_3 qi_4 qi_5 qj_0 qj_1 qj_2 qj_3 qj_4 qj_5
  refine (H2.out _).mono ?_
  rintro e w2 ⟨rfl, hb2⟩
  replace o_i := o_i.below hb2 o_i.lt
  replace o_j := o_j.below hb2 o_j.lt
  replace o_r := o_r.below hb2 o_r.lt
  replace hbw := below6 hbw hb2
  clear hb2
  have qi_0 : w2.cell? ⟨w.heap.size, 0, none⟩ = some (.bool na) := o_i.cell 0
  have qi_1 : w2.cell? ⟨w.heap.size, 1, none⟩ = some (.string sa) := o_i.cell 1
  have qi_2 : w2.cell? ⟨w.heap.size, 2, none⟩ = some (.string ta) := o_i.cell 2
  have qi_3 : w2.cell? ⟨w.heap.size, 3, none⟩ = some (.bool nb) := o_i.cell 3
  have qi_4 : w2.cell? ⟨w.heap.size, 4, none⟩ = some (.string sb) := o_i.cell 4
  have qi_5 : w2.cell? ⟨w.heap.size, 5, none⟩ = some (.string tb) := o_i.cell 5
  have qj_0 : w2.cell? ⟨w.heap.size + 1, 0, none⟩ = some (.bool nc) := o_j.cell 0
  have qj_1 : w2.cell? ⟨w.heap.size + 1, 1, none⟩ = some (.string sc) := o_j.cell 1
  have qj_2 : w2.cell? ⟨w.heap.size + 1, 2, none⟩ = some (.string tc) := o_j.cell 2
  have qj_3 : w2.cell? ⟨w.heap.size + 1, 3, none⟩ = some (.bool nd) := o_j.cell 3
  have qj_4 : w2.cell? ⟨w.heap.size + 1, 4, none⟩ = some (.string sd) := o_j.cell 4
  have qj_5 : w2.cell? ⟨w.heap.size + 1, 5, none⟩ = some (.string td) := o_j.cell 5
  go_wp2_with fail
  clear qi_0 qi_1 qi_2 qi_3 qi_4 qi_5 qj_0 qj_1 qj_2 qj_3 qj_4 qj_5
  refine (H3.out _).mono ?_
  rintro e w3 ⟨rfl, hb3⟩
  replace o_i := o_i.below hb3 o_i.lt
  replace o_j := o_j.below hb3 o_j.lt
  replace o_r := o_r.below hb3 o_r.lt
  replace hbw := below6 hbw hb3
  clear hb3
  obtain ⟨o_u, hz4⟩ := new1 w3 [.bool nu, .string su, .string tu] 26
  replace o_i := o_i.alloc (.cells #[.bool nu, .string su, .string tu] 26)
  replace o_j := o_j.alloc (.cells #[.bool nu, .string su, .string tu] 26)
  replace o_r := o_r.alloc (.cells #[.bool nu, .string su, .string tu] 26)
  replace hbw := below6 hbw hz4
  clear hz4
  have qi_0 : (w3.alloc (.cells #[.bool nu, .string su, .string tu] 26)).cell? ⟨w.heap.size, 0, none⟩ = some (.bool na) := o_i.cell 0
  have qi_1 : (w3.alloc (.cells #[.bool nu, .string su, .string tu] 26)).cell? ⟨w.heap.size, 1, none⟩ = some (.string sa) := o_i.cell 1
  have qi_2 : (w3.alloc (.cells #[.bool nu, .string su, .string tu] 26)).cell? ⟨w.heap.size, 2, none⟩ = some (.string ta) := o_i.cell 2
  have qi_3 : (w3.alloc (.cells #[.bool nu, .string su, .string tu] 26)).cell? ⟨w.heap.size, 3, none⟩ = some (.bool nb) := o_i.cell 3
  have qi_4 : (w3.alloc (.cells #[.bool nu, .string su, .string tu] 26)).cell? ⟨w.heap.size, 4, none⟩ = some (.string sb) := o_i.cell 4
  have qi_5 : (w3.alloc (.cells #[.bool nu, .string su, .string tu] 26)).cell? ⟨w.heap.size, 5, none⟩ = some (.string tb) := o_i.cell 5
  have qj_0 : (w3.alloc (.cells #[.bool nu, .string su, .string tu] 26)).cell? ⟨w.heap.size + 1, 0, none⟩ = some (.bool nc) := o_j.cell 0
  have qj_1 : (w3.alloc (.cells #[.bool nu, .string su, .string tu] 26)).cell? ⟨w.heap.size + 1, 1, none⟩ = some (.string sc) := o_j.cell 1
  have qj_2 : (w3.alloc (.cells #[.bool nu, .string su, .string tu] 26)).cell? ⟨w.heap.size + 1, 2, none⟩ = some (.string tc) := o_j.cell 2
  have qj_3 : (w3.alloc (.cells #[.bool nu, .string su, .string tu] 26)).cell? ⟨w.heap.size + 1, 3, none⟩ = some (.bool nd) := o_j.cell 3
  have qj_4 : (w3.alloc (.cells #[.bool nu, .string su, .string tu] 26)).cell? ⟨w.heap.size + 1, 4, none⟩ = some (.string sd) := o_j.cell 4
  have qj_5 : (w3.alloc (.cells #[.bool nu, .string su, .string tu] 26)).cell? ⟨w.heap.size + 1, 5, none⟩ = some (.string td) := o_j.cell 5
  go_wp2_with fail
  generalize (w3.alloc (.cells #[.bool nu, .string su, .string tu] 26)) = wa5 at o_i o_j o_r o_u hbw ⊢
  generalize w3.heap.size = g5 at o_u ⊢
  clear qi_0 qi_1 qi_2 qi_3 qi_4 qi_5 qj_0 qj_1 qj_2 qj_3 qj_4 qj_5
  refine (H4.out _).mono ?_
  rintro e w6 ⟨rfl, hb6⟩
  replace o_i := o_i.below hb6 o_i.lt
  replace o_j := o_j.below hb6 o_j.lt
  replace o_r := o_r.below hb6 o_r.lt
  replace o_u := o_u.below hb6 o_u.lt
  replace hbw := below6 hbw hb6
  clear hb6
  obtain ⟨o_v, hz7⟩ := new1 w6 [.bool nv, .string sv, .string tv] 26
  replace o_i := o_i.alloc (.cells #[.bool nv, .string sv, .string tv] 26)
  replace o_j := o_j.alloc (.cells #[.bool nv, .string sv, .string tv] 26)
  replace o_r := o_r.alloc (.cells #[.bool nv, .string sv, .string tv] 26)
  replace o_u := o_u.alloc (.cells #[.bool nv, .string sv, .string tv] 26)
  replace hbw := below6 hbw hz7
  clear hz7
  go_upto_region 7 with (fail)
  generalize (w6.alloc (.cells #[.bool nv, .string sv, .string tv] 26)) = wa8 at o_i o_j o_r o_u o_v hbw ⊢
  generalize w6.heap.size = g8 at o_v ⊢
  have qu_0 : wa8.cell? ⟨g5, 0, none⟩ = some (.bool nu) := o_u.cell 0
  have qu_1 : wa8.cell? ⟨g5, 1, none⟩ = some (.string su) := o_u.cell 1
  have qu_2 : wa8.cell? ⟨g5, 2, none⟩ = some (.string tu) := o_u.cell 2
  have qv_0 : wa8.cell? ⟨g8, 0, none⟩ = some (.bool nv) := o_v.cell 0
  have qv_1 : wa8.cell? ⟨g8, 1, none⟩ = some (.string sv) := o_v.cell 1
  have qv_2 : wa8.cell? ⟨g8, 2, none⟩ = some (.string tv) := o_v.cell 2
  have qr_0 : wa8.cell? ⟨w.heap.size + 1 + 1, 0, none⟩ = some (.bool false) := o_r.cell 0
  have qr_1 : wa8.cell? ⟨w.heap.size + 1 + 1, 1, none⟩ = some (.string ⟨#[]⟩) := o_r.cell 1
  have qr_2 : wa8.cell? ⟨w.heap.size + 1 + 1, 2, none⟩ = some (.string ⟨#[]⟩) := o_r.cell 2
  have qr_3 : wa8.cell? ⟨w.heap.size + 1 + 1, 3, none⟩ = some (.bool false) := o_r.cell 3
  have qr_4 : wa8.cell? ⟨w.heap.size + 1 + 1, 4, none⟩ = some (.string ⟨#[]⟩) := o_r.cell 4
  have qr_5 : wa8.cell? ⟨w.heap.size + 1 + 1, 5, none⟩ = some (.string ⟨#[]⟩) := o_r.cell 5
  have fr_0 := o_r.frozen 0
  have fr_1 := o_r.frozen 1
  have fr_2 := o_r.frozen 2
  have fr_3 := o_r.frozen 3
  have fr_4 := o_r.frozen 4
  have fr_5 := o_r.frozen 5
  have oz := o_r.set6 (.bool nu) (.string su) (.string tu) (.bool nv) (.string sv) (.string tv)
  have sz9 := Below.set6 hbw (g := w.heap.size + 1 + 1) (by omega) (.bool nu) (.string su) (.string tu) (.bool nv) (.string sv) (.string tv)
  go_wp2_with fail
  generalize ((((((wa8.setCell ⟨w.heap.size + 1 + 1, 0, none⟩ (.bool nu)).setCell ⟨w.heap.size + 1 + 1, 1, none⟩ (.string su)).setCell ⟨w.heap.size + 1 + 1, 2, none⟩ (.string tu)).setCell ⟨w.heap.size + 1 + 1, 3, none⟩ (.bool nv)).setCell ⟨w.heap.size + 1 + 1, 4, none⟩ (.string sv)).setCell ⟨w.heap.size + 1 + 1, 5, none⟩ (.string tv)) = wz at oz sz9 ⊢
  have z0 : wz.cell? ⟨w.heap.size + 1 + 1, 0, none⟩ = some (.bool nu) := oz.cell 0
  have z1 : wz.cell? ⟨w.heap.size + 1 + 1, 1, none⟩ = some (.string su) := oz.cell 1
  have z2 : wz.cell? ⟨w.heap.size + 1 + 1, 2, none⟩ = some (.string tu) := oz.cell 2
  have z3 : wz.cell? ⟨w.heap.size + 1 + 1, 3, none⟩ = some (.bool nv) := oz.cell 3
  have z4 : wz.cell? ⟨w.heap.size + 1 + 1, 4, none⟩ = some (.string sv) := oz.cell 4
  have z5 : wz.cell? ⟨w.heap.size + 1 + 1, 5, none⟩ = some (.string tv) := oz.cell 5
  exact bodyPost_ret (v := .tuple #[.agg #[.bool nu, .string su, .string tu, .bool nv, .string sv, .string tv], .int .i64 0]) (by simp [results, Try.results31, go_sem, z0, z1, z2, z3, z4, z5]) rfl ⟨rfl, sz9⟩
set_option maxRecDepth 100000 in
set_option maxHeartbeats 4000000 in
theorem raddi_no1 (na : Bool) (sa ta : ByteArray) (nb : Bool) (sb tb : ByteArray) (nc : Bool) (sc tc : ByteArray) (nd : Bool) (sd td : ByteArray) (h1 : RetV 35 #[.agg #[.bool na, .string sa, .string ta, .bool nb, .string sb, .string tb]] (.bool false))  :
    RetV 31 #[.agg #[.bool na, .string sa, .string ta, .bool nb, .string sb, .string tb], .agg #[.bool nc, .string sc, .string tc, .bool nd, .string sd, .string td]] (.tuple #[.agg #[.bool false, .string ⟨#[]⟩, .string ⟨#[]⟩, .bool false, .string ⟨#[]⟩, .string ⟨#[]⟩], .int .i64 1]) := by
  intro w
  have H1 := Lib.hid h1
  clear h1
  obtain ⟨o_i, o_j, o_r, hbw⟩ := new3 w [.bool na, .string sa, .string ta, .bool nb, .string sb, .string tb] [.bool nc, .string sc, .string tc, .bool nd, .string sd, .string td] [.bool false, .string ⟨#[]⟩, .string ⟨#[]⟩, .bool false, .string ⟨#[]⟩, .string ⟨#[]⟩] 37 37 37
  go_enter Try.func31, Try.ntmps31
  go_upto_region 1 with (fail)
  generalize (((w.alloc (.cells #[.bool na, .string sa, .string ta, .bool nb, .string sb, .string tb] 37)).alloc (.cells #[.bool nc, .string sc, .string tc, .bool nd, .string sd, .string td] 37)).alloc (.cells #[.bool false, .string ⟨#[]⟩, .string ⟨#[]⟩, .bool false, .string ⟨#[]⟩, .string ⟨#[]⟩] 37)) = wb at o_i o_j o_r hbw ⊢
  have qi_0 : wb.cell? ⟨w.heap.size, 0, none⟩ = some (.bool na) := o_i.cell 0
  have qi_1 : wb.cell? ⟨w.heap.size, 1, none⟩ = some (.string sa) := o_i.cell 1
  have qi_2 : wb.cell? ⟨w.heap.size, 2, none⟩ = some (.string ta) := o_i.cell 2
  have qi_3 : wb.cell? ⟨w.heap.size, 3, none⟩ = some (.bool nb) := o_i.cell 3
  have qi_4 : wb.cell? ⟨w.heap.size, 4, none⟩ = some (.string sb) := o_i.cell 4
  have qi_5 : wb.cell? ⟨w.heap.size, 5, none⟩ = some (.string tb) := o_i.cell 5
  have qj_0 : wb.cell? ⟨w.heap.size + 1, 0, none⟩ = some (.bool nc) := o_j.cell 0
  have qj_1 : wb.cell? ⟨w.heap.size + 1, 1, none⟩ = some (.string sc) := o_j.cell 1
  have qj_2 : wb.cell? ⟨w.heap.size + 1, 2, none⟩ = some (.string tc) := o_j.cell 2
  have qj_3 : wb.cell? ⟨w.heap.size + 1, 3, none⟩ = some (.bool nd) := o_j.cell 3
  have qj_4 : wb.cell? ⟨w.heap.size + 1, 4, none⟩ = some (.string sd) := o_j.cell 4
  have qj_5 : wb.cell? ⟨w.heap.size + 1, 5, none⟩ = some (.string td) := o_j.cell 5
  go_wp2_with fail
  clear qi_0 qi_1 qi_2 qi_3 qi_4 qi_5 qj_0 qj_1 qj_2 qj_3 qj_4 qj_5
  refine (H1.out _).mono ?_
  rintro e w1 ⟨rfl, hb1⟩
  replace o_i := o_i.below hb1 o_i.lt
  replace o_j := o_j.below hb1 o_j.lt
  replace o_r := o_r.below hb1 o_r.lt
  replace hbw := below6 hbw hb1
  clear hb1
  have qr_0 : w1.cell? ⟨w.heap.size + 1 + 1, 0, none⟩ = some (.bool false) := o_r.cell 0
  have qr_1 : w1.cell? ⟨w.heap.size + 1 + 1, 1, none⟩ = some (.string ⟨#[]⟩) := o_r.cell 1
  have qr_2 : w1.cell? ⟨w.heap.size + 1 + 1, 2, none⟩ = some (.string ⟨#[]⟩) := o_r.cell 2
  have qr_3 : w1.cell? ⟨w.heap.size + 1 + 1, 3, none⟩ = some (.bool false) := o_r.cell 3
  have qr_4 : w1.cell? ⟨w.heap.size + 1 + 1, 4, none⟩ = some (.string ⟨#[]⟩) := o_r.cell 4
  have qr_5 : w1.cell? ⟨w.heap.size + 1 + 1, 5, none⟩ = some (.string ⟨#[]⟩) := o_r.cell 5
  have fr_0 := o_r.frozen 0
  have fr_1 := o_r.frozen 1
  have fr_2 := o_r.frozen 2
  have fr_3 := o_r.frozen 3
  have fr_4 := o_r.frozen 4
  have fr_5 := o_r.frozen 5
  have oz := o_r.set6 (.bool false) (.string ⟨#[]⟩) (.string ⟨#[]⟩) (.bool false) (.string ⟨#[]⟩) (.string ⟨#[]⟩)
  have sz9 := Below.set6 hbw (g := w.heap.size + 1 + 1) (by omega) (.bool false) (.string ⟨#[]⟩) (.string ⟨#[]⟩) (.bool false) (.string ⟨#[]⟩) (.string ⟨#[]⟩)
  go_wp2_with fail
  generalize ((((((w1.setCell ⟨w.heap.size + 1 + 1, 0, none⟩ (.bool false)).setCell ⟨w.heap.size + 1 + 1, 1, none⟩ (.string ⟨#[]⟩)).setCell ⟨w.heap.size + 1 + 1, 2, none⟩ (.string ⟨#[]⟩)).setCell ⟨w.heap.size + 1 + 1, 3, none⟩ (.bool false)).setCell ⟨w.heap.size + 1 + 1, 4, none⟩ (.string ⟨#[]⟩)).setCell ⟨w.heap.size + 1 + 1, 5, none⟩ (.string ⟨#[]⟩)) = wz at oz sz9 ⊢
  have z0 : wz.cell? ⟨w.heap.size + 1 + 1, 0, none⟩ = some (.bool false) := oz.cell 0
  have z1 : wz.cell? ⟨w.heap.size + 1 + 1, 1, none⟩ = some (.string ⟨#[]⟩) := oz.cell 1
  have z2 : wz.cell? ⟨w.heap.size + 1 + 1, 2, none⟩ = some (.string ⟨#[]⟩) := oz.cell 2
  have z3 : wz.cell? ⟨w.heap.size + 1 + 1, 3, none⟩ = some (.bool false) := oz.cell 3
  have z4 : wz.cell? ⟨w.heap.size + 1 + 1, 4, none⟩ = some (.string ⟨#[]⟩) := oz.cell 4
  have z5 : wz.cell? ⟨w.heap.size + 1 + 1, 5, none⟩ = some (.string ⟨#[]⟩) := oz.cell 5
  exact bodyPost_ret (v := .tuple #[.agg #[.bool false, .string ⟨#[]⟩, .string ⟨#[]⟩, .bool false, .string ⟨#[]⟩, .string ⟨#[]⟩], .int .i64 1]) (by simp [results, Try.results31, go_sem, z0, z1, z2, z3, z4, z5]) rfl ⟨rfl, sz9⟩
set_option maxRecDepth 100000 in
set_option maxHeartbeats 4000000 in
theorem raddi_no2 (na : Bool) (sa ta : ByteArray) (nb : Bool) (sb tb : ByteArray) (nc : Bool) (sc tc : ByteArray) (nd : Bool) (sd td : ByteArray) (h1 : RetV 35 #[.agg #[.bool na, .string sa, .string ta, .bool nb, .string sb, .string tb]] (.bool true)) (h2 : RetV 35 #[.agg #[.bool nc, .string sc, .string tc, .bool nd, .string sd, .string td]] (.bool false)) :
    RetV 31 #[.agg #[.bool na, .string sa, .string ta, .bool nb, .string sb, .string tb], .agg #[.bool nc, .string sc, .string tc, .bool nd, .string sd, .string td]] (.tuple #[.agg #[.bool false, .string ⟨#[]⟩, .string ⟨#[]⟩, .bool false, .string ⟨#[]⟩, .string ⟨#[]⟩], .int .i64 1]) := by
  intro w
  have H1 := Lib.hid h1
  have H2 := Lib.hid h2
  clear h1 h2
  obtain ⟨o_i, o_j, o_r, hbw⟩ := new3 w [.bool na, .string sa, .string ta, .bool nb, .string sb, .string tb] [.bool nc, .string sc, .string tc, .bool nd, .string sd, .string td] [.bool false, .string ⟨#[]⟩, .string ⟨#[]⟩, .bool false, .string ⟨#[]⟩, .string ⟨#[]⟩] 37 37 37
  go_enter Try.func31, Try.ntmps31
  go_upto_region 1 with (fail)
  generalize (((w.alloc (.cells #[.bool na, .string sa, .string ta, .bool nb, .string sb, .string tb] 37)).alloc (.cells #[.bool nc, .string sc, .string tc, .bool nd, .string sd, .string td] 37)).alloc (.cells #[.bool false, .string ⟨#[]⟩, .string ⟨#[]⟩, .bool false, .string ⟨#[]⟩, .string ⟨#[]⟩] 37)) = wb at o_i o_j o_r hbw ⊢
  have qi_0 : wb.cell? ⟨w.heap.size, 0, none⟩ = some (.bool na) := o_i.cell 0
  have qi_1 : wb.cell? ⟨w.heap.size, 1, none⟩ = some (.string sa) := o_i.cell 1
  have qi_2 : wb.cell? ⟨w.heap.size, 2, none⟩ = some (.string ta) := o_i.cell 2
  have qi_3 : wb.cell? ⟨w.heap.size, 3, none⟩ = some (.bool nb) := o_i.cell 3
  have qi_4 : wb.cell? ⟨w.heap.size, 4, none⟩ = some (.string sb) := o_i.cell 4
  have qi_5 : wb.cell? ⟨w.heap.size, 5, none⟩ = some (.string tb) := o_i.cell 5
  have qj_0 : wb.cell? ⟨w.heap.size + 1, 0, none⟩ = some (.bool nc) := o_j.cell 0
  have qj_1 : wb.cell? ⟨w.heap.size + 1, 1, none⟩ = some (.string sc) := o_j.cell 1
  have qj_2 : wb.cell? ⟨w.heap.size + 1, 2, none⟩ = some (.string tc) := o_j.cell 2
  have qj_3 : wb.cell? ⟨w.heap.size + 1, 3, none⟩ = some (.bool nd) := o_j.cell 3
  have qj_4 : wb.cell? ⟨w.heap.size + 1, 4, none⟩ = some (.string sd) := o_j.cell 4
  have qj_5 : wb.cell? ⟨w.heap.size + 1, 5, none⟩ = some (.string td) := o_j.cell 5
  go_wp2_with fail
  clear qi_0 qi_1 qi_2 qi_3 qi_4 qi_5 qj_0 qj_1 qj_2 qj_3 qj_4 qj_5
  refine (H1.out _).mono ?_
  rintro e w1 ⟨rfl, hb1⟩
  replace o_i := o_i.below hb1 o_i.lt
  replace o_j := o_j.below hb1 o_j.lt
  replace o_r := o_r.below hb1 o_r.lt
  replace hbw := below6 hbw hb1
  clear hb1
  have qi_0 : w1.cell? ⟨w.heap.size, 0, none⟩ = some (.bool na) := o_i.cell 0
  have qi_1 : w1.cell? ⟨w.heap.size, 1, none⟩ = some (.string sa) := o_i.cell 1
  have qi_2 : w1.cell? ⟨w.heap.size, 2, none⟩ = some (.string ta) := o_i.cell 2
  have qi_3 : w1.cell? ⟨w.heap.size, 3, none⟩ = some (.bool nb) := o_i.cell 3
  have qi_4 : w1.cell? ⟨w.heap.size, 4, none⟩ = some (.string sb) := o_i.cell 4
  have qi_5 : w1.cell? ⟨w.heap.size, 5, none⟩ = some (.string tb) := o_i.cell 5
  have qj_0 : w1.cell? ⟨w.heap.size + 1, 0, none⟩ = some (.bool nc) := o_j.cell 0
  have qj_1 : w1.cell? ⟨w.heap.size + 1, 1, none⟩ = some (.string sc) := o_j.cell 1
  have qj_2 : w1.cell? ⟨w.heap.size + 1, 2, none⟩ = some (.string tc) := o_j.cell 2
  have qj_3 : w1.cell? ⟨w.heap.size + 1, 3, none⟩ = some (.bool nd) := o_j.cell 3
  have qj_4 : w1.cell? ⟨w.heap.size + 1, 4, none⟩ = some (.string sd) := o_j.cell 4
  have qj_5 : w1.cell? ⟨w.heap.size + 1, 5, none⟩ = some (.string td) := o_j.cell 5
  go_wp2_with fail
  clear qi_0 qi_1 qi_2 qi_3 qi_4 qi_5 qj_0 qj_1 qj_2 qj_3 qj_4 qj_5
  refine (H2.out _).mono ?_
  rintro e w2 ⟨rfl, hb2⟩
  replace o_i := o_i.below hb2 o_i.lt
  replace o_j := o_j.below hb2 o_j.lt
  replace o_r := o_r.below hb2 o_r.lt
  replace hbw := below6 hbw hb2
  clear hb2
  have qr_0 : w2.cell? ⟨w.heap.size + 1 + 1, 0, none⟩ = some (.bool false) := o_r.cell 0
  have qr_1 : w2.cell? ⟨w.heap.size + 1 + 1, 1, none⟩ = some (.string ⟨#[]⟩) := o_r.cell 1
  have qr_2 : w2.cell? ⟨w.heap.size + 1 + 1, 2, none⟩ = some (.string ⟨#[]⟩) := o_r.cell 2
  have qr_3 : w2.cell? ⟨w.heap.size + 1 + 1, 3, none⟩ = some (.bool false) := o_r.cell 3
  have qr_4 : w2.cell? ⟨w.heap.size + 1 + 1, 4, none⟩ = some (.string ⟨#[]⟩) := o_r.cell 4
  have qr_5 : w2.cell? ⟨w.heap.size + 1 + 1, 5, none⟩ = some (.string ⟨#[]⟩) := o_r.cell 5
  have fr_0 := o_r.frozen 0
  have fr_1 := o_r.frozen 1
  have fr_2 := o_r.frozen 2
  have fr_3 := o_r.frozen 3
  have fr_4 := o_r.frozen 4
  have fr_5 := o_r.frozen 5
  have oz := o_r.set6 (.bool false) (.string ⟨#[]⟩) (.string ⟨#[]⟩) (.bool false) (.string ⟨#[]⟩) (.string ⟨#[]⟩)
  have sz9 := Below.set6 hbw (g := w.heap.size + 1 + 1) (by omega) (.bool false) (.string ⟨#[]⟩) (.string ⟨#[]⟩) (.bool false) (.string ⟨#[]⟩) (.string ⟨#[]⟩)
  go_wp2_with fail
  generalize ((((((w2.setCell ⟨w.heap.size + 1 + 1, 0, none⟩ (.bool false)).setCell ⟨w.heap.size + 1 + 1, 1, none⟩ (.string ⟨#[]⟩)).setCell ⟨w.heap.size + 1 + 1, 2, none⟩ (.string ⟨#[]⟩)).setCell ⟨w.heap.size + 1 + 1, 3, none⟩ (.bool false)).setCell ⟨w.heap.size + 1 + 1, 4, none⟩ (.string ⟨#[]⟩)).setCell ⟨w.heap.size + 1 + 1, 5, none⟩ (.string ⟨#[]⟩)) = wz at oz sz9 ⊢
  have z0 : wz.cell? ⟨w.heap.size + 1 + 1, 0, none⟩ = some (.bool false) := oz.cell 0
  have z1 : wz.cell? ⟨w.heap.size + 1 + 1, 1, none⟩ = some (.string ⟨#[]⟩) := oz.cell 1
  have z2 : wz.cell? ⟨w.heap.size + 1 + 1, 2, none⟩ = some (.string ⟨#[]⟩) := oz.cell 2
  have z3 : wz.cell? ⟨w.heap.size + 1 + 1, 3, none⟩ = some (.bool false) := oz.cell 3
  have z4 : wz.cell? ⟨w.heap.size + 1 + 1, 4, none⟩ = some (.string ⟨#[]⟩) := oz.cell 4
  have z5 : wz.cell? ⟨w.heap.size + 1 + 1, 5, none⟩ = some (.string ⟨#[]⟩) := oz.cell 5
  exact bodyPost_ret (v := .tuple #[.agg #[.bool false, .string ⟨#[]⟩, .string ⟨#[]⟩, .bool false, .string ⟨#[]⟩, .string ⟨#[]⟩], .int .i64 1]) (by simp [results, Try.results31, go_sem, z0, z1, z2, z3, z4, z5]) rfl ⟨rfl, sz9⟩
set_option maxRecDepth 100000 in
set_option maxHeartbeats 4000000 in
theorem rscale_pos (na : Bool) (sa ta : ByteArray) (nb : Bool) (sb tb : ByteArray) (nu : Bool) (su tu : ByteArray) (nv : Bool) (sv tv : ByteArray) (sx tx : ByteArray) (h1 : RetV 35 #[.agg #[.bool na, .string sa, .string ta, .bool nb, .string sb, .string tb]] (.bool true)) (h2 : RetV 47 #[.agg #[.bool false, .string sx, .string tx]] (.bool true))
    (h3 : RetV 58 #[.agg #[.bool na, .string sa, .string ta], .agg #[.bool false, .string sx, .string tx]] (.tuple #[.agg #[.bool nu, .string su, .string tu], .int .i64 0])) (h4 : RetV 58 #[.agg #[.bool nb, .string sb, .string tb], .agg #[.bool false, .string sx, .string tx]] (.tuple #[.agg #[.bool nv, .string sv, .string tv], .int .i64 0])) :
    RetV 32 #[.agg #[.bool na, .string sa, .string ta, .bool nb, .string sb, .string tb], .agg #[.bool false, .string sx, .string tx]] (.tuple #[.agg #[.bool nu, .string su, .string tu, .bool nv, .string sv, .string tv], .int .i64 0]) := by
  intro w
  have H1 := Lib.hid h1
  have H2 := Lib.hid h2
  have H3 := Lib.hid h3
  have H4 := Lib.hid h4
  clear h1 h2 h3 h4
  obtain ⟨o_i, o_x, o_r, hbw⟩ := new3 w [.bool na, .string sa, .string ta, .bool nb, .string sb, .string tb] [.bool false, .string sx, .string tx] [.bool false, .string ⟨#[]⟩, .string ⟨#[]⟩, .bool false, .string ⟨#[]⟩, .string ⟨#[]⟩] 37 26 37
  go_enter Try.func32, Try.ntmps32
  go_upto_region 1 with (fail)
  generalize (((w.alloc (.cells #[.bool na, .string sa, .string ta, .bool nb, .string sb, .string tb] 37)).alloc (.cells #[.bool false, .string sx, .string tx] 26)).alloc (.cells #[.bool false, .string ⟨#[]⟩, .string ⟨#[]⟩, .bool false, .string ⟨#[]⟩, .string ⟨#[]⟩] 37)) = wb at o_i o_x o_r hbw ⊢
  have qi_0 : wb.cell? ⟨w.heap.size, 0, none⟩ = some (.bool na) := o_i.cell 0
  have qi_1 : wb.cell? ⟨w.heap.size, 1, none⟩ = some (.string sa) := o_i.cell 1
  have qi_2 : wb.cell? ⟨w.heap.size, 2, none⟩ = some (.string ta) := o_i.cell 2
  have qi_3 : wb.cell? ⟨w.heap.size, 3, none⟩ = some (.bool nb) := o_i.cell 3
  have qi_4 : wb.cell? ⟨w.heap.size, 4, none⟩ = some (.string sb) := o_i.cell 4
  have qi_5 : wb.cell? ⟨w.heap.size, 5, none⟩ = some (.string tb) := o_i.cell 5
  have qx_0 : wb.cell? ⟨w.heap.size + 1, 0, none⟩ = some (.bool false) := o_x.cell 0
  have qx_1 : wb.cell? ⟨w.heap.size + 1, 1, none⟩ = some (.string sx) := o_x.cell 1
  have qx_2 : wb.cell? ⟨w.heap.size + 1, 2, none⟩ = some (.string tx) := o_x.cell 2
  go_wp2_with fail
  clear qi_0 qi_1 qi_2 qi_3 qi_4 qi_5 qx_0 qx_1 qx_2
  refine (H1.out _).mono ?_
  rintro e w1 ⟨rfl, hb1⟩
  replace o_i := o_i.below hb1 o_i.lt
  replace o_x := o_x.below hb1 o_x.lt
  replace o_r := o_r.below hb1 o_r.lt
  replace hbw := below6 hbw hb1
  clear hb1
  have qi_0 : w1.cell? ⟨w.heap.size, 0, none⟩ = some (.bool na) := o_i.cell 0
  have qi_1 : w1.cell? ⟨w.heap.size, 1, none⟩ = some (.string sa) := o_i.cell 1
  have qi_2 : w1.cell? ⟨w.heap.size, 2, none⟩ = some (.string ta) := o_i.cell 2
  have qi_3 : w1.cell? ⟨w.heap.size, 3, none⟩ = some (.bool nb) := o_i.cell 3
  have qi_4 : w1.cell? ⟨w.heap.size, 4, none⟩ = some (.string sb) := o_i.cell 4
  have qi_5 : w1.cell? ⟨w.heap.size, 5, none⟩ = some (.string tb) := o_i.cell 5
  have qx_0 : w1.cell? ⟨w.heap.size + 1, 0, none⟩ = some (.bool false) := o_x.cell 0
  have qx_1 : w1.cell? ⟨w.heap.size + 1, 1, none⟩ = some (.string sx) := o_x.cell 1
  have qx_2 : w1.cell? ⟨w.heap.size + 1, 2, none⟩ = some (.string tx) := o_x.cell 2
  go_wp2_with fail
  clear qi_0 qi_1 qi_2 qi_3 qi_4 qi_5 qx_0 qx_1 qx_2
  refine (H2.out _).mono ?_
  rintro e w2 ⟨rfl, hb2⟩
  replace o_i := o_i.below hb2 o_i.lt
  replace o_x := o_x.below hb2 o_x.lt
  replace o_r := o_r.below hb2 o_r.lt
  replace hbw := below6 hbw hb2
  clear hb2
  have qi_0 : w2.cell? ⟨w.heap.size, 0, none⟩ = some (.bool na) := o_i.cell 0
  have qi_1 : w2.cell? ⟨w.heap.size, 1, none⟩ = some (.string sa) := o_i.cell 1
  have qi_2 : w2.cell? ⟨w.heap.size, 2, none⟩ = some (.string ta) := o_i.cell 2
  have qi_3 : w2.cell? ⟨w.heap.size, 3, none⟩ = some (.bool nb) := o_i.cell 3
  have qi_4 : w2.cell? ⟨w.heap.size, 4, none⟩ = some (.string sb) := o_i.cell 4
  have qi_5 : w2.cell? ⟨w.heap.size, 5, none⟩ = some (.string tb) := o_i.cell 5
  have qx_0 : w2.cell? ⟨w.heap.size + 1, 0, none⟩ = some (.bool false) := o_x.cell 0
  have qx_1 : w2.cell? ⟨w.heap.size + 1, 1, none⟩ = some (.string sx) := o_x.cell 1
  have qx_2 : w2.cell? ⟨w.heap.size + 1, 2, none⟩ = some (.string tx) := o_x.cell 2
  go_wp2_with fail
  clear qi_0 qi_1 qi_2 qi_3 qi_4 qi_5 qx_0 qx_1 qx_2
  refine (H3.out _).mono ?_
  rintro e w3 ⟨rfl, hb3⟩
  replace o_i := o_i.below hb3 o_i.lt
  replace o_x := o_x.below hb3 o_x.lt
  replace o_r := o_r.below hb3 o_r.lt
  replace hbw := below6 hbw hb3
  clear hb3
  obtain ⟨o_u, hz4⟩ := new1 w3 [.bool nu, .string su, .string tu] 26
  replace o_i := o_i.alloc (.cells #[.bool nu, .string su, .string tu] 26)
  replace o_x := o_x.alloc (.cells #[.bool nu, .string su, .string tu] 26)
  replace o_r := o_r.alloc (.cells #[.bool nu, .string su, .string tu] 26)
  replace hbw := below6 hbw hz4
  clear hz4
  have qi_0 : (w3.alloc (.cells #[.bool nu, .string su, .string tu] 26)).cell? ⟨w.heap.size, 0, none⟩ = some (.bool na) := o_i.cell 0
  have qi_1 : (w3.alloc (.cells #[.bool nu, .string su, .string tu] 26)).cell? ⟨w.heap.size, 1, none⟩ = some (.string sa) := o_i.cell 1
  have qi_2 : (w3.alloc (.cells #[.bool nu, .string su, .string tu] 26)).cell? ⟨w.heap.size, 2, none⟩ = some (.string ta) := o_i.cell 2
  have qi_3 : (w3.alloc (.cells #[.bool nu, .string su, .string tu] 26)).cell? ⟨w.heap.size, 3, none⟩ = some (.bool nb) := o_i.cell 3
  have qi_4 : (w3.alloc (.cells #[.bool nu, .string su, .string tu] 26)).cell? ⟨w.heap.size, 4, none⟩ = some (.string sb) := o_i.cell 4
  have qi_5 : (w3.alloc (.cells #[.bool nu, .string su, .string tu] 26)).cell? ⟨w.heap.size, 5, none⟩ = some (.string tb) := o_i.cell 5
  have qx_0 : (w3.alloc (.cells #[.bool nu, .string su, .string tu] 26)).cell? ⟨w.heap.size + 1, 0, none⟩ = some (.bool false) := o_x.cell 0
  have qx_1 : (w3.alloc (.cells #[.bool nu, .string su, .string tu] 26)).cell? ⟨w.heap.size + 1, 1, none⟩ = some (.string sx) := o_x.cell 1
  have qx_2 : (w3.alloc (.cells #[.bool nu, .string su, .string tu] 26)).cell? ⟨w.heap.size + 1, 2, none⟩ = some (.string tx) := o_x.cell 2
  go_wp2_with fail
  generalize (w3.alloc (.cells #[.bool nu, .string su, .string tu] 26)) = wa5 at o_i o_x o_r o_u hbw ⊢
  generalize w3.heap.size = g5 at o_u ⊢
  clear qi_0 qi_1 qi_2 qi_3 qi_4 qi_5 qx_0 qx_1 qx_2
  refine (H4.out _).mono ?_
  rintro e w6 ⟨rfl, hb6⟩
  replace o_i := o_i.below hb6 o_i.lt
  replace o_x := o_x.below hb6 o_x.lt
  replace o_r := o_r.below hb6 o_r.lt
  replace o_u := o_u.below hb6 o_u.lt
  replace hbw := below6 hbw hb6
  clear hb6
  have lt_i := o_i.lt
  have lt_x := o_x.lt
  have lt_r := o_r.lt
  have lt_u := o_u.lt
  have lt_w := hbw.size
  obtain ⟨o_v, hz7⟩ := new1 w6 [.bool nv, .string sv, .string tv] 26
  replace o_i := o_i.alloc (.cells #[.bool nv, .string sv, .string tv] 26)
  replace o_x := o_x.alloc (.cells #[.bool nv, .string sv, .string tv] 26)
  replace o_r := o_r.alloc (.cells #[.bool nv, .string sv, .string tv] 26)
  replace o_u := o_u.alloc (.cells #[.bool nv, .string sv, .string tv] 26)
  replace hbw := below6 hbw hz7
  clear hz7
  have qx_0 : (w6.alloc (.cells #[.bool nv, .string sv, .string tv] 26)).cell? ⟨w.heap.size + 1, 0, none⟩ = some (.bool false) := o_x.cell 0
  have qx_1 : (w6.alloc (.cells #[.bool nv, .string sv, .string tv] 26)).cell? ⟨w.heap.size + 1, 1, none⟩ = some (.string sx) := o_x.cell 1
  have qx_2 : (w6.alloc (.cells #[.bool nv, .string sv, .string tv] 26)).cell? ⟨w.heap.size + 1, 2, none⟩ = some (.string tx) := o_x.cell 2
  go_upto_region 9 with (fail)
  generalize (w6.alloc (.cells #[.bool nv, .string sv, .string tv] 26)) = wa8 at o_i o_x o_r o_u o_v hbw ⊢
  generalize w6.heap.size = g8 at o_v lt_i lt_x lt_r lt_u lt_w ⊢
  clear qx_0 qx_1 qx_2
  have qu_0 : wa8.cell? ⟨g5, 0, none⟩ = some (.bool nu) := o_u.cell 0
  have qu_1 : wa8.cell? ⟨g5, 1, none⟩ = some (.string su) := o_u.cell 1
  have qu_2 : wa8.cell? ⟨g5, 2, none⟩ = some (.string tu) := o_u.cell 2
  have qv_0 : wa8.cell? ⟨g8, 0, none⟩ = some (.bool nv) := o_v.cell 0
  have qv_1 : wa8.cell? ⟨g8, 1, none⟩ = some (.string sv) := o_v.cell 1
  have qv_2 : wa8.cell? ⟨g8, 2, none⟩ = some (.string tv) := o_v.cell 2
  have qr_0 : wa8.cell? ⟨w.heap.size + 1 + 1, 0, none⟩ = some (.bool false) := o_r.cell 0
  have qr_1 : wa8.cell? ⟨w.heap.size + 1 + 1, 1, none⟩ = some (.string ⟨#[]⟩) := o_r.cell 1
  have qr_2 : wa8.cell? ⟨w.heap.size + 1 + 1, 2, none⟩ = some (.string ⟨#[]⟩) := o_r.cell 2
  have qr_3 : wa8.cell? ⟨w.heap.size + 1 + 1, 3, none⟩ = some (.bool false) := o_r.cell 3
  have qr_4 : wa8.cell? ⟨w.heap.size + 1 + 1, 4, none⟩ = some (.string ⟨#[]⟩) := o_r.cell 4
  have qr_5 : wa8.cell? ⟨w.heap.size + 1 + 1, 5, none⟩ = some (.string ⟨#[]⟩) := o_r.cell 5
  have fr_0 := o_r.frozen 0
  have fr_1 := o_r.frozen 1
  have fr_2 := o_r.frozen 2
  have fr_3 := o_r.frozen 3
  have fr_4 := o_r.frozen 4
  have fr_5 := o_r.frozen 5
  have oz := o_r.set6 (.bool nu) (.string su) (.string tu) (.bool nv) (.string sv) (.string tv)
  have sz9 := Below.set6 hbw (g := w.heap.size + 1 + 1) (by omega) (.bool nu) (.string su) (.string tu) (.bool nv) (.string sv) (.string tv)
  go_wp2_with fail
  generalize ((((((wa8.setCell ⟨w.heap.size + 1 + 1, 0, none⟩ (.bool nu)).setCell ⟨w.heap.size + 1 + 1, 1, none⟩ (.string su)).setCell ⟨w.heap.size + 1 + 1, 2, none⟩ (.string tu)).setCell ⟨w.heap.size + 1 + 1, 3, none⟩ (.bool nv)).setCell ⟨w.heap.size + 1 + 1, 4, none⟩ (.string sv)).setCell ⟨w.heap.size + 1 + 1, 5, none⟩ (.string tv)) = wz at oz sz9 ⊢
  have z0 : wz.cell? ⟨w.heap.size + 1 + 1, 0, none⟩ = some (.bool nu) := oz.cell 0
  have z1 : wz.cell? ⟨w.heap.size + 1 + 1, 1, none⟩ = some (.string su) := oz.cell 1
  have z2 : wz.cell? ⟨w.heap.size + 1 + 1, 2, none⟩ = some (.string tu) := oz.cell 2
  have z3 : wz.cell? ⟨w.heap.size + 1 + 1, 3, none⟩ = some (.bool nv) := oz.cell 3
  have z4 : wz.cell? ⟨w.heap.size + 1 + 1, 4, none⟩ = some (.string sv) := oz.cell 4
  have z5 : wz.cell? ⟨w.heap.size + 1 + 1, 5, none⟩ = some (.string tv) := oz.cell 5
  exact bodyPost_ret (v := .tuple #[.agg #[.bool nu, .string su, .string tu, .bool nv, .string sv, .string tv], .int .i64 0]) (by simp [results, Try.results32, go_sem, z0, z1, z2, z3, z4, z5]) rfl ⟨rfl, sz9⟩
set_option maxRecDepth 100000 in
set_option maxHeartbeats 4000000 in
theorem rscale_neg (na : Bool) (sa ta : ByteArray) (nb : Bool) (sb tb : ByteArray) (nu : Bool) (su tu : ByteArray) (nv : Bool) (sv tv : ByteArray) (sx tx : ByteArray) (h1 : RetV 35 #[.agg #[.bool na, .string sa, .string ta, .bool nb, .string sb, .string tb]] (.bool true)) (h2 : RetV 47 #[.agg #[.bool true, .string sx, .string tx]] (.bool true))
    (h3 : RetV 58 #[.agg #[.bool na, .string sa, .string ta], .agg #[.bool true, .string sx, .string tx]] (.tuple #[.agg #[.bool nu, .string su, .string tu], .int .i64 0])) (h4 : RetV 58 #[.agg #[.bool nb, .string sb, .string tb], .agg #[.bool true, .string sx, .string tx]] (.tuple #[.agg #[.bool nv, .string sv, .string tv], .int .i64 0])) :
    RetV 32 #[.agg #[.bool na, .string sa, .string ta, .bool nb, .string sb, .string tb], .agg #[.bool true, .string sx, .string tx]] (.tuple #[.agg #[.bool nv, .string sv, .string tv, .bool nu, .string su, .string tu], .int .i64 0]) := by
  intro w
  have H1 := Lib.hid h1
  have H2 := Lib.hid h2
  have H3 := Lib.hid h3
  have H4 := Lib.hid h4
  clear h1 h2 h3 h4
  obtain ⟨o_i, o_x, o_r, hbw⟩ := new3 w [.bool na, .string sa, .string ta, .bool nb, .string sb, .string tb] [.bool true, .string sx, .string tx] [.bool false, .string ⟨#[]⟩, .string ⟨#[]⟩, .bool false, .string ⟨#[]⟩, .string ⟨#[]⟩] 37 26 37
  go_enter Try.func32, Try.ntmps32
  go_upto_region 1 with (fail)
  generalize (((w.alloc (.cells #[.bool na, .string sa, .string ta, .bool nb, .string sb, .string tb] 37)).alloc (.cells #[.bool true, .string sx, .string tx] 26)).alloc (.cells #[.bool false, .string ⟨#[]⟩, .string ⟨#[]⟩, .bool false, .string ⟨#[]⟩, .string ⟨#[]⟩] 37)) = wb at o_i o_x o_r hbw ⊢
  have qi_0 : wb.cell? ⟨w.heap.size, 0, none⟩ = some (.bool na) := o_i.cell 0
  have qi_1 : wb.cell? ⟨w.heap.size, 1, none⟩ = some (.string sa) := o_i.cell 1
  have qi_2 : wb.cell? ⟨w.heap.size, 2, none⟩ = some (.string ta) := o_i.cell 2
  have qi_3 : wb.cell? ⟨w.heap.size, 3, none⟩ = some (.bool nb) := o_i.cell 3
  have qi_4 : wb.cell? ⟨w.heap.size, 4, none⟩ = some (.string sb) := o_i.cell 4
  have qi_5 : wb.cell? ⟨w.heap.size, 5, none⟩ = some (.string tb) := o_i.cell 5
  have qx_0 : wb.cell? ⟨w.heap.size + 1, 0, none⟩ = some (.bool true) := o_x.cell 0
  have qx_1 : wb.cell? ⟨w.heap.size + 1, 1, none⟩ = some (.string sx) := o_x.cell 1
  have qx_2 : wb.cell? ⟨w.heap.size + 1, 2, none⟩ = some (.string tx) := o_x.cell 2
  go_wp2_with fail
  clear qi_0 qi_1 qi_2 qi_3 qi_4 qi_5 qx_0 qx_1 qx_2
  refine (H1.out _).mono ?_
  rintro e w1 ⟨rfl, hb1⟩
  replace o_i := o_i.below hb1 o_i.lt
  replace o_x := o_x.below hb1 o_x.lt
  replace o_r := o_r.below hb1 o_r.lt
  replace hbw := below6 hbw hb1
  clear hb1
  have qi_0 : w1.cell? ⟨w.heap.size, 0, none⟩ = some (.bool na) := o_i.cell 0
  have qi_1 : w1.cell? ⟨w.heap.size, 1, none⟩ = some (.string sa) := o_i.cell 1
  have qi_2 : w1.cell? ⟨w.heap.size, 2, none⟩ = some (.string ta) := o_i.cell 2
  have qi_3 : w1.cell? ⟨w.heap.size, 3, none⟩ = some (.bool nb) := o_i.cell 3
  have qi_4 : w1.cell? ⟨w.heap.size, 4, none⟩ = some (.string sb) := o_i.cell 4
  have qi_5 : w1.cell? ⟨w.heap.size, 5, none⟩ = some (.string tb) := o_i.cell 5
  have qx_0 : w1.cell? ⟨w.heap.size + 1, 0, none⟩ = some (.bool true) := o_x.cell 0
  have qx_1 : w1.cell? ⟨w.heap.size + 1, 1, none⟩ = some (.string sx) := o_x.cell 1
  have qx_2 : w1.cell? ⟨w.heap.size + 1, 2, none⟩ = some (.string tx) := o_x.cell 2
  go_wp2_with fail
  clear qi_0 qi_1 qi_2 qi_3 qi_4 qi_5 qx_0 qx_1 qx_2
  refine (H2.out _).mono ?_
  rintro e w2 ⟨rfl, hb2⟩
  replace o_i := o_i.below hb2 o_i.lt
  replace o_x := o_x.below hb2 o_x.lt
  replace o_r := o_r.below hb2 o_r.lt
  replace hbw := below6 hbw hb2
  clear hb2
  have qi_0 : w2.cell? ⟨w.heap.size, 0, none⟩ = some (.bool na) := o_i.cell 0
  have qi_1 : w2.cell? ⟨w.heap.size, 1, none⟩ = some (.string sa) := o_i.cell 1
  have qi_2 : w2.cell? ⟨w.heap.size, 2, none⟩ = some (.string ta) := o_i.cell 2
  have qi_3 : w2.cell? ⟨w.heap.size, 3, none⟩ = some (.bool nb) := o_i.cell 3
  have qi_4 : w2.cell? ⟨w.heap.size, 4, none⟩ = some (.string sb) := o_i.cell 4
  have qi_5 : w2.cell? ⟨w.heap.size, 5, none⟩ = some (.string tb) := o_i.cell 5
  have qx_0 : w2.cell? ⟨w.heap.size + 1, 0, none⟩ = some (.bool true) := o_x.cell 0
  have qx_1 : w2.cell? ⟨w.heap.size + 1, 1, none⟩ = some (.string sx) := o_x.cell 1
  have qx_2 : w2.cell? ⟨w.heap.size + 1, 2, none⟩ = some (.string tx) := o_x.cell 2
  go_wp2_with fail
  clear qi_0 qi_1 qi_2 qi_3 qi_4 qi_5 qx_0 qx_1 qx_2
  refine (H3.out _).mono ?_
  rintro e w3 ⟨rfl, hb3⟩
  replace o_i := o_i.below hb3 o_i.lt
  replace o_x := o_x.below hb3 o_x.lt
  replace o_r := o_r.below hb3 o_r.lt
  replace hbw := below6 hbw hb3
  clear hb3
  have mt_i := o_i.lt
  have mt_x := o_x.lt
  have mt_r := o_r.lt
  have mt_w := hbw.size
  obtain ⟨o_u, hz4⟩ := new1 w3 [.bool nu, .string su, .string tu] 26
  replace o_i := o_i.alloc (.cells #[.bool nu, .string su, .string tu] 26)
  replace o_x := o_x.alloc (.cells #[.bool nu, .string su, .string tu] 26)
  replace o_r := o_r.alloc (.cells #[.bool nu, .string su, .string tu] 26)
  replace hbw := below6 hbw hz4
  clear hz4
  have qi_0 : (w3.alloc (.cells #[.bool nu, .string su, .string tu] 26)).cell? ⟨w.heap.size, 0, none⟩ = some (.bool na) := o_i.cell 0
  have qi_1 : (w3.alloc (.cells #[.bool nu, .string su, .string tu] 26)).cell? ⟨w.heap.size, 1, none⟩ = some (.string sa) := o_i.cell 1
  have qi_2 : (w3.alloc (.cells #[.bool nu, .string su, .string tu] 26)).cell? ⟨w.heap.size, 2, none⟩ = some (.string ta) := o_i.cell 2
  have qi_3 : (w3.alloc (.cells #[.bool nu, .string su, .string tu] 26)).cell? ⟨w.heap.size, 3, none⟩ = some (.bool nb) := o_i.cell 3
  have qi_4 : (w3.alloc (.cells #[.bool nu, .string su, .string tu] 26)).cell? ⟨w.heap.size, 4, none⟩ = some (.string sb) := o_i.cell 4
  have qi_5 : (w3.alloc (.cells #[.bool nu, .string su, .string tu] 26)).cell? ⟨w.heap.size, 5, none⟩ = some (.string tb) := o_i.cell 5
  have qx_0 : (w3.alloc (.cells #[.bool nu, .string su, .string tu] 26)).cell? ⟨w.heap.size + 1, 0, none⟩ = some (.bool true) := o_x.cell 0
  have qx_1 : (w3.alloc (.cells #[.bool nu, .string su, .string tu] 26)).cell? ⟨w.heap.size + 1, 1, none⟩ = some (.string sx) := o_x.cell 1
  have qx_2 : (w3.alloc (.cells #[.bool nu, .string su, .string tu] 26)).cell? ⟨w.heap.size + 1, 2, none⟩ = some (.string tx) := o_x.cell 2
  go_wp2_with fail
  generalize (w3.alloc (.cells #[.bool nu, .string su, .string tu] 26)) = wa5 at o_i o_x o_r o_u hbw ⊢
  generalize w3.heap.size = g5 at o_u mt_i mt_x mt_r mt_w ⊢
  clear qi_0 qi_1 qi_2 qi_3 qi_4 qi_5 qx_0 qx_1 qx_2
  refine (H4.out _).mono ?_
  rintro e w6 ⟨rfl, hb6⟩
  replace o_i := o_i.below hb6 o_i.lt
  replace o_x := o_x.below hb6 o_x.lt
  replace o_r := o_r.below hb6 o_r.lt
  replace o_u := o_u.below hb6 o_u.lt
  replace hbw := below6 hbw hb6
  clear hb6
  have lt_i := o_i.lt
  have lt_x := o_x.lt
  have lt_r := o_r.lt
  have lt_u := o_u.lt
  have lt_w := hbw.size
  obtain ⟨o_v, hz7⟩ := new1 w6 [.bool nv, .string sv, .string tv] 26
  replace o_i := o_i.alloc (.cells #[.bool nv, .string sv, .string tv] 26)
  replace o_x := o_x.alloc (.cells #[.bool nv, .string sv, .string tv] 26)
  replace o_r := o_r.alloc (.cells #[.bool nv, .string sv, .string tv] 26)
  replace o_u := o_u.alloc (.cells #[.bool nv, .string sv, .string tv] 26)
  replace hbw := below6 hbw hz7
  clear hz7
  have qx_0 : (w6.alloc (.cells #[.bool nv, .string sv, .string tv] 26)).cell? ⟨w.heap.size + 1, 0, none⟩ = some (.bool true) := o_x.cell 0
  have qx_1 : (w6.alloc (.cells #[.bool nv, .string sv, .string tv] 26)).cell? ⟨w.heap.size + 1, 1, none⟩ = some (.string sx) := o_x.cell 1
  have qx_2 : (w6.alloc (.cells #[.bool nv, .string sv, .string tv] 26)).cell? ⟨w.heap.size + 1, 2, none⟩ = some (.string tx) := o_x.cell 2
  go_upto_region 8 with (fail)
  generalize (w6.alloc (.cells #[.bool nv, .string sv, .string tv] 26)) = wa8 at o_i o_x o_r o_u o_v hbw ⊢
  generalize w6.heap.size = g8 at o_v lt_i lt_x lt_r lt_u lt_w ⊢
  clear qx_0 qx_1 qx_2
  have qu_0 : wa8.cell? ⟨g5, 0, none⟩ = some (.bool nu) := o_u.cell 0
  have qu_1 : wa8.cell? ⟨g5, 1, none⟩ = some (.string su) := o_u.cell 1
  have qu_2 : wa8.cell? ⟨g5, 2, none⟩ = some (.string tu) := o_u.cell 2
  have qv_0 : wa8.cell? ⟨g8, 0, none⟩ = some (.bool nv) := o_v.cell 0
  have qv_1 : wa8.cell? ⟨g8, 1, none⟩ = some (.string sv) := o_v.cell 1
  have qv_2 : wa8.cell? ⟨g8, 2, none⟩ = some (.string tv) := o_v.cell 2
  have fv_0 := o_v.frozen 0
  have fv_1 := o_v.frozen 1
  have fv_2 := o_v.frozen 2
  have fu_0 := o_u.frozen 0
  have fu_1 := o_u.frozen 1
  have fu_2 := o_u.frozen 2
  have nuv : g5 ≠ g8 := by omega
  have nvu : g8 ≠ g5 := by omega
  have o2_u := (o_u.set3 (.bool nv) (.string sv) (.string tv)).far3 (b := g8) nuv (.bool nu) (.string su) (.string tu)
  have o2_v := (o_v.far3 (b := g5) nvu (.bool nv) (.string sv) (.string tv)).set3 (.bool nu) (.string su) (.string tu)
  have o2_i := (o_i.far3 (b := g5) (by omega) (.bool nv) (.string sv) (.string tv)).far3 (b := g8) (by omega) (.bool nu) (.string su) (.string tu)
  have o2_x := (o_x.far3 (b := g5) (by omega) (.bool nv) (.string sv) (.string tv)).far3 (b := g8) (by omega) (.bool nu) (.string su) (.string tu)
  have o2_r := (o_r.far3 (b := g5) (by omega) (.bool nv) (.string sv) (.string tv)).far3 (b := g8) (by omega) (.bool nu) (.string su) (.string tu)
  have hbw2 := Below.set3 (Below.set3 hbw (g := g5) (by omega) (.bool nv) (.string sv) (.string tv)) (g := g8) (by omega) (.bool nu) (.string su) (.string tu)
  clear o_i o_x o_r o_u o_v hbw
  go_upto_region 9 with (fail)
  clear qu_0 qu_1 qu_2 qv_0 qv_1 qv_2 fv_0 fv_1 fv_2 fu_0 fu_1 fu_2
  generalize ((((((wa8.setCell ⟨g5, 0, none⟩ (.bool nv)).setCell ⟨g5, 1, none⟩ (.string sv)).setCell ⟨g5, 2, none⟩ (.string tv)).setCell ⟨g8, 0, none⟩ (.bool nu)).setCell ⟨g8, 1, none⟩ (.string su)).setCell ⟨g8, 2, none⟩ (.string tu)) = wsw at o2_i o2_x o2_r o2_u o2_v hbw2 ⊢
  have o_i := o2_i
  have o_x := o2_x
  have o_r := o2_r
  have o_u := o2_u
  have o_v := o2_v
  have hbw := hbw2
  clear o2_i o2_x o2_r o2_u o2_v hbw2
  have qu_0 : wsw.cell? ⟨g5, 0, none⟩ = some (.bool nv) := o_u.cell 0
  have qu_1 : wsw.cell? ⟨g5, 1, none⟩ = some (.string sv) := o_u.cell 1
  have qu_2 : wsw.cell? ⟨g5, 2, none⟩ = some (.string tv) := o_u.cell 2
  have qv_0 : wsw.cell? ⟨g8, 0, none⟩ = some (.bool nu) := o_v.cell 0
  have qv_1 : wsw.cell? ⟨g8, 1, none⟩ = some (.string su) := o_v.cell 1
  have qv_2 : wsw.cell? ⟨g8, 2, none⟩ = some (.string tu) := o_v.cell 2
  have qr_0 : wsw.cell? ⟨w.heap.size + 1 + 1, 0, none⟩ = some (.bool false) := o_r.cell 0
  have qr_1 : wsw.cell? ⟨w.heap.size + 1 + 1, 1, none⟩ = some (.string ⟨#[]⟩) := o_r.cell 1
  have qr_2 : wsw.cell? ⟨w.heap.size + 1 + 1, 2, none⟩ = some (.string ⟨#[]⟩) := o_r.cell 2
  have qr_3 : wsw.cell? ⟨w.heap.size + 1 + 1, 3, none⟩ = some (.bool false) := o_r.cell 3
  have qr_4 : wsw.cell? ⟨w.heap.size + 1 + 1, 4, none⟩ = some (.string ⟨#[]⟩) := o_r.cell 4
  have qr_5 : wsw.cell? ⟨w.heap.size + 1 + 1, 5, none⟩ = some (.string ⟨#[]⟩) := o_r.cell 5
  have fr_0 := o_r.frozen 0
  have fr_1 := o_r.frozen 1
  have fr_2 := o_r.frozen 2
  have fr_3 := o_r.frozen 3
  have fr_4 := o_r.frozen 4
  have fr_5 := o_r.frozen 5
  have oz := o_r.set6 (.bool nv) (.string sv) (.string tv) (.bool nu) (.string su) (.string tu)
  have sz9 := Below.set6 hbw (g := w.heap.size + 1 + 1) (by omega) (.bool nv) (.string sv) (.string tv) (.bool nu) (.string su) (.string tu)
  go_wp2_with fail
  generalize ((((((wsw.setCell ⟨w.heap.size + 1 + 1, 0, none⟩ (.bool nv)).setCell ⟨w.heap.size + 1 + 1, 1, none⟩ (.string sv)).setCell ⟨w.heap.size + 1 + 1, 2, none⟩ (.string tv)).setCell ⟨w.heap.size + 1 + 1, 3, none⟩ (.bool nu)).setCell ⟨w.heap.size + 1 + 1, 4, none⟩ (.string su)).setCell ⟨w.heap.size + 1 + 1, 5, none⟩ (.string tu)) = wz at oz sz9 ⊢
  have z0 : wz.cell? ⟨w.heap.size + 1 + 1, 0, none⟩ = some (.bool nv) := oz.cell 0
  have z1 : wz.cell? ⟨w.heap.size + 1 + 1, 1, none⟩ = some (.string sv) := oz.cell 1
  have z2 : wz.cell? ⟨w.heap.size + 1 + 1, 2, none⟩ = some (.string tv) := oz.cell 2
  have z3 : wz.cell? ⟨w.heap.size + 1 + 1, 3, none⟩ = some (.bool nu) := oz.cell 3
  have z4 : wz.cell? ⟨w.heap.size + 1 + 1, 4, none⟩ = some (.string su) := oz.cell 4
  have z5 : wz.cell? ⟨w.heap.size + 1 + 1, 5, none⟩ = some (.string tu) := oz.cell 5
  exact bodyPost_ret (v := .tuple #[.agg #[.bool nv, .string sv, .string tv, .bool nu, .string su, .string tu], .int .i64 0]) (by simp [results, Try.results32, go_sem, z0, z1, z2, z3, z4, z5]) rfl ⟨rfl, sz9⟩
set_option maxRecDepth 100000 in
set_option maxHeartbeats 4000000 in
theorem rscale_no1 (na : Bool) (sa ta : ByteArray) (nb : Bool) (sb tb : ByteArray) (nx : Bool) (sx tx : ByteArray) (h1 : RetV 35 #[.agg #[.bool na, .string sa, .string ta, .bool nb, .string sb, .string tb]] (.bool false))  :
    RetV 32 #[.agg #[.bool na, .string sa, .string ta, .bool nb, .string sb, .string tb], .agg #[.bool nx, .string sx, .string tx]] (.tuple #[.agg #[.bool false, .string ⟨#[]⟩, .string ⟨#[]⟩, .bool false, .string ⟨#[]⟩, .string ⟨#[]⟩], .int .i64 1]) := by
  intro w
  have H1 := Lib.hid h1
  clear h1
  obtain ⟨o_i, o_x, o_r, hbw⟩ := new3 w [.bool na, .string sa, .string ta, .bool nb, .string sb, .string tb] [.bool nx, .string sx, .string tx] [.bool false, .string ⟨#[]⟩, .string ⟨#[]⟩, .bool false, .string ⟨#[]⟩, .string ⟨#[]⟩] 37 26 37
  go_enter Try.func32, Try.ntmps32
  go_upto_region 1 with (fail)
  generalize (((w.alloc (.cells #[.bool na, .string sa, .string ta, .bool nb, .string sb, .string tb] 37)).alloc (.cells #[.bool nx, .string sx, .string tx] 26)).alloc (.cells #[.bool false, .string ⟨#[]⟩, .string ⟨#[]⟩, .bool false, .string ⟨#[]⟩, .string ⟨#[]⟩] 37)) = wb at o_i o_x o_r hbw ⊢
  have qi_0 : wb.cell? ⟨w.heap.size, 0, none⟩ = some (.bool na) := o_i.cell 0
  have qi_1 : wb.cell? ⟨w.heap.size, 1, none⟩ = some (.string sa) := o_i.cell 1
  have qi_2 : wb.cell? ⟨w.heap.size, 2, none⟩ = some (.string ta) := o_i.cell 2
  have qi_3 : wb.cell? ⟨w.heap.size, 3, none⟩ = some (.bool nb) := o_i.cell 3
  have qi_4 : wb.cell? ⟨w.heap.size, 4, none⟩ = some (.string sb) := o_i.cell 4
  have qi_5 : wb.cell? ⟨w.heap.size, 5, none⟩ = some (.string tb) := o_i.cell 5
  have qx_0 : wb.cell? ⟨w.heap.size + 1, 0, none⟩ = some (.bool nx) := o_x.cell 0
  have qx_1 : wb.cell? ⟨w.heap.size + 1, 1, none⟩ = some (.string sx) := o_x.cell 1
  have qx_2 : wb.cell? ⟨w.heap.size + 1, 2, none⟩ = some (.string tx) := o_x.cell 2
  go_wp2_with fail
  clear qi_0 qi_1 qi_2 qi_3 qi_4 qi_5 qx_0 qx_1 qx_2
  refine (H1.out _).mono ?_
  rintro e w1 ⟨rfl, hb1⟩
  replace o_i := o_i.below hb1 o_i.lt
  replace o_x := o_x.below hb1 o_x.lt
  replace o_r := o_r.below hb1 o_r.lt
  replace hbw := below6 hbw hb1
  clear hb1
  have qr_0 : w1.cell? ⟨w.heap.size + 1 + 1, 0, none⟩ = some (.bool false) := o_r.cell 0
  have qr_1 : w1.cell? ⟨w.heap.size + 1 + 1, 1, none⟩ = some (.string ⟨#[]⟩) := o_r.cell 1
  have qr_2 : w1.cell? ⟨w.heap.size + 1 + 1, 2, none⟩ = some (.string ⟨#[]⟩) := o_r.cell 2
  have qr_3 : w1.cell? ⟨w.heap.size + 1 + 1, 3, none⟩ = some (.bool false) := o_r.cell 3
  have qr_4 : w1.cell? ⟨w.heap.size + 1 + 1, 4, none⟩ = some (.string ⟨#[]⟩) := o_r.cell 4
  have qr_5 : w1.cell? ⟨w.heap.size + 1 + 1, 5, none⟩ = some (.string ⟨#[]⟩) := o_r.cell 5
  have fr_0 := o_r.frozen 0
  have fr_1 := o_r.frozen 1
  have fr_2 := o_r.frozen 2
  have fr_3 := o_r.frozen 3
  have fr_4 := o_r.frozen 4
  have fr_5 := o_r.frozen 5
  have oz := o_r.set6 (.bool false) (.string ⟨#[]⟩) (.string ⟨#[]⟩) (.bool false) (.string ⟨#[]⟩) (.string ⟨#[]⟩)
  have sz9 := Below.set6 hbw (g := w.heap.size + 1 + 1) (by omega) (.bool false) (.string ⟨#[]⟩) (.string ⟨#[]⟩) (.bool false) (.string ⟨#[]⟩) (.string ⟨#[]⟩)
  go_wp2_with fail
  generalize ((((((w1.setCell ⟨w.heap.size + 1 + 1, 0, none⟩ (.bool false)).setCell ⟨w.heap.size + 1 + 1, 1, none⟩ (.string ⟨#[]⟩)).setCell ⟨w.heap.size + 1 + 1, 2, none⟩ (.string ⟨#[]⟩)).setCell ⟨w.heap.size + 1 + 1, 3, none⟩ (.bool false)).setCell ⟨w.heap.size + 1 + 1, 4, none⟩ (.string ⟨#[]⟩)).setCell ⟨w.heap.size + 1 + 1, 5, none⟩ (.string ⟨#[]⟩)) = wz at oz sz9 ⊢
  have z0 : wz.cell? ⟨w.heap.size + 1 + 1, 0, none⟩ = some (.bool false) := oz.cell 0
  have z1 : wz.cell? ⟨w.heap.size + 1 + 1, 1, none⟩ = some (.string ⟨#[]⟩) := oz.cell 1
  have z2 : wz.cell? ⟨w.heap.size + 1 + 1, 2, none⟩ = some (.string ⟨#[]⟩) := oz.cell 2
  have z3 : wz.cell? ⟨w.heap.size + 1 + 1, 3, none⟩ = some (.bool false) := oz.cell 3
  have z4 : wz.cell? ⟨w.heap.size + 1 + 1, 4, none⟩ = some (.string ⟨#[]⟩) := oz.cell 4
  have z5 : wz.cell? ⟨w.heap.size + 1 + 1, 5, none⟩ = some (.string ⟨#[]⟩) := oz.cell 5
  exact bodyPost_ret (v := .tuple #[.agg #[.bool false, .string ⟨#[]⟩, .string ⟨#[]⟩, .bool false, .string ⟨#[]⟩, .string ⟨#[]⟩], .int .i64 1]) (by simp [results, Try.results32, go_sem, z0, z1, z2, z3, z4, z5]) rfl ⟨rfl, sz9⟩
set_option maxRecDepth 100000 in
set_option maxHeartbeats 4000000 in
theorem rscale_no2 (na : Bool) (sa ta : ByteArray) (nb : Bool) (sb tb : ByteArray) (nx : Bool) (sx tx : ByteArray) (h1 : RetV 35 #[.agg #[.bool na, .string sa, .string ta, .bool nb, .string sb, .string tb]] (.bool true)) (h2 : RetV 47 #[.agg #[.bool nx, .string sx, .string tx]] (.bool false)) :
    RetV 32 #[.agg #[.bool na, .string sa, .string ta, .bool nb, .string sb, .string tb], .agg #[.bool nx, .string sx, .string tx]] (.tuple #[.agg #[.bool false, .string ⟨#[]⟩, .string ⟨#[]⟩, .bool false, .string ⟨#[]⟩, .string ⟨#[]⟩], .int .i64 1]) := by
  intro w
  have H1 := Lib.hid h1
  have H2 := Lib.hid h2
  clear h1 h2
  obtain ⟨o_i, o_x, o_r, hbw⟩ := new3 w [.bool na, .string sa, .string ta, .bool nb, .string sb, .string tb] [.bool nx, .string sx, .string tx] [.bool false, .string ⟨#[]⟩, .string ⟨#[]⟩, .bool false, .string ⟨#[]⟩, .string ⟨#[]⟩] 37 26 37
  go_enter Try.func32, Try.ntmps32
  go_upto_region 1 with (fail)
  generalize (((w.alloc (.cells #[.bool na, .string sa, .string ta, .bool nb, .string sb, .string tb] 37)).alloc (.cells #[.bool nx, .string sx, .string tx] 26)).alloc (.cells #[.bool false, .string ⟨#[]⟩, .string ⟨#[]⟩, .bool false, .string ⟨#[]⟩, .string ⟨#[]⟩] 37)) = wb at o_i o_x o_r hbw ⊢
  have qi_0 : wb.cell? ⟨w.heap.size, 0, none⟩ = some (.bool na) := o_i.cell 0
  have qi_1 : wb.cell? ⟨w.heap.size, 1, none⟩ = some (.string sa) := o_i.cell 1
  have qi_2 : wb.cell? ⟨w.heap.size, 2, none⟩ = some (.string ta) := o_i.cell 2
  have qi_3 : wb.cell? ⟨w.heap.size, 3, none⟩ = some (.bool nb) := o_i.cell 3
  have qi_4 : wb.cell? ⟨w.heap.size, 4, none⟩ = some (.string sb) := o_i.cell 4
  have qi_5 : wb.cell? ⟨w.heap.size, 5, none⟩ = some (.string tb) := o_i.cell 5
  have qx_0 : wb.cell? ⟨w.heap.size + 1, 0, none⟩ = some (.bool nx) := o_x.cell 0
  have qx_1 : wb.cell? ⟨w.heap.size + 1, 1, none⟩ = some (.string sx) := o_x.cell 1
  have qx_2 : wb.cell? ⟨w.heap.size + 1, 2, none⟩ = some (.string tx) := o_x.cell 2
  go_wp2_with fail
  clear qi_0 qi_1 qi_2 qi_3 qi_4 qi_5 qx_0 qx_1 qx_2
  refine (H1.out _).mono ?_
  rintro e w1 ⟨rfl, hb1⟩
  replace o_i := o_i.below hb1 o_i.lt
  replace o_x := o_x.below hb1 o_x.lt
  replace o_r := o_r.below hb1 o_r.lt
  replace hbw := below6 hbw hb1
  clear hb1
  have qi_0 : w1.cell? ⟨w.heap.size, 0, none⟩ = some (.bool na) := o_i.cell 0
  have qi_1 : w1.cell? ⟨w.heap.size, 1, none⟩ = some (.string sa) := o_i.cell 1
  have qi_2 : w1.cell? ⟨w.heap.size, 2, none⟩ = some (.string ta) := o_i.cell 2
  have qi_3 : w1.cell? ⟨w.heap.size, 3, none⟩ = some (.bool nb) := o_i.cell 3
  have qi_4 : w1.cell? ⟨w.heap.size, 4, none⟩ = some (.string sb) := o_i.cell 4
  have qi_5 : w1.cell? ⟨w.heap.size, 5, none⟩ = some (.string tb) := o_i.cell 5
  have qx_0 : w1.cell? ⟨w.heap.size + 1, 0, none⟩ = some (.bool nx) := o_x.cell 0
  have qx_1 : w1.cell? ⟨w.heap.size + 1, 1, none⟩ = some (.string sx) := o_x.cell 1
  have qx_2 : w1.cell? ⟨w.heap.size + 1, 2, none⟩ = some (.string tx) := o_x.cell 2
  go_wp2_with fail
  clear qi_0 qi_1 qi_2 qi_3 qi_4 qi_5 qx_0 qx_1 qx_2
  refine (H2.out _).mono ?_
  rintro e w2 ⟨rfl, hb2⟩
  replace o_i := o_i.below hb2 o_i.lt
  replace o_x := o_x.below hb2 o_x.lt
  replace o_r := o_r.below hb2 o_r.lt
  replace hbw := below6 hbw hb2
  clear hb2
  have qr_0 : w2.cell? ⟨w.heap.size + 1 + 1, 0, none⟩ = some (.bool false) := o_r.cell 0
  have qr_1 : w2.cell? ⟨w.heap.size + 1 + 1, 1, none⟩ = some (.string ⟨#[]⟩) := o_r.cell 1
  have qr_2 : w2.cell? ⟨w.heap.size + 1 + 1, 2, none⟩ = some (.string ⟨#[]⟩) := o_r.cell 2
  have qr_3 : w2.cell? ⟨w.heap.size + 1 + 1, 3, none⟩ = some (.bool false) := o_r.cell 3
  have qr_4 : w2.cell? ⟨w.heap.size + 1 + 1, 4, none⟩ = some (.string ⟨#[]⟩) := o_r.cell 4
  have qr_5 : w2.cell? ⟨w.heap.size + 1 + 1, 5, none⟩ = some (.string ⟨#[]⟩) := o_r.cell 5
  have fr_0 := o_r.frozen 0
  have fr_1 := o_r.frozen 1
  have fr_2 := o_r.frozen 2
  have fr_3 := o_r.frozen 3
  have fr_4 := o_r.frozen 4
  have fr_5 := o_r.frozen 5
  have oz := o_r.set6 (.bool false) (.string ⟨#[]⟩) (.string ⟨#[]⟩) (.bool false) (.string ⟨#[]⟩) (.string ⟨#[]⟩)
  have sz9 := Below.set6 hbw (g := w.heap.size + 1 + 1) (by omega) (.bool false) (.string ⟨#[]⟩) (.string ⟨#[]⟩) (.bool false) (.string ⟨#[]⟩) (.string ⟨#[]⟩)
  go_wp2_with fail
  generalize ((((((w2.setCell ⟨w.heap.size + 1 + 1, 0, none⟩ (.bool false)).setCell ⟨w.heap.size + 1 + 1, 1, none⟩ (.string ⟨#[]⟩)).setCell ⟨w.heap.size + 1 + 1, 2, none⟩ (.string ⟨#[]⟩)).setCell ⟨w.heap.size + 1 + 1, 3, none⟩ (.bool false)).setCell ⟨w.heap.size + 1 + 1, 4, none⟩ (.string ⟨#[]⟩)).setCell ⟨w.heap.size + 1 + 1, 5, none⟩ (.string ⟨#[]⟩)) = wz at oz sz9 ⊢
  have z0 : wz.cell? ⟨w.heap.size + 1 + 1, 0, none⟩ = some (.bool false) := oz.cell 0
  have z1 : wz.cell? ⟨w.heap.size + 1 + 1, 1, none⟩ = some (.string ⟨#[]⟩) := oz.cell 1
  have z2 : wz.cell? ⟨w.heap.size + 1 + 1, 2, none⟩ = some (.string ⟨#[]⟩) := oz.cell 2
  have z3 : wz.cell? ⟨w.heap.size + 1 + 1, 3, none⟩ = some (.bool false) := oz.cell 3
  have z4 : wz.cell? ⟨w.heap.size + 1 + 1, 4, none⟩ = some (.string ⟨#[]⟩) := oz.cell 4
  have z5 : wz.cell? ⟨w.heap.size + 1 + 1, 5, none⟩ = some (.string ⟨#[]⟩) := oz.cell 5
  exact bodyPost_ret (v := .tuple #[.agg #[.bool false, .string ⟨#[]⟩, .string ⟨#[]⟩, .bool false, .string ⟨#[]⟩, .string ⟨#[]⟩], .int .i64 1]) (by simp [results, Try.results32, go_sem, z0, z1, z2, z3, z4, z5]) rfl ⟨rfl, sz9⟩
set_option maxRecDepth 100000 in
theorem logr_no1 (neg : Bool) (s t : ByteArray) (k : Int) (h1 : RetV 47 #[.agg #[.bool neg, .string s, .string t]] (.bool false)) : RetV 18 #[.agg #[.bool neg, .string s, .string t], .int .i64 k] (.tuple #[.int .i64 0, .bool false, .int .i64 1]) := by
  intro w
  have H1 := Lib.hid h1
  clear h1
  obtain ⟨o0, hbw⟩ := new1 w [.bool neg, .string s, .string t] 26
  go_enter Try.func18, Try.ntmps18
  go_upto_region 1 with (fail)
  generalize (w.alloc (.cells #[.bool neg, .string s, .string t] 26)) = wb at o0 hbw ⊢
  have c0 : wb.cell? ⟨w.heap.size, 0, none⟩ = some (.bool neg) := o0.cell 0
  have c1 : wb.cell? ⟨w.heap.size, 1, none⟩ = some (.string s) := o0.cell 1
  have c2 : wb.cell? ⟨w.heap.size, 2, none⟩ = some (.string t) := o0.cell 2
  go_wp2_with fail
  refine (H1.out _).mono ?_
  rintro e wc ⟨rfl, hb1⟩
  replace o0 := o0.below hb1 o0.lt
  replace hbw := below6 hbw hb1
  clear hb1 c0 c1 c2
  have c0 : wc.cell? ⟨w.heap.size, 0, none⟩ = some (.bool neg) := o0.cell 0
  have c1 : wc.cell? ⟨w.heap.size, 1, none⟩ = some (.string s) := o0.cell 1
  have c2 : wc.cell? ⟨w.heap.size, 2, none⟩ = some (.string t) := o0.cell 2
  go_wp2_with fail
  exact bodyPost_ret (v := .tuple #[.int .i64 0, .bool false, .int .i64 1]) (by simp [results, Try.results18, go_sem]) rfl ⟨rfl, hbw⟩
set_option maxRecDepth 100000 in
set_option maxHeartbeats 1000000 in
theorem log_no1 (neg : Bool) (s t : ByteArray) (k : Int) (h1 : RetV 42 #[.agg #[.bool neg, .string s, .string t]] (.bool false)) : RetV 15 #[.agg #[.bool neg, .string s, .string t], .int .i64 k] (.tuple #[.int .i64 0, .bool false, .int .i64 1]) := by
  intro w
  have H1 := Lib.hid h1
  clear h1
  obtain ⟨o0, o1, o2, o3, hbw⟩ := new4 w [.bool neg, .string s, .string t] [.int .i64 0] [.bool false] [.int .i64 0] 26 3 4 29
  have hmf : ∀ (fn : Fn) (first cap : Array Value) (w : World), (Instr.makeFunc fn first cap).run Try.prog w = .ok (.func fn first cap) w := fun _ _ _ _ => rfl
  go_enter_defers Try.func15, Try.ntmps15
  go_upto_region 1 with (fail)
  generalize ((((w.alloc (.cells #[.bool neg, .string s, .string t] 26)).alloc (.cells #[.int .i64 0] 3)).alloc (.cells #[.bool false] 4)).alloc (.cells #[.int .i64 0] 29)) = wb at o0 o1 o2 o3 hbw ⊢
  have c0 : wb.cell? ⟨w.heap.size, 0, none⟩ = some (.bool neg) := o0.cell 0
  have c1 : wb.cell? ⟨w.heap.size, 1, none⟩ = some (.string s) := o0.cell 1
  have c2 : wb.cell? ⟨w.heap.size, 2, none⟩ = some (.string t) := o0.cell 2
  go_wp2_with fail
  refine (H1.out _).mono ?_
  rintro e wc ⟨rfl, hb1⟩
  replace o0 := o0.below hb1 o0.lt
  replace o1 := o1.below hb1 o1.lt
  replace o2 := o2.below hb1 o2.lt
  replace o3 := o3.below hb1 o3.lt
  replace hbw := below6 hbw hb1
  clear hb1 c0 c1 c2
  have c0 : wc.cell? ⟨w.heap.size, 0, none⟩ = some (.bool neg) := o0.cell 0
  have c1 : wc.cell? ⟨w.heap.size, 1, none⟩ = some (.string s) := o0.cell 1
  have c2 : wc.cell? ⟨w.heap.size, 2, none⟩ = some (.string t) := o0.cell 2
  have z1 : wc.cell? ⟨w.heap.size + 1, 0, none⟩ = some (.int .i64 0) := o1.cell 0
  have z2 : wc.cell? ⟨w.heap.size + 1 + 1, 0, none⟩ = some (.bool false) := o2.cell 0
  have z3 : wc.cell? ⟨w.heap.size + 1 + 1 + 1, 0, none⟩ = some (.int .i64 0) := o3.cell 0
  have f1 := o1.frozen 0
  have f2 := o2.frozen 0
  have f3 := o3.frozen 0
  go_wp2_with fail
  replace o1 := o1.set_ 0 (.int .i64 0)
  replace o2 := o2.far (p := ⟨w.heap.size + 1, 0, none⟩) (by intro e; have e2 : w.heap.size + 1 + 1 = w.heap.size + 1 := e; omega) (.int .i64 0)
  replace o3 := o3.far (p := ⟨w.heap.size + 1, 0, none⟩) (by intro e; have e2 : w.heap.size + 1 + 1 + 1 = w.heap.size + 1 := e; omega) (.int .i64 0)
  replace hbw := hbw.setCell (p := ⟨w.heap.size + 1, 0, none⟩) (show w.heap.size ≤ w.heap.size + 1 by omega) (.int .i64 0)
  replace o1 := o1.far (p := ⟨w.heap.size + 1 + 1, 0, none⟩) (by intro e; have e2 : w.heap.size + 1 = w.heap.size + 1 + 1 := e; omega) (.bool false)
  replace o2 := o2.set_ 0 (.bool false)
  replace o3 := o3.far (p := ⟨w.heap.size + 1 + 1, 0, none⟩) (by intro e; have e2 : w.heap.size + 1 + 1 + 1 = w.heap.size + 1 + 1 := e; omega) (.bool false)
  replace hbw := hbw.setCell (p := ⟨w.heap.size + 1 + 1, 0, none⟩) (show w.heap.size ≤ w.heap.size + 1 + 1 by omega) (.bool false)
  replace o1 := o1.far (p := ⟨w.heap.size + 1 + 1 + 1, 0, none⟩) (by intro e; have e2 : w.heap.size + 1 = w.heap.size + 1 + 1 + 1 := e; omega) (.int .i64 1)
  replace o2 := o2.far (p := ⟨w.heap.size + 1 + 1 + 1, 0, none⟩) (by intro e; have e2 : w.heap.size + 1 + 1 = w.heap.size + 1 + 1 + 1 := e; omega) (.int .i64 1)
  replace o3 := o3.set_ 0 (.int .i64 1)
  replace hbw := hbw.setCell (p := ⟨w.heap.size + 1 + 1 + 1, 0, none⟩) (show w.heap.size ≤ w.heap.size + 1 + 1 + 1 by omega) (.int .i64 1)
  generalize (((wc.setCell ⟨w.heap.size + 1, 0, none⟩ (.int .i64 0)).setCell ⟨w.heap.size + 1 + 1, 0, none⟩ (.bool false)).setCell ⟨w.heap.size + 1 + 1 + 1, 0, none⟩ (.int .i64 1)) = wz at o1 o2 o3 hbw ⊢
  have y1 : wz.cell? ⟨w.heap.size + 1, 0, none⟩ = some (.int .i64 0) := o1.cell 0
  have y2 : wz.cell? ⟨w.heap.size + 1 + 1, 0, none⟩ = some (.bool false) := o2.cell 0
  have y3 : wz.cell? ⟨w.heap.size + 1 + 1 + 1, 0, none⟩ = some (.int .i64 1) := o3.cell 0
  simp [bodyPostD, Leaves, settle, results, Try.results15, go_sem, y1, y2, y3]
  exact hbw
set_option maxRecDepth 100000 in
theorem logr_no2 (neg : Bool) (s t : ByteArray) (k : Int) (h1 : RetV 47 #[.agg #[.bool neg, .string s, .string t]] (.bool true)) (hn : neg = true) : RetV 18 #[.agg #[.bool neg, .string s, .string t], .int .i64 k] (.tuple #[.int .i64 0, .bool false, .int .i64 1]) := by
  intro w
  subst hn
  have H1 := Lib.hid h1
  clear h1
  obtain ⟨o0, hbw⟩ := new1 w [.bool true, .string s, .string t] 26
  go_enter Try.func18, Try.ntmps18
  go_upto_region 1 with (fail)
  generalize (w.alloc (.cells #[.bool true, .string s, .string t] 26)) = wb at o0 hbw ⊢
  have c0 : wb.cell? ⟨w.heap.size, 0, none⟩ = some (.bool true) := o0.cell 0
  have c1 : wb.cell? ⟨w.heap.size, 1, none⟩ = some (.string s) := o0.cell 1
  have c2 : wb.cell? ⟨w.heap.size, 2, none⟩ = some (.string t) := o0.cell 2
  go_wp2_with fail
  refine (H1.out _).mono ?_
  rintro e wc ⟨rfl, hb1⟩
  replace o0 := o0.below hb1 o0.lt
  replace hbw := below6 hbw hb1
  clear hb1 c0 c1 c2
  have c0 : wc.cell? ⟨w.heap.size, 0, none⟩ = some (.bool true) := o0.cell 0
  have c1 : wc.cell? ⟨w.heap.size, 1, none⟩ = some (.string s) := o0.cell 1
  have c2 : wc.cell? ⟨w.heap.size, 2, none⟩ = some (.string t) := o0.cell 2
  go_wp2_with fail
  exact bodyPost_ret (v := .tuple #[.int .i64 0, .bool false, .int .i64 1]) (by simp [results, Try.results18, go_sem]) rfl ⟨rfl, hbw⟩
set_option maxRecDepth 100000 in
set_option maxHeartbeats 1000000 in
theorem log_no2 (neg : Bool) (s t : ByteArray) (k : Int) (h1 : RetV 42 #[.agg #[.bool neg, .string s, .string t]] (.bool true)) (hn : neg = true) : RetV 15 #[.agg #[.bool neg, .string s, .string t], .int .i64 k] (.tuple #[.int .i64 0, .bool false, .int .i64 1]) := by
  intro w
  subst hn
  have H1 := Lib.hid h1
  clear h1
  obtain ⟨o0, o1, o2, o3, hbw⟩ := new4 w [.bool true, .string s, .string t] [.int .i64 0] [.bool false] [.int .i64 0] 26 3 4 29
  have hmf : ∀ (fn : Fn) (first cap : Array Value) (w : World), (Instr.makeFunc fn first cap).run Try.prog w = .ok (.func fn first cap) w := fun _ _ _ _ => rfl
  go_enter_defers Try.func15, Try.ntmps15
  go_upto_region 1 with (fail)
  generalize ((((w.alloc (.cells #[.bool true, .string s, .string t] 26)).alloc (.cells #[.int .i64 0] 3)).alloc (.cells #[.bool false] 4)).alloc (.cells #[.int .i64 0] 29)) = wb at o0 o1 o2 o3 hbw ⊢
  have c0 : wb.cell? ⟨w.heap.size, 0, none⟩ = some (.bool true) := o0.cell 0
  have c1 : wb.cell? ⟨w.heap.size, 1, none⟩ = some (.string s) := o0.cell 1
  have c2 : wb.cell? ⟨w.heap.size, 2, none⟩ = some (.string t) := o0.cell 2
  go_wp2_with fail
  refine (H1.out _).mono ?_
  rintro e wc ⟨rfl, hb1⟩
  replace o0 := o0.below hb1 o0.lt
  replace o1 := o1.below hb1 o1.lt
  replace o2 := o2.below hb1 o2.lt
  replace o3 := o3.below hb1 o3.lt
  replace hbw := below6 hbw hb1
  clear hb1 c0 c1 c2
  have c0 : wc.cell? ⟨w.heap.size, 0, none⟩ = some (.bool true) := o0.cell 0
  have c1 : wc.cell? ⟨w.heap.size, 1, none⟩ = some (.string s) := o0.cell 1
  have c2 : wc.cell? ⟨w.heap.size, 2, none⟩ = some (.string t) := o0.cell 2
  have z1 : wc.cell? ⟨w.heap.size + 1, 0, none⟩ = some (.int .i64 0) := o1.cell 0
  have z2 : wc.cell? ⟨w.heap.size + 1 + 1, 0, none⟩ = some (.bool false) := o2.cell 0
  have z3 : wc.cell? ⟨w.heap.size + 1 + 1 + 1, 0, none⟩ = some (.int .i64 0) := o3.cell 0
  have f1 := o1.frozen 0
  have f2 := o2.frozen 0
  have f3 := o3.frozen 0
  go_wp2_with fail
  replace o1 := o1.set_ 0 (.int .i64 0)
  replace o2 := o2.far (p := ⟨w.heap.size + 1, 0, none⟩) (by intro e; have e2 : w.heap.size + 1 + 1 = w.heap.size + 1 := e; omega) (.int .i64 0)
  replace o3 := o3.far (p := ⟨w.heap.size + 1, 0, none⟩) (by intro e; have e2 : w.heap.size + 1 + 1 + 1 = w.heap.size + 1 := e; omega) (.int .i64 0)
  replace hbw := hbw.setCell (p := ⟨w.heap.size + 1, 0, none⟩) (show w.heap.size ≤ w.heap.size + 1 by omega) (.int .i64 0)
  replace o1 := o1.far (p := ⟨w.heap.size + 1 + 1, 0, none⟩) (by intro e; have e2 : w.heap.size + 1 = w.heap.size + 1 + 1 := e; omega) (.bool false)
  replace o2 := o2.set_ 0 (.bool false)
  replace o3 := o3.far (p := ⟨w.heap.size + 1 + 1, 0, none⟩) (by intro e; have e2 : w.heap.size + 1 + 1 + 1 = w.heap.size + 1 + 1 := e; omega) (.bool false)
  replace hbw := hbw.setCell (p := ⟨w.heap.size + 1 + 1, 0, none⟩) (show w.heap.size ≤ w.heap.size + 1 + 1 by omega) (.bool false)
  replace o1 := o1.far (p := ⟨w.heap.size + 1 + 1 + 1, 0, none⟩) (by intro e; have e2 : w.heap.size + 1 = w.heap.size + 1 + 1 + 1 := e; omega) (.int .i64 1)
  replace o2 := o2.far (p := ⟨w.heap.size + 1 + 1 + 1, 0, none⟩) (by intro e; have e2 : w.heap.size + 1 + 1 = w.heap.size + 1 + 1 + 1 := e; omega) (.int .i64 1)
  replace o3 := o3.set_ 0 (.int .i64 1)
  replace hbw := hbw.setCell (p := ⟨w.heap.size + 1 + 1 + 1, 0, none⟩) (show w.heap.size ≤ w.heap.size + 1 + 1 + 1 by omega) (.int .i64 1)
  generalize (((wc.setCell ⟨w.heap.size + 1, 0, none⟩ (.int .i64 0)).setCell ⟨w.heap.size + 1 + 1, 0, none⟩ (.bool false)).setCell ⟨w.heap.size + 1 + 1 + 1, 0, none⟩ (.int .i64 1)) = wz at o1 o2 o3 hbw ⊢
  have y1 : wz.cell? ⟨w.heap.size + 1, 0, none⟩ = some (.int .i64 0) := o1.cell 0
  have y2 : wz.cell? ⟨w.heap.size + 1 + 1, 0, none⟩ = some (.bool false) := o2.cell 0
  have y3 : wz.cell? ⟨w.heap.size + 1 + 1 + 1, 0, none⟩ = some (.int .i64 1) := o3.cell 0
  simp [bodyPostD, Leaves, settle, results, Try.results15, go_sem, y1, y2, y3]
  exact hbw
set_option maxRecDepth 100000 in
theorem logr_no3 (neg : Bool) (s t : ByteArray) (k : Int) (h1 : RetV 47 #[.agg #[.bool neg, .string s, .string t]] (.bool true)) (hn : neg = false) (hs : (s.toList == [48]) = true) : RetV 18 #[.agg #[.bool neg, .string s, .string t], .int .i64 k] (.tuple #[.int .i64 0, .bool false, .int .i64 1]) := by
  intro w
  subst hn
  have H1 := Lib.hid h1
  clear h1
  obtain ⟨o0, hbw⟩ := new1 w [.bool false, .string s, .string t] 26
  go_enter Try.func18, Try.ntmps18
  go_upto_region 1 with (fail)
  generalize (w.alloc (.cells #[.bool false, .string s, .string t] 26)) = wb at o0 hbw ⊢
  have c0 : wb.cell? ⟨w.heap.size, 0, none⟩ = some (.bool false) := o0.cell 0
  have c1 : wb.cell? ⟨w.heap.size, 1, none⟩ = some (.string s) := o0.cell 1
  have c2 : wb.cell? ⟨w.heap.size, 2, none⟩ = some (.string t) := o0.cell 2
  go_wp2_with fail
  refine (H1.out _).mono ?_
  rintro e wc ⟨rfl, hb1⟩
  replace o0 := o0.below hb1 o0.lt
  replace hbw := below6 hbw hb1
  clear hb1 c0 c1 c2
  have c0 : wc.cell? ⟨w.heap.size, 0, none⟩ = some (.bool false) := o0.cell 0
  have c1 : wc.cell? ⟨w.heap.size, 1, none⟩ = some (.string s) := o0.cell 1
  have c2 : wc.cell? ⟨w.heap.size, 2, none⟩ = some (.string t) := o0.cell 2
  go_wp2_with fail
  exact bodyPost_ret (v := .tuple #[.int .i64 0, .bool false, .int .i64 1]) (by simp [results, Try.results18, go_sem]) rfl ⟨rfl, hbw⟩
set_option maxRecDepth 100000 in
set_option maxHeartbeats 1000000 in
theorem log_no3 (neg : Bool) (s t : ByteArray) (k : Int) (h1 : RetV 42 #[.agg #[.bool neg, .string s, .string t]] (.bool true)) (hn : neg = false) (hs : (s.toList == [48]) = true) : RetV 15 #[.agg #[.bool neg, .string s, .string t], .int .i64 k] (.tuple #[.int .i64 0, .bool false, .int .i64 1]) := by
  intro w
  subst hn
  have H1 := Lib.hid h1
  clear h1
  obtain ⟨o0, o1, o2, o3, hbw⟩ := new4 w [.bool false, .string s, .string t] [.int .i64 0] [.bool false] [.int .i64 0] 26 3 4 29
  have hmf : ∀ (fn : Fn) (first cap : Array Value) (w : World), (Instr.makeFunc fn first cap).run Try.prog w = .ok (.func fn first cap) w := fun _ _ _ _ => rfl
  go_enter_defers Try.func15, Try.ntmps15
  go_upto_region 1 with (fail)
  generalize ((((w.alloc (.cells #[.bool false, .string s, .string t] 26)).alloc (.cells #[.int .i64 0] 3)).alloc (.cells #[.bool false] 4)).alloc (.cells #[.int .i64 0] 29)) = wb at o0 o1 o2 o3 hbw ⊢
  have c0 : wb.cell? ⟨w.heap.size, 0, none⟩ = some (.bool false) := o0.cell 0
  have c1 : wb.cell? ⟨w.heap.size, 1, none⟩ = some (.string s) := o0.cell 1
  have c2 : wb.cell? ⟨w.heap.size, 2, none⟩ = some (.string t) := o0.cell 2
  go_wp2_with fail
  refine (H1.out _).mono ?_
  rintro e wc ⟨rfl, hb1⟩
  replace o0 := o0.below hb1 o0.lt
  replace o1 := o1.below hb1 o1.lt
  replace o2 := o2.below hb1 o2.lt
  replace o3 := o3.below hb1 o3.lt
  replace hbw := below6 hbw hb1
  clear hb1 c0 c1 c2
  have c0 : wc.cell? ⟨w.heap.size, 0, none⟩ = some (.bool false) := o0.cell 0
  have c1 : wc.cell? ⟨w.heap.size, 1, none⟩ = some (.string s) := o0.cell 1
  have c2 : wc.cell? ⟨w.heap.size, 2, none⟩ = some (.string t) := o0.cell 2
  have z1 : wc.cell? ⟨w.heap.size + 1, 0, none⟩ = some (.int .i64 0) := o1.cell 0
  have z2 : wc.cell? ⟨w.heap.size + 1 + 1, 0, none⟩ = some (.bool false) := o2.cell 0
  have z3 : wc.cell? ⟨w.heap.size + 1 + 1 + 1, 0, none⟩ = some (.int .i64 0) := o3.cell 0
  have f1 := o1.frozen 0
  have f2 := o2.frozen 0
  have f3 := o3.frozen 0
  go_wp2_with fail
  replace o1 := o1.set_ 0 (.int .i64 0)
  replace o2 := o2.far (p := ⟨w.heap.size + 1, 0, none⟩) (by intro e; have e2 : w.heap.size + 1 + 1 = w.heap.size + 1 := e; omega) (.int .i64 0)
  replace o3 := o3.far (p := ⟨w.heap.size + 1, 0, none⟩) (by intro e; have e2 : w.heap.size + 1 + 1 + 1 = w.heap.size + 1 := e; omega) (.int .i64 0)
  replace hbw := hbw.setCell (p := ⟨w.heap.size + 1, 0, none⟩) (show w.heap.size ≤ w.heap.size + 1 by omega) (.int .i64 0)
  replace o1 := o1.far (p := ⟨w.heap.size + 1 + 1, 0, none⟩) (by intro e; have e2 : w.heap.size + 1 = w.heap.size + 1 + 1 := e; omega) (.bool false)
  replace o2 := o2.set_ 0 (.bool false)
  replace o3 := o3.far (p := ⟨w.heap.size + 1 + 1, 0, none⟩) (by intro e; have e2 : w.heap.size + 1 + 1 + 1 = w.heap.size + 1 + 1 := e; omega) (.bool false)
  replace hbw := hbw.setCell (p := ⟨w.heap.size + 1 + 1, 0, none⟩) (show w.heap.size ≤ w.heap.size + 1 + 1 by omega) (.bool false)
  replace o1 := o1.far (p := ⟨w.heap.size + 1 + 1 + 1, 0, none⟩) (by intro e; have e2 : w.heap.size + 1 = w.heap.size + 1 + 1 + 1 := e; omega) (.int .i64 1)
  replace o2 := o2.far (p := ⟨w.heap.size + 1 + 1 + 1, 0, none⟩) (by intro e; have e2 : w.heap.size + 1 + 1 = w.heap.size + 1 + 1 + 1 := e; omega) (.int .i64 1)
  replace o3 := o3.set_ 0 (.int .i64 1)
  replace hbw := hbw.setCell (p := ⟨w.heap.size + 1 + 1 + 1, 0, none⟩) (show w.heap.size ≤ w.heap.size + 1 + 1 + 1 by omega) (.int .i64 1)
  generalize (((wc.setCell ⟨w.heap.size + 1, 0, none⟩ (.int .i64 0)).setCell ⟨w.heap.size + 1 + 1, 0, none⟩ (.bool false)).setCell ⟨w.heap.size + 1 + 1 + 1, 0, none⟩ (.int .i64 1)) = wz at o1 o2 o3 hbw ⊢
  have y1 : wz.cell? ⟨w.heap.size + 1, 0, none⟩ = some (.int .i64 0) := o1.cell 0
  have y2 : wz.cell? ⟨w.heap.size + 1 + 1, 0, none⟩ = some (.bool false) := o2.cell 0
  have y3 : wz.cell? ⟨w.heap.size + 1 + 1 + 1, 0, none⟩ = some (.int .i64 1) := o3.cell 0
  simp [bodyPostD, Leaves, settle, results, Try.results15, go_sem, y1, y2, y3]
  exact hbw
set_option maxRecDepth 100000 in
theorem logr_no4 (neg : Bool) (s t : ByteArray) (k : Int) (h1 : RetV 47 #[.agg #[.bool neg, .string s, .string t]] (.bool true)) (hn : neg = false) (hs : (s.toList == [48]) = false) (hk : k < 0) : RetV 18 #[.agg #[.bool neg, .string s, .string t], .int .i64 k] (.tuple #[.int .i64 0, .bool false, .int .i64 1]) := by
  intro w
  subst hn
  have d1 : decide (k < 0) = true := decide_eq_true hk
  have H1 := Lib.hid h1
  clear h1
  obtain ⟨o0, hbw⟩ := new1 w [.bool false, .string s, .string t] 26
  go_enter Try.func18, Try.ntmps18
  go_upto_region 1 with (fail)
  generalize (w.alloc (.cells #[.bool false, .string s, .string t] 26)) = wb at o0 hbw ⊢
  have c0 : wb.cell? ⟨w.heap.size, 0, none⟩ = some (.bool false) := o0.cell 0
  have c1 : wb.cell? ⟨w.heap.size, 1, none⟩ = some (.string s) := o0.cell 1
  have c2 : wb.cell? ⟨w.heap.size, 2, none⟩ = some (.string t) := o0.cell 2
  go_wp2_with fail
  refine (H1.out _).mono ?_
  rintro e wc ⟨rfl, hb1⟩
  replace o0 := o0.below hb1 o0.lt
  replace hbw := below6 hbw hb1
  clear hb1 c0 c1 c2
  have c0 : wc.cell? ⟨w.heap.size, 0, none⟩ = some (.bool false) := o0.cell 0
  have c1 : wc.cell? ⟨w.heap.size, 1, none⟩ = some (.string s) := o0.cell 1
  have c2 : wc.cell? ⟨w.heap.size, 2, none⟩ = some (.string t) := o0.cell 2
  go_wp2_with fail
  exact bodyPost_ret (v := .tuple #[.int .i64 0, .bool false, .int .i64 1]) (by simp [results, Try.results18, go_sem]) rfl ⟨rfl, hbw⟩
set_option maxRecDepth 100000 in
set_option maxHeartbeats 1000000 in
theorem log_no4 (neg : Bool) (s t : ByteArray) (k : Int) (h1 : RetV 42 #[.agg #[.bool neg, .string s, .string t]] (.bool true)) (hn : neg = false) (hs : (s.toList == [48]) = false) (hk : k < 0) : RetV 15 #[.agg #[.bool neg, .string s, .string t], .int .i64 k] (.tuple #[.int .i64 0, .bool false, .int .i64 1]) := by
  intro w
  subst hn
  have d1 : decide (k < 0) = true := decide_eq_true hk
  have H1 := Lib.hid h1
  clear h1
  obtain ⟨o0, o1, o2, o3, hbw⟩ := new4 w [.bool false, .string s, .string t] [.int .i64 0] [.bool false] [.int .i64 0] 26 3 4 29
  have hmf : ∀ (fn : Fn) (first cap : Array Value) (w : World), (Instr.makeFunc fn first cap).run Try.prog w = .ok (.func fn first cap) w := fun _ _ _ _ => rfl
  go_enter_defers Try.func15, Try.ntmps15
  go_upto_region 1 with (fail)
  generalize ((((w.alloc (.cells #[.bool false, .string s, .string t] 26)).alloc (.cells #[.int .i64 0] 3)).alloc (.cells #[.bool false] 4)).alloc (.cells #[.int .i64 0] 29)) = wb at o0 o1 o2 o3 hbw ⊢
  have c0 : wb.cell? ⟨w.heap.size, 0, none⟩ = some (.bool false) := o0.cell 0
  have c1 : wb.cell? ⟨w.heap.size, 1, none⟩ = some (.string s) := o0.cell 1
  have c2 : wb.cell? ⟨w.heap.size, 2, none⟩ = some (.string t) := o0.cell 2
  go_wp2_with fail
  refine (H1.out _).mono ?_
  rintro e wc ⟨rfl, hb1⟩
  replace o0 := o0.below hb1 o0.lt
  replace o1 := o1.below hb1 o1.lt
  replace o2 := o2.below hb1 o2.lt
  replace o3 := o3.below hb1 o3.lt
  replace hbw := below6 hbw hb1
  clear hb1 c0 c1 c2
  have c0 : wc.cell? ⟨w.heap.size, 0, none⟩ = some (.bool false) := o0.cell 0
  have c1 : wc.cell? ⟨w.heap.size, 1, none⟩ = some (.string s) := o0.cell 1
  have c2 : wc.cell? ⟨w.heap.size, 2, none⟩ = some (.string t) := o0.cell 2
  have z1 : wc.cell? ⟨w.heap.size + 1, 0, none⟩ = some (.int .i64 0) := o1.cell 0
  have z2 : wc.cell? ⟨w.heap.size + 1 + 1, 0, none⟩ = some (.bool false) := o2.cell 0
  have z3 : wc.cell? ⟨w.heap.size + 1 + 1 + 1, 0, none⟩ = some (.int .i64 0) := o3.cell 0
  have f1 := o1.frozen 0
  have f2 := o2.frozen 0
  have f3 := o3.frozen 0
  go_wp2_with fail
  replace o1 := o1.set_ 0 (.int .i64 0)
  replace o2 := o2.far (p := ⟨w.heap.size + 1, 0, none⟩) (by intro e; have e2 : w.heap.size + 1 + 1 = w.heap.size + 1 := e; omega) (.int .i64 0)
  replace o3 := o3.far (p := ⟨w.heap.size + 1, 0, none⟩) (by intro e; have e2 : w.heap.size + 1 + 1 + 1 = w.heap.size + 1 := e; omega) (.int .i64 0)
  replace hbw := hbw.setCell (p := ⟨w.heap.size + 1, 0, none⟩) (show w.heap.size ≤ w.heap.size + 1 by omega) (.int .i64 0)
  replace o1 := o1.far (p := ⟨w.heap.size + 1 + 1, 0, none⟩) (by intro e; have e2 : w.heap.size + 1 = w.heap.size + 1 + 1 := e; omega) (.bool false)
  replace o2 := o2.set_ 0 (.bool false)
  replace o3 := o3.far (p := ⟨w.heap.size + 1 + 1, 0, none⟩) (by intro e; have e2 : w.heap.size + 1 + 1 + 1 = w.heap.size + 1 + 1 := e; omega) (.bool false)
  replace hbw := hbw.setCell (p := ⟨w.heap.size + 1 + 1, 0, none⟩) (show w.heap.size ≤ w.heap.size + 1 + 1 by omega) (.bool false)
  replace o1 := o1.far (p := ⟨w.heap.size + 1 + 1 + 1, 0, none⟩) (by intro e; have e2 : w.heap.size + 1 = w.heap.size + 1 + 1 + 1 := e; omega) (.int .i64 1)
  replace o2 := o2.far (p := ⟨w.heap.size + 1 + 1 + 1, 0, none⟩) (by intro e; have e2 : w.heap.size + 1 + 1 = w.heap.size + 1 + 1 + 1 := e; omega) (.int .i64 1)
  replace o3 := o3.set_ 0 (.int .i64 1)
  replace hbw := hbw.setCell (p := ⟨w.heap.size + 1 + 1 + 1, 0, none⟩) (show w.heap.size ≤ w.heap.size + 1 + 1 + 1 by omega) (.int .i64 1)
  generalize (((wc.setCell ⟨w.heap.size + 1, 0, none⟩ (.int .i64 0)).setCell ⟨w.heap.size + 1 + 1, 0, none⟩ (.bool false)).setCell ⟨w.heap.size + 1 + 1 + 1, 0, none⟩ (.int .i64 1)) = wz at o1 o2 o3 hbw ⊢
  have y1 : wz.cell? ⟨w.heap.size + 1, 0, none⟩ = some (.int .i64 0) := o1.cell 0
  have y2 : wz.cell? ⟨w.heap.size + 1 + 1, 0, none⟩ = some (.bool false) := o2.cell 0
  have y3 : wz.cell? ⟨w.heap.size + 1 + 1 + 1, 0, none⟩ = some (.int .i64 1) := o3.cell 0
  simp [bodyPostD, Leaves, settle, results, Try.results15, go_sem, y1, y2, y3]
  exact hbw
set_option maxRecDepth 100000 in
theorem logr_no5 (neg : Bool) (s t : ByteArray) (k : Int) (h1 : RetV 47 #[.agg #[.bool neg, .string s, .string t]] (.bool true)) (hn : neg = false) (hs : (s.toList == [48]) = false) (hk : 8 < k) : RetV 18 #[.agg #[.bool neg, .string s, .string t], .int .i64 k] (.tuple #[.int .i64 0, .bool false, .int .i64 1]) := by
  intro w
  subst hn
  have d1 : decide (k < 0) = false := decide_eq_false (by omega)
  have d2 : decide (8 < k) = true := decide_eq_true hk
  have H1 := Lib.hid h1
  clear h1
  obtain ⟨o0, hbw⟩ := new1 w [.bool false, .string s, .string t] 26
  go_enter Try.func18, Try.ntmps18
  go_upto_region 1 with (fail)
  generalize (w.alloc (.cells #[.bool false, .string s, .string t] 26)) = wb at o0 hbw ⊢
  have c0 : wb.cell? ⟨w.heap.size, 0, none⟩ = some (.bool false) := o0.cell 0
  have c1 : wb.cell? ⟨w.heap.size, 1, none⟩ = some (.string s) := o0.cell 1
  have c2 : wb.cell? ⟨w.heap.size, 2, none⟩ = some (.string t) := o0.cell 2
  go_wp2_with fail
  refine (H1.out _).mono ?_
  rintro e wc ⟨rfl, hb1⟩
  replace o0 := o0.below hb1 o0.lt
  replace hbw := below6 hbw hb1
  clear hb1 c0 c1 c2
  have c0 : wc.cell? ⟨w.heap.size, 0, none⟩ = some (.bool false) := o0.cell 0
  have c1 : wc.cell? ⟨w.heap.size, 1, none⟩ = some (.string s) := o0.cell 1
  have c2 : wc.cell? ⟨w.heap.size, 2, none⟩ = some (.string t) := o0.cell 2
  go_wp2_with fail
  exact bodyPost_ret (v := .tuple #[.int .i64 0, .bool false, .int .i64 1]) (by simp [results, Try.results18, go_sem]) rfl ⟨rfl, hbw⟩
set_option maxRecDepth 100000 in
set_option maxHeartbeats 1000000 in
theorem log_no5 (neg : Bool) (s t : ByteArray) (k : Int) (h1 : RetV 42 #[.agg #[.bool neg, .string s, .string t]] (.bool true)) (hn : neg = false) (hs : (s.toList == [48]) = false) (hk : 8 < k) : RetV 15 #[.agg #[.bool neg, .string s, .string t], .int .i64 k] (.tuple #[.int .i64 0, .bool false, .int .i64 1]) := by
  intro w
  subst hn
  have d1 : decide (k < 0) = false := decide_eq_false (by omega)
  have d2 : decide (8 < k) = true := decide_eq_true hk
  have H1 := Lib.hid h1
  clear h1
  obtain ⟨o0, o1, o2, o3, hbw⟩ := new4 w [.bool false, .string s, .string t] [.int .i64 0] [.bool false] [.int .i64 0] 26 3 4 29
  have hmf : ∀ (fn : Fn) (first cap : Array Value) (w : World), (Instr.makeFunc fn first cap).run Try.prog w = .ok (.func fn first cap) w := fun _ _ _ _ => rfl
  go_enter_defers Try.func15, Try.ntmps15
  go_upto_region 1 with (fail)
  generalize ((((w.alloc (.cells #[.bool false, .string s, .string t] 26)).alloc (.cells #[.int .i64 0] 3)).alloc (.cells #[.bool false] 4)).alloc (.cells #[.int .i64 0] 29)) = wb at o0 o1 o2 o3 hbw ⊢
  have c0 : wb.cell? ⟨w.heap.size, 0, none⟩ = some (.bool false) := o0.cell 0
  have c1 : wb.cell? ⟨w.heap.size, 1, none⟩ = some (.string s) := o0.cell 1
  have c2 : wb.cell? ⟨w.heap.size, 2, none⟩ = some (.string t) := o0.cell 2
  go_wp2_with fail
  refine (H1.out _).mono ?_
  rintro e wc ⟨rfl, hb1⟩
  replace o0 := o0.below hb1 o0.lt
  replace o1 := o1.below hb1 o1.lt
  replace o2 := o2.below hb1 o2.lt
  replace o3 := o3.below hb1 o3.lt
  replace hbw := below6 hbw hb1
  clear hb1 c0 c1 c2
  have c0 : wc.cell? ⟨w.heap.size, 0, none⟩ = some (.bool false) := o0.cell 0
  have c1 : wc.cell? ⟨w.heap.size, 1, none⟩ = some (.string s) := o0.cell 1
  have c2 : wc.cell? ⟨w.heap.size, 2, none⟩ = some (.string t) := o0.cell 2
  have z1 : wc.cell? ⟨w.heap.size + 1, 0, none⟩ = some (.int .i64 0) := o1.cell 0
  have z2 : wc.cell? ⟨w.heap.size + 1 + 1, 0, none⟩ = some (.bool false) := o2.cell 0
  have z3 : wc.cell? ⟨w.heap.size + 1 + 1 + 1, 0, none⟩ = some (.int .i64 0) := o3.cell 0
  have f1 := o1.frozen 0
  have f2 := o2.frozen 0
  have f3 := o3.frozen 0
  go_wp2_with fail
  replace o1 := o1.set_ 0 (.int .i64 0)
  replace o2 := o2.far (p := ⟨w.heap.size + 1, 0, none⟩) (by intro e; have e2 : w.heap.size + 1 + 1 = w.heap.size + 1 := e; omega) (.int .i64 0)
  replace o3 := o3.far (p := ⟨w.heap.size + 1, 0, none⟩) (by intro e; have e2 : w.heap.size + 1 + 1 + 1 = w.heap.size + 1 := e; omega) (.int .i64 0)
  replace hbw := hbw.setCell (p := ⟨w.heap.size + 1, 0, none⟩) (show w.heap.size ≤ w.heap.size + 1 by omega) (.int .i64 0)
  replace o1 := o1.far (p := ⟨w.heap.size + 1 + 1, 0, none⟩) (by intro e; have e2 : w.heap.size + 1 = w.heap.size + 1 + 1 := e; omega) (.bool false)
  replace o2 := o2.set_ 0 (.bool false)
  replace o3 := o3.far (p := ⟨w.heap.size + 1 + 1, 0, none⟩) (by intro e; have e2 : w.heap.size + 1 + 1 + 1 = w.heap.size + 1 + 1 := e; omega) (.bool false)
  replace hbw := hbw.setCell (p := ⟨w.heap.size + 1 + 1, 0, none⟩) (show w.heap.size ≤ w.heap.size + 1 + 1 by omega) (.bool false)
  replace o1 := o1.far (p := ⟨w.heap.size + 1 + 1 + 1, 0, none⟩) (by intro e; have e2 : w.heap.size + 1 = w.heap.size + 1 + 1 + 1 := e; omega) (.int .i64 1)
  replace o2 := o2.far (p := ⟨w.heap.size + 1 + 1 + 1, 0, none⟩) (by intro e; have e2 : w.heap.size + 1 + 1 = w.heap.size + 1 + 1 + 1 := e; omega) (.int .i64 1)
  replace o3 := o3.set_ 0 (.int .i64 1)
  replace hbw := hbw.setCell (p := ⟨w.heap.size + 1 + 1 + 1, 0, none⟩) (show w.heap.size ≤ w.heap.size + 1 + 1 + 1 by omega) (.int .i64 1)
  generalize (((wc.setCell ⟨w.heap.size + 1, 0, none⟩ (.int .i64 0)).setCell ⟨w.heap.size + 1 + 1, 0, none⟩ (.bool false)).setCell ⟨w.heap.size + 1 + 1 + 1, 0, none⟩ (.int .i64 1)) = wz at o1 o2 o3 hbw ⊢
  have y1 : wz.cell? ⟨w.heap.size + 1, 0, none⟩ = some (.int .i64 0) := o1.cell 0
  have y2 : wz.cell? ⟨w.heap.size + 1 + 1, 0, none⟩ = some (.bool false) := o2.cell 0
  have y3 : wz.cell? ⟨w.heap.size + 1 + 1 + 1, 0, none⟩ = some (.int .i64 1) := o3.cell 0
  simp [bodyPostD, Leaves, settle, results, Try.results15, go_sem, y1, y2, y3]
  exact hbw
end Go.Proofs.Ytdjkgjpehneejaa
