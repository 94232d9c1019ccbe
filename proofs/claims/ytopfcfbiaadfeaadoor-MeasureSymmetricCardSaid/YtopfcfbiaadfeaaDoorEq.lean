/- The program's Add and Scale of intervals. -/
import Derived.Test.YtopfcfbiaadfeaaDoorLk
namespace Go.Proofs.YtopfcfbiaadfeaaDoor
set_option linter.unusedSimpArgs false
set_option linter.unusedVariables false
set_option linter.unusedSectionVars false
open Go.RowKit Dg

set_option maxRecDepth 100000 in
set_option maxHeartbeats 4000000 in
theorem eadd_core (na : Bool) (sa ta : ByteArray) (nb : Bool) (sb tb : ByteArray) (nc : Bool) (sc tc : ByteArray) (nd : Bool) (sd td : ByteArray) (nu : Bool) (su tu : ByteArray) (nv : Bool) (sv tv : ByteArray) (h1 : RetV 40 #[.agg #[.bool na, .string sa, .string ta, .bool nb, .string sb, .string tb]] (.bool true)) (h2 : RetV 40 #[.agg #[.bool nc, .string sc, .string tc, .bool nd, .string sd, .string td]] (.bool true))
    (h3 : RetV 56 #[.agg #[.bool na, .string sa, .string ta], .agg #[.bool nc, .string sc, .string tc]] (.tuple #[.agg #[.bool nu, .string su, .string tu], .int .i64 0])) (h4 : RetV 56 #[.agg #[.bool nb, .string sb, .string tb], .agg #[.bool nd, .string sd, .string td]] (.tuple #[.agg #[.bool nv, .string sv, .string tv], .int .i64 0])) :
    RetV 32 #[.agg #[.bool na, .string sa, .string ta, .bool nb, .string sb, .string tb], .agg #[.bool nc, .string sc, .string tc, .bool nd, .string sd, .string td]] (.tuple #[.agg #[.bool nu, .string su, .string tu, .bool nv, .string sv, .string tv], .int .i64 0]) := by
  intro w
  have H1 := Lib.hid h1
  have H2 := Lib.hid h2
  have H3 := Lib.hid h3
  have H4 := Lib.hid h4
  have H5 := Lib.hid (ends_0 nu su tu nv sv tv)
  clear h1 h2 h3 h4
  obtain ⟨o_i, o_j, o_r, hbw⟩ := new3 w [.bool na, .string sa, .string ta, .bool nb, .string sb, .string tb] [.bool nc, .string sc, .string tc, .bool nd, .string sd, .string td] [.bool false, .string ⟨#[]⟩, .string ⟨#[]⟩, .bool false, .string ⟨#[]⟩, .string ⟨#[]⟩] 37 37 37
  go_enter Tryd.func32, Tryd.ntmps32
  go_upto_region 1 with (fail)
  generalize (((w.alloc (.cells #[.bool na, .string sa, .string ta, .bool nb, .string sb, .string tb] 37)).alloc (.cells #[.bool nc, .string sc, .string tc, .bool nd, .string sd, .string td] 37)).alloc (.cells #[.bool false, .string ⟨#[]⟩, .string ⟨#[]⟩, .bool false, .string ⟨#[]⟩, .string ⟨#[]⟩] 37)) = wb at o_i o_j o_r hbw ⊢
  have qi_0 : wb.cell? ⟨w.heap.size, 0, none⟩ = some (.bool na) := o_i.cell 0
  have qi_1 : wb.cell? ⟨w.heap.size, 1, none⟩ = some (.string sa) := o_i.cell 1
  have qi_2 : wb.cell? ⟨w.heap.size, 2, none⟩ = some (.string ta) := o_i.cell 2
  have qi_3 : wb.cell? ⟨w.heap.size, 3, none⟩ = some (.bool nb) := o_i.cell 3
  have qi_4 : wb.cell? ⟨w.heap.size, 4, none⟩ = some (.string sb) := o_i.cell 4
  have qi_5 : wb.cell? ⟨w.heap.size, 5, none⟩ = some (.string tb) := o_i.cell 5
  have qj_0 : wb.cell? ⟨w.heap.size + 1, 0, none⟩ = some (.bool nc) := o_j.cell 0
  have qj_1 : wb.cell? ⟨w.heap.size + 1, 1, none⟩ = some (.string sc) := o_j.cell 1
  have qj_2 : wb.cell? ⟨w.heap.size + 1, 2, none⟩ = some (.string tc) := o_j.cell 2
  have qj_3 : wb.cell? ⟨w.heap.size + 1, 3, none⟩ = some (.bool nd) := o_j.cell 3
  have qj_4 : wb.cell? ⟨w.heap.size + 1, 4, none⟩ = some (.string sd) := o_j.cell 4
  have qj_5 : wb.cell? ⟨w.heap.size + 1, 5, none⟩ = some (.string td) := o_j.cell 5
  go_wp2_with fail
  clear qi_0 qi_1 qi_2 qi_3 qi_4 qi_5 qj_0 qj_1 qj_2 qj_3 qj_4 qj_5
  refine (H1.out _).mono ?_
  rintro e w1 ⟨rfl, hb1⟩
  replace o_i := o_i.below hb1 o_i.lt
  replace o_j := o_j.below hb1 o_j.lt
  replace o_r := o_r.below hb1 o_r.lt
  replace hbw := below6 hbw hb1
  clear hb1
  have qi_0 : w1.cell? ⟨w.heap.size, 0, none⟩ = some (.bool na) := o_i.cell 0
  have qi_1 : w1.cell? ⟨w.heap.size, 1, none⟩ = some (.string sa) := o_i.cell 1
  have qi_2 : w1.cell? ⟨w.heap.size, 2, none⟩ = some (.string ta) := o_i.cell 2
  have qi_3 : w1.cell? ⟨w.heap.size, 3, none⟩ = some (.bool nb) := o_i.cell 3
  have qi_4 : w1.cell? ⟨w.heap.size, 4, none⟩ = some (.string sb) := o_i.cell 4
  have qi_5 : w1.cell? ⟨w.heap.size, 5, none⟩ = some (.string tb) := o_i.cell 5
  have qj_0 : w1.cell? ⟨w.heap.size + 1, 0, none⟩ = some (.bool nc) := o_j.cell 0
  have qj_1 : w1.cell? ⟨w.heap.size + 1, 1, none⟩ = some (.string sc) := o_j.cell 1
  have qj_2 : w1.cell? ⟨w.heap.size + 1, 2, none⟩ = some (.string tc) := o_j.cell 2
  have qj_3 : w1.cell? ⟨w.heap.size + 1, 3, none⟩ = some (.bool nd) := o_j.cell 3
  have qj_4 : w1.cell? ⟨w.heap.size + 1, 4, none⟩ = some (.string sd) := o_j.cell 4
  have qj_5 : w1.cell? ⟨w.heap.size + 1, 5, none⟩ = some (.string td) := o_j.cell 5
  go_wp2_with fail
  clear qi_0 qi_1 qi_2 qi_3 qi_4 qi_5 qj_0 qj_1 qj_2 qj_3 qj_4 qj_5
  refine (H2.out _).mono ?_
  rintro e w2 ⟨rfl, hb2⟩
  replace o_i := o_i.below hb2 o_i.lt
  replace o_j := o_j.below hb2 o_j.lt
  replace o_r := o_r.below hb2 o_r.lt
  replace hbw := below6 hbw hb2
  clear hb2
  have qi_0 : w2.cell? ⟨w.heap.size, 0, none⟩ = some (.bool na) := o_i.cell 0
  have qi_1 : w2.cell? ⟨w.heap.size, 1, none⟩ = some (.string sa) := o_i.cell 1
  have qi_2 : w2.cell? ⟨w.heap.size, 2, none⟩ = some (.string ta) := o_i.cell 2
  have qi_3 : w2.cell? ⟨w.heap.size, 3, none⟩ = some (.bool nb) := o_i.cell 3
  have qi_4 : w2.cell? ⟨w.heap.size, 4, none⟩ = some (.string sb) := o_i.cell 4
  have qi_5 : w2.cell? ⟨w.heap.size, 5, none⟩ = some (.string tb) := o_i.cell 5
  have qj_0 : w2.cell? ⟨w.heap.size + 1, 0, none⟩ = some (.bool nc) := o_j.cell 0
  have qj_1 : w2.cell? ⟨w.heap.size + 1, 1, none⟩ = some (.string sc) := o_j.cell 1
  have qj_2 : w2.cell? ⟨w.heap.size + 1, 2, none⟩ = some (.string tc) := o_j.cell 2
  have qj_3 : w2.cell? ⟨w.heap.size + 1, 3, none⟩ = some (.bool nd) := o_j.cell 3
  have qj_4 : w2.cell? ⟨w.heap.size + 1, 4, none⟩ = some (.string sd) := o_j.cell 4
  have qj_5 : w2.cell? ⟨w.heap.size + 1, 5, none⟩ = some (.string td) := o_j.cell 5
  go_wp2_with fail
  clear qi_0 qi_1 qi_2 qi_3 qi_4 qi_5 qj_0 qj_1 qj_2 qj_3 qj_4 qj_5
  refine (H3.out _).mono ?_
  rintro e w3 ⟨rfl, hb3⟩
  replace o_i := o_i.below hb3 o_i.lt
  replace o_j := o_j.below hb3 o_j.lt
  replace o_r := o_r.below hb3 o_r.lt
  replace hbw := below6 hbw hb3
  clear hb3
  obtain ⟨o_u, hz4⟩ := new1 w3 [.bool nu, .string su, .string tu] 29
  replace o_i := o_i.alloc (.cells #[.bool nu, .string su, .string tu] 29)
  replace o_j := o_j.alloc (.cells #[.bool nu, .string su, .string tu] 29)
  replace o_r := o_r.alloc (.cells #[.bool nu, .string su, .string tu] 29)
  replace hbw := below6 hbw hz4
  clear hz4
  have qi_0 : (w3.alloc (.cells #[.bool nu, .string su, .string tu] 29)).cell? ⟨w.heap.size, 0, none⟩ = some (.bool na) := o_i.cell 0
  have qi_1 : (w3.alloc (.cells #[.bool nu, .string su, .string tu] 29)).cell? ⟨w.heap.size, 1, none⟩ = some (.string sa) := o_i.cell 1
  have qi_2 : (w3.alloc (.cells #[.bool nu, .string su, .string tu] 29)).cell? ⟨w.heap.size, 2, none⟩ = some (.string ta) := o_i.cell 2
  have qi_3 : (w3.alloc (.cells #[.bool nu, .string su, .string tu] 29)).cell? ⟨w.heap.size, 3, none⟩ = some (.bool nb) := o_i.cell 3
  have qi_4 : (w3.alloc (.cells #[.bool nu, .string su, .string tu] 29)).cell? ⟨w.heap.size, 4, none⟩ = some (.string sb) := o_i.cell 4
  have qi_5 : (w3.alloc (.cells #[.bool nu, .string su, .string tu] 29)).cell? ⟨w.heap.size, 5, none⟩ = some (.string tb) := o_i.cell 5
  have qj_0 : (w3.alloc (.cells #[.bool nu, .string su, .string tu] 29)).cell? ⟨w.heap.size + 1, 0, none⟩ = some (.bool nc) := o_j.cell 0
  have qj_1 : (w3.alloc (.cells #[.bool nu, .string su, .string tu] 29)).cell? ⟨w.heap.size + 1, 1, none⟩ = some (.string sc) := o_j.cell 1
  have qj_2 : (w3.alloc (.cells #[.bool nu, .string su, .string tu] 29)).cell? ⟨w.heap.size + 1, 2, none⟩ = some (.string tc) := o_j.cell 2
  have qj_3 : (w3.alloc (.cells #[.bool nu, .string su, .string tu] 29)).cell? ⟨w.heap.size + 1, 3, none⟩ = some (.bool nd) := o_j.cell 3
  have qj_4 : (w3.alloc (.cells #[.bool nu, .string su, .string tu] 29)).cell? ⟨w.heap.size + 1, 4, none⟩ = some (.string sd) := o_j.cell 4
  have qj_5 : (w3.alloc (.cells #[.bool nu, .string su, .string tu] 29)).cell? ⟨w.heap.size + 1, 5, none⟩ = some (.string td) := o_j.cell 5
  go_wp2_with fail
  generalize (w3.alloc (.cells #[.bool nu, .string su, .string tu] 29)) = wa5 at o_i o_j o_r o_u hbw ⊢
  generalize w3.heap.size = g5 at o_u ⊢
  clear qi_0 qi_1 qi_2 qi_3 qi_4 qi_5 qj_0 qj_1 qj_2 qj_3 qj_4 qj_5
  refine (H4.out _).mono ?_
  rintro e w6 ⟨rfl, hb6⟩
  replace o_i := o_i.below hb6 o_i.lt
  replace o_j := o_j.below hb6 o_j.lt
  replace o_r := o_r.below hb6 o_r.lt
  replace o_u := o_u.below hb6 o_u.lt
  replace hbw := below6 hbw hb6
  clear hb6
  obtain ⟨o_v, hz7⟩ := new1 w6 [.bool nv, .string sv, .string tv] 29
  replace o_i := o_i.alloc (.cells #[.bool nv, .string sv, .string tv] 29)
  replace o_j := o_j.alloc (.cells #[.bool nv, .string sv, .string tv] 29)
  replace o_r := o_r.alloc (.cells #[.bool nv, .string sv, .string tv] 29)
  replace o_u := o_u.alloc (.cells #[.bool nv, .string sv, .string tv] 29)
  replace hbw := below6 hbw hz7
  clear hz7
  have qu_0 : (w6.alloc (.cells #[.bool nv, .string sv, .string tv] 29)).cell? ⟨g5, 0, none⟩ = some (.bool nu) := o_u.cell 0
  have qu_1 : (w6.alloc (.cells #[.bool nv, .string sv, .string tv] 29)).cell? ⟨g5, 1, none⟩ = some (.string su) := o_u.cell 1
  have qu_2 : (w6.alloc (.cells #[.bool nv, .string sv, .string tv] 29)).cell? ⟨g5, 2, none⟩ = some (.string tu) := o_u.cell 2
  have qv_0 : (w6.alloc (.cells #[.bool nv, .string sv, .string tv] 29)).cell? ⟨w6.heap.size, 0, none⟩ = some (.bool nv) := o_v.cell 0
  have qv_1 : (w6.alloc (.cells #[.bool nv, .string sv, .string tv] 29)).cell? ⟨w6.heap.size, 1, none⟩ = some (.string sv) := o_v.cell 1
  have qv_2 : (w6.alloc (.cells #[.bool nv, .string sv, .string tv] 29)).cell? ⟨w6.heap.size, 2, none⟩ = some (.string tv) := o_v.cell 2
  go_wp2_with fail
  generalize (w6.alloc (.cells #[.bool nv, .string sv, .string tv] 29)) = wa8 at o_i o_j o_r o_u o_v hbw ⊢
  generalize w6.heap.size = g8 at o_v ⊢
  clear qu_0 qu_1 qu_2 qv_0 qv_1 qv_2
  refine (H5.out _).mono ?_
  rintro e w9 ⟨rfl, hb9⟩
  replace o_i := o_i.below hb9 o_i.lt
  replace o_j := o_j.below hb9 o_j.lt
  replace o_r := o_r.below hb9 o_r.lt
  replace o_u := o_u.below hb9 o_u.lt
  replace o_v := o_v.below hb9 o_v.lt
  replace hbw := below6 hbw hb9
  clear hb9
  have qr_0 : w9.cell? ⟨w.heap.size + 1 + 1, 0, none⟩ = some (.bool false) := o_r.cell 0
  have qr_1 : w9.cell? ⟨w.heap.size + 1 + 1, 1, none⟩ = some (.string ⟨#[]⟩) := o_r.cell 1
  have qr_2 : w9.cell? ⟨w.heap.size + 1 + 1, 2, none⟩ = some (.string ⟨#[]⟩) := o_r.cell 2
  have qr_3 : w9.cell? ⟨w.heap.size + 1 + 1, 3, none⟩ = some (.bool false) := o_r.cell 3
  have qr_4 : w9.cell? ⟨w.heap.size + 1 + 1, 4, none⟩ = some (.string ⟨#[]⟩) := o_r.cell 4
  have qr_5 : w9.cell? ⟨w.heap.size + 1 + 1, 5, none⟩ = some (.string ⟨#[]⟩) := o_r.cell 5
  have fr_0 := o_r.frozen 0
  have fr_1 := o_r.frozen 1
  have fr_2 := o_r.frozen 2
  have fr_3 := o_r.frozen 3
  have fr_4 := o_r.frozen 4
  have fr_5 := o_r.frozen 5
  have oz := o_r.set6 (.bool nu) (.string su) (.string tu) (.bool nv) (.string sv) (.string tv)
  have sz9 := Below.set6 hbw (g := w.heap.size + 1 + 1) (by omega) (.bool nu) (.string su) (.string tu) (.bool nv) (.string sv) (.string tv)
  go_wp2_with fail
  generalize ((((((w9.setCell ⟨w.heap.size + 1 + 1, 0, none⟩ (.bool nu)).setCell ⟨w.heap.size + 1 + 1, 1, none⟩ (.string su)).setCell ⟨w.heap.size + 1 + 1, 2, none⟩ (.string tu)).setCell ⟨w.heap.size + 1 + 1, 3, none⟩ (.bool nv)).setCell ⟨w.heap.size + 1 + 1, 4, none⟩ (.string sv)).setCell ⟨w.heap.size + 1 + 1, 5, none⟩ (.string tv)) = wz at oz sz9 ⊢
  have z0 : wz.cell? ⟨w.heap.size + 1 + 1, 0, none⟩ = some (.bool nu) := oz.cell 0
  have z1 : wz.cell? ⟨w.heap.size + 1 + 1, 1, none⟩ = some (.string su) := oz.cell 1
  have z2 : wz.cell? ⟨w.heap.size + 1 + 1, 2, none⟩ = some (.string tu) := oz.cell 2
  have z3 : wz.cell? ⟨w.heap.size + 1 + 1, 3, none⟩ = some (.bool nv) := oz.cell 3
  have z4 : wz.cell? ⟨w.heap.size + 1 + 1, 4, none⟩ = some (.string sv) := oz.cell 4
  have z5 : wz.cell? ⟨w.heap.size + 1 + 1, 5, none⟩ = some (.string tv) := oz.cell 5
  exact bodyPost_ret (v := .tuple #[.agg #[.bool nu, .string su, .string tu, .bool nv, .string sv, .string tv], .int .i64 0]) (by simp [results, Tryd.results32, go_sem, z0, z1, z2, z3, z4, z5]) rfl ⟨rfl, sz9⟩
set_option maxRecDepth 100000 in
set_option maxHeartbeats 4000000 in
theorem eadd_no1 (na : Bool) (sa ta : ByteArray) (nb : Bool) (sb tb : ByteArray) (nc : Bool) (sc tc : ByteArray) (nd : Bool) (sd td : ByteArray) (h1 : RetV 40 #[.agg #[.bool na, .string sa, .string ta, .bool nb, .string sb, .string tb]] (.bool false))  :
    RetV 32 #[.agg #[.bool na, .string sa, .string ta, .bool nb, .string sb, .string tb], .agg #[.bool nc, .string sc, .string tc, .bool nd, .string sd, .string td]] (.tuple #[.agg #[.bool false, .string ⟨#[]⟩, .string ⟨#[]⟩, .bool false, .string ⟨#[]⟩, .string ⟨#[]⟩], .int .i64 1]) := by
  intro w
  have H1 := Lib.hid h1
  clear h1
  obtain ⟨o_i, o_j, o_r, hbw⟩ := new3 w [.bool na, .string sa, .string ta, .bool nb, .string sb, .string tb] [.bool nc, .string sc, .string tc, .bool nd, .string sd, .string td] [.bool false, .string ⟨#[]⟩, .string ⟨#[]⟩, .bool false, .string ⟨#[]⟩, .string ⟨#[]⟩] 37 37 37
  go_enter Tryd.func32, Tryd.ntmps32
  go_upto_region 1 with (fail)
  generalize (((w.alloc (.cells #[.bool na, .string sa, .string ta, .bool nb, .string sb, .string tb] 37)).alloc (.cells #[.bool nc, .string sc, .string tc, .bool nd, .string sd, .string td] 37)).alloc (.cells #[.bool false, .string ⟨#[]⟩, .string ⟨#[]⟩, .bool false, .string ⟨#[]⟩, .string ⟨#[]⟩] 37)) = wb at o_i o_j o_r hbw ⊢
  have qi_0 : wb.cell? ⟨w.heap.size, 0, none⟩ = some (.bool na) := o_i.cell 0
  have qi_1 : wb.cell? ⟨w.heap.size, 1, none⟩ = some (.string sa) := o_i.cell 1
  have qi_2 : wb.cell? ⟨w.heap.size, 2, none⟩ = some (.string ta) := o_i.cell 2
  have qi_3 : wb.cell? ⟨w.heap.size, 3, none⟩ = some (.bool nb) := o_i.cell 3
  have qi_4 : wb.cell? ⟨w.heap.size, 4, none⟩ = some (.string sb) := o_i.cell 4
  have qi_5 : wb.cell? ⟨w.heap.size, 5, none⟩ = some (.string tb) := o_i.cell 5
  have qj_0 : wb.cell? ⟨w.heap.size + 1, 0, none⟩ = some (.bool nc) := o_j.cell 0
  have qj_1 : wb.cell? ⟨w.heap.size + 1, 1, none⟩ = some (.string sc) := o_j.cell 1
  have qj_2 : wb.cell? ⟨w.heap.size + 1, 2, none⟩ = some (.string tc) := o_j.cell 2
  have qj_3 : wb.cell? ⟨w.heap.size + 1, 3, none⟩ = some (.bool nd) := o_j.cell 3
  have qj_4 : wb.cell? ⟨w.heap.size + 1, 4, none⟩ = some (.string sd) := o_j.cell 4
  have qj_5 : wb.cell? ⟨w.heap.size + 1, 5, none⟩ = some (.string td) := o_j.cell 5
  go_wp2_with fail
  clear qi_0 qi_1 qi_2 qi_3 qi_4 qi_5 qj_0 qj_1 qj_2 qj_3 qj_4 qj_5
  refine (H1.out _).mono ?_
  rintro e w1 ⟨rfl, hb1⟩
  replace o_i := o_i.below hb1 o_i.lt
  replace o_j := o_j.below hb1 o_j.lt
  replace o_r := o_r.below hb1 o_r.lt
  replace hbw := below6 hbw hb1
  clear hb1
  have qr_0 : w1.cell? ⟨w.heap.size + 1 + 1, 0, none⟩ = some (.bool false) := o_r.cell 0
  have qr_1 : w1.cell? ⟨w.heap.size + 1 + 1, 1, none⟩ = some (.string ⟨#[]⟩) := o_r.cell 1
  have qr_2 : w1.cell? ⟨w.heap.size + 1 + 1, 2, none⟩ = some (.string ⟨#[]⟩) := o_r.cell 2
  have qr_3 : w1.cell? ⟨w.heap.size + 1 + 1, 3, none⟩ = some (.bool false) := o_r.cell 3
  have qr_4 : w1.cell? ⟨w.heap.size + 1 + 1, 4, none⟩ = some (.string ⟨#[]⟩) := o_r.cell 4
  have qr_5 : w1.cell? ⟨w.heap.size + 1 + 1, 5, none⟩ = some (.string ⟨#[]⟩) := o_r.cell 5
  have fr_0 := o_r.frozen 0
  have fr_1 := o_r.frozen 1
  have fr_2 := o_r.frozen 2
  have fr_3 := o_r.frozen 3
  have fr_4 := o_r.frozen 4
  have fr_5 := o_r.frozen 5
  have oz := o_r.set6 (.bool false) (.string ⟨#[]⟩) (.string ⟨#[]⟩) (.bool false) (.string ⟨#[]⟩) (.string ⟨#[]⟩)
  have sz9 := Below.set6 hbw (g := w.heap.size + 1 + 1) (by omega) (.bool false) (.string ⟨#[]⟩) (.string ⟨#[]⟩) (.bool false) (.string ⟨#[]⟩) (.string ⟨#[]⟩)
  go_wp2_with fail
  generalize ((((((w1.setCell ⟨w.heap.size + 1 + 1, 0, none⟩ (.bool false)).setCell ⟨w.heap.size + 1 + 1, 1, none⟩ (.string ⟨#[]⟩)).setCell ⟨w.heap.size + 1 + 1, 2, none⟩ (.string ⟨#[]⟩)).setCell ⟨w.heap.size + 1 + 1, 3, none⟩ (.bool false)).setCell ⟨w.heap.size + 1 + 1, 4, none⟩ (.string ⟨#[]⟩)).setCell ⟨w.heap.size + 1 + 1, 5, none⟩ (.string ⟨#[]⟩)) = wz at oz sz9 ⊢
  have z0 : wz.cell? ⟨w.heap.size + 1 + 1, 0, none⟩ = some (.bool false) := oz.cell 0
  have z1 : wz.cell? ⟨w.heap.size + 1 + 1, 1, none⟩ = some (.string ⟨#[]⟩) := oz.cell 1
  have z2 : wz.cell? ⟨w.heap.size + 1 + 1, 2, none⟩ = some (.string ⟨#[]⟩) := oz.cell 2
  have z3 : wz.cell? ⟨w.heap.size + 1 + 1, 3, none⟩ = some (.bool false) := oz.cell 3
  have z4 : wz.cell? ⟨w.heap.size + 1 + 1, 4, none⟩ = some (.string ⟨#[]⟩) := oz.cell 4
  have z5 : wz.cell? ⟨w.heap.size + 1 + 1, 5, none⟩ = some (.string ⟨#[]⟩) := oz.cell 5
  exact bodyPost_ret (v := .tuple #[.agg #[.bool false, .string ⟨#[]⟩, .string ⟨#[]⟩, .bool false, .string ⟨#[]⟩, .string ⟨#[]⟩], .int .i64 1]) (by simp [results, Tryd.results32, go_sem, z0, z1, z2, z3, z4, z5]) rfl ⟨rfl, sz9⟩
set_option maxRecDepth 100000 in
set_option maxHeartbeats 4000000 in
theorem eadd_no2 (na : Bool) (sa ta : ByteArray) (nb : Bool) (sb tb : ByteArray) (nc : Bool) (sc tc : ByteArray) (nd : Bool) (sd td : ByteArray) (h1 : RetV 40 #[.agg #[.bool na, .string sa, .string ta, .bool nb, .string sb, .string tb]] (.bool true)) (h2 : RetV 40 #[.agg #[.bool nc, .string sc, .string tc, .bool nd, .string sd, .string td]] (.bool false)) :
    RetV 32 #[.agg #[.bool na, .string sa, .string ta, .bool nb, .string sb, .string tb], .agg #[.bool nc, .string sc, .string tc, .bool nd, .string sd, .string td]] (.tuple #[.agg #[.bool false, .string ⟨#[]⟩, .string ⟨#[]⟩, .bool false, .string ⟨#[]⟩, .string ⟨#[]⟩], .int .i64 1]) := by
  intro w
  have H1 := Lib.hid h1
  have H2 := Lib.hid h2
  clear h1 h2
  obtain ⟨o_i, o_j, o_r, hbw⟩ := new3 w [.bool na, .string sa, .string ta, .bool nb, .string sb, .string tb] [.bool nc, .string sc, .string tc, .bool nd, .string sd, .string td] [.bool false, .string ⟨#[]⟩, .string ⟨#[]⟩, .bool false, .string ⟨#[]⟩, .string ⟨#[]⟩] 37 37 37
  go_enter Tryd.func32, Tryd.ntmps32
  go_upto_region 1 with (fail)
  generalize (((w.alloc (.cells #[.bool na, .string sa, .string ta, .bool nb, .string sb, .string tb] 37)).alloc (.cells #[.bool nc, .string sc, .string tc, .bool nd, .string sd, .string td] 37)).alloc (.cells #[.bool false, .string ⟨#[]⟩, .string ⟨#[]⟩, .bool false, .string ⟨#[]⟩, .string ⟨#[]⟩] 37)) = wb at o_i o_j o_r hbw ⊢
  have qi_0 : wb.cell? ⟨w.heap.size, 0, none⟩ = some (.bool na) := o_i.cell 0
  have qi_1 : wb.cell? ⟨w.heap.size, 1, none⟩ = some (.string sa) := o_i.cell 1
  have qi_2 : wb.cell? ⟨w.heap.size, 2, none⟩ = some (.string ta) := o_i.cell 2
  have qi_3 : wb.cell? ⟨w.heap.size, 3, none⟩ = some (.bool nb) := o_i.cell 3
  have qi_4 : wb.cell? ⟨w.heap.size, 4, none⟩ = some (.string sb) := o_i.cell 4
  have qi_5 : wb.cell? ⟨w.heap.size, 5, none⟩ = some (.string tb) := o_i.cell 5
  have qj_0 : wb.cell? ⟨w.heap.size + 1, 0, none⟩ = some (.bool nc) := o_j.cell 0
  have qj_1 : wb.cell? ⟨w.heap.size + 1, 1, none⟩ = some (.string sc) := o_j.cell 1
  have qj_2 : wb.cell? ⟨w.heap.size + 1, 2, none⟩ = some (.string tc) := o_j.cell 2
  have qj_3 : wb.cell? ⟨w.heap.size + 1, 3, none⟩ = some (.bool nd) := o_j.cell 3
  have qj_4 : wb.cell? ⟨w.heap.size + 1, 4, none⟩ = some (.string sd) := o_j.cell 4
  have qj_5 : wb.cell? ⟨w.heap.size + 1, 5, none⟩ = some (.string td) := o_j.cell 5
  go_wp2_with fail
  clear qi_0 qi_1 qi_2 qi_3 qi_4 qi_5 qj_0 qj_1 qj_2 qj_3 qj_4 qj_5
  refine (H1.out _).mono ?_
  rintro e w1 ⟨rfl, hb1⟩
  replace o_i := o_i.below hb1 o_i.lt
  replace o_j := o_j.below hb1 o_j.lt
  replace o_r := o_r.below hb1 o_r.lt
  replace hbw := below6 hbw hb1
  clear hb1
  have qi_0 : w1.cell? ⟨w.heap.size, 0, none⟩ = some (.bool na) := o_i.cell 0
  have qi_1 : w1.cell? ⟨w.heap.size, 1, none⟩ = some (.string sa) := o_i.cell 1
  have qi_2 : w1.cell? ⟨w.heap.size, 2, none⟩ = some (.string ta) := o_i.cell 2
  have qi_3 : w1.cell? ⟨w.heap.size, 3, none⟩ = some (.bool nb) := o_i.cell 3
  have qi_4 : w1.cell? ⟨w.heap.size, 4, none⟩ = some (.string sb) := o_i.cell 4
  have qi_5 : w1.cell? ⟨w.heap.size, 5, none⟩ = some (.string tb) := o_i.cell 5
  have qj_0 : w1.cell? ⟨w.heap.size + 1, 0, none⟩ = some (.bool nc) := o_j.cell 0
  have qj_1 : w1.cell? ⟨w.heap.size + 1, 1, none⟩ = some (.string sc) := o_j.cell 1
  have qj_2 : w1.cell? ⟨w.heap.size + 1, 2, none⟩ = some (.string tc) := o_j.cell 2
  have qj_3 : w1.cell? ⟨w.heap.size + 1, 3, none⟩ = some (.bool nd) := o_j.cell 3
  have qj_4 : w1.cell? ⟨w.heap.size + 1, 4, none⟩ = some (.string sd) := o_j.cell 4
  have qj_5 : w1.cell? ⟨w.heap.size + 1, 5, none⟩ = some (.string td) := o_j.cell 5
  go_wp2_with fail
  clear qi_0 qi_1 qi_2 qi_3 qi_4 qi_5 qj_0 qj_1 qj_2 qj_3 qj_4 qj_5
  refine (H2.out _).mono ?_
  rintro e w2 ⟨rfl, hb2⟩
  replace o_i := o_i.below hb2 o_i.lt
  replace o_j := o_j.below hb2 o_j.lt
  replace o_r := o_r.below hb2 o_r.lt
  replace hbw := below6 hbw hb2
  clear hb2
  have qr_0 : w2.cell? ⟨w.heap.size + 1 + 1, 0, none⟩ = some (.bool false) := o_r.cell 0
  have qr_1 : w2.cell? ⟨w.heap.size + 1 + 1, 1, none⟩ = some (.string ⟨#[]⟩) := o_r.cell 1
  have qr_2 : w2.cell? ⟨w.heap.size + 1 + 1, 2, none⟩ = some (.string ⟨#[]⟩) := o_r.cell 2
  have qr_3 : w2.cell? ⟨w.heap.size + 1 + 1, 3, none⟩ = some (.bool false) := o_r.cell 3
  have qr_4 : w2.cell? ⟨w.heap.size + 1 + 1, 4, none⟩ = some (.string ⟨#[]⟩) := o_r.cell 4
  have qr_5 : w2.cell? ⟨w.heap.size + 1 + 1, 5, none⟩ = some (.string ⟨#[]⟩) := o_r.cell 5
  have fr_0 := o_r.frozen 0
  have fr_1 := o_r.frozen 1
  have fr_2 := o_r.frozen 2
  have fr_3 := o_r.frozen 3
  have fr_4 := o_r.frozen 4
  have fr_5 := o_r.frozen 5
  have oz := o_r.set6 (.bool false) (.string ⟨#[]⟩) (.string ⟨#[]⟩) (.bool false) (.string ⟨#[]⟩) (.string ⟨#[]⟩)
  have sz9 := Below.set6 hbw (g := w.heap.size + 1 + 1) (by omega) (.bool false) (.string ⟨#[]⟩) (.string ⟨#[]⟩) (.bool false) (.string ⟨#[]⟩) (.string ⟨#[]⟩)
  go_wp2_with fail
  generalize ((((((w2.setCell ⟨w.heap.size + 1 + 1, 0, none⟩ (.bool false)).setCell ⟨w.heap.size + 1 + 1, 1, none⟩ (.string ⟨#[]⟩)).setCell ⟨w.heap.size + 1 + 1, 2, none⟩ (.string ⟨#[]⟩)).setCell ⟨w.heap.size + 1 + 1, 3, none⟩ (.bool false)).setCell ⟨w.heap.size + 1 + 1, 4, none⟩ (.string ⟨#[]⟩)).setCell ⟨w.heap.size + 1 + 1, 5, none⟩ (.string ⟨#[]⟩)) = wz at oz sz9 ⊢
  have z0 : wz.cell? ⟨w.heap.size + 1 + 1, 0, none⟩ = some (.bool false) := oz.cell 0
  have z1 : wz.cell? ⟨w.heap.size + 1 + 1, 1, none⟩ = some (.string ⟨#[]⟩) := oz.cell 1
  have z2 : wz.cell? ⟨w.heap.size + 1 + 1, 2, none⟩ = some (.string ⟨#[]⟩) := oz.cell 2
  have z3 : wz.cell? ⟨w.heap.size + 1 + 1, 3, none⟩ = some (.bool false) := oz.cell 3
  have z4 : wz.cell? ⟨w.heap.size + 1 + 1, 4, none⟩ = some (.string ⟨#[]⟩) := oz.cell 4
  have z5 : wz.cell? ⟨w.heap.size + 1 + 1, 5, none⟩ = some (.string ⟨#[]⟩) := oz.cell 5
  exact bodyPost_ret (v := .tuple #[.agg #[.bool false, .string ⟨#[]⟩, .string ⟨#[]⟩, .bool false, .string ⟨#[]⟩, .string ⟨#[]⟩], .int .i64 1]) (by simp [results, Tryd.results32, go_sem, z0, z1, z2, z3, z4, z5]) rfl ⟨rfl, sz9⟩
theorem Own.set6' {w : World} {g : Nat} {t : TypeId} {a b c d e f : Value} (h : Own w g t [a, b, c, d, e, f]) (u v x y z q : Value) :
    Own ((((((w.setCell ⟨g, 0, none⟩ u).setCell ⟨g, 1, none⟩ v).setCell ⟨g, 2, none⟩ x).setCell ⟨g, 3, none⟩ y).setCell ⟨g, 4, none⟩ z).setCell ⟨g, 5, none⟩ q) g t [u, v, x, y, z, q] := h.set6 u v x y z q
set_option maxRecDepth 100000 in
set_option maxHeartbeats 4000000 in
theorem escale_pos (na : Bool) (sa ta : ByteArray) (nb : Bool) (sb tb : ByteArray) (nu : Bool) (su tu : ByteArray) (nv : Bool) (sv tv : ByteArray) (sx tx : ByteArray) (h1 : RetV 40 #[.agg #[.bool na, .string sa, .string ta, .bool nb, .string sb, .string tb]] (.bool true)) (h2 : RetV 41 #[.agg #[.bool false, .string sx, .string tx]] (.bool true))
    (h3 : RetV 62 #[.agg #[.bool na, .string sa, .string ta], .agg #[.bool false, .string sx, .string tx]] (.tuple #[.agg #[.bool nu, .string su, .string tu], .int .i64 0])) (h4 : RetV 62 #[.agg #[.bool nb, .string sb, .string tb], .agg #[.bool false, .string sx, .string tx]] (.tuple #[.agg #[.bool nv, .string sv, .string tv], .int .i64 0])) :
    RetV 39 #[.agg #[.bool na, .string sa, .string ta, .bool nb, .string sb, .string tb], .agg #[.bool false, .string sx, .string tx]] (.tuple #[.agg #[.bool nu, .string su, .string tu, .bool nv, .string sv, .string tv], .int .i64 0]) := by
  intro w
  have H1 := Lib.hid h1
  have H2 := Lib.hid h2
  have H3 := Lib.hid h3
  have H4 := Lib.hid h4
  have H5 := Lib.hid (ends_0 nu su tu nv sv tv)
  clear h1 h2 h3 h4
  obtain ⟨o_i, o_x, o_r, hbw⟩ := new3 w [.bool na, .string sa, .string ta, .bool nb, .string sb, .string tb] [.bool false, .string sx, .string tx] [.bool false, .string ⟨#[]⟩, .string ⟨#[]⟩, .bool false, .string ⟨#[]⟩, .string ⟨#[]⟩] 37 29 37
  go_enter Tryd.func39, Tryd.ntmps39
  go_upto_region 1 with (fail)
  generalize (((w.alloc (.cells #[.bool na, .string sa, .string ta, .bool nb, .string sb, .string tb] 37)).alloc (.cells #[.bool false, .string sx, .string tx] 29)).alloc (.cells #[.bool false, .string ⟨#[]⟩, .string ⟨#[]⟩, .bool false, .string ⟨#[]⟩, .string ⟨#[]⟩] 37)) = wb at o_i o_x o_r hbw ⊢
  have qi_0 : wb.cell? ⟨w.heap.size, 0, none⟩ = some (.bool na) := o_i.cell 0
  have qi_1 : wb.cell? ⟨w.heap.size, 1, none⟩ = some (.string sa) := o_i.cell 1
  have qi_2 : wb.cell? ⟨w.heap.size, 2, none⟩ = some (.string ta) := o_i.cell 2
  have qi_3 : wb.cell? ⟨w.heap.size, 3, none⟩ = some (.bool nb) := o_i.cell 3
  have qi_4 : wb.cell? ⟨w.heap.size, 4, none⟩ = some (.string sb) := o_i.cell 4
  have qi_5 : wb.cell? ⟨w.heap.size, 5, none⟩ = some (.string tb) := o_i.cell 5
  have qx_0 : wb.cell? ⟨w.heap.size + 1, 0, none⟩ = some (.bool false) := o_x.cell 0
  have qx_1 : wb.cell? ⟨w.heap.size + 1, 1, none⟩ = some (.string sx) := o_x.cell 1
  have qx_2 : wb.cell? ⟨w.heap.size + 1, 2, none⟩ = some (.string tx) := o_x.cell 2
  go_wp2_with fail
  clear qi_0 qi_1 qi_2 qi_3 qi_4 qi_5 qx_0 qx_1 qx_2
  refine (H1.out _).mono ?_
  rintro e w1 ⟨rfl, hb1⟩
  replace o_i := o_i.below hb1 o_i.lt
  replace o_x := o_x.below hb1 o_x.lt
  replace o_r := o_r.below hb1 o_r.lt
  replace hbw := below6 hbw hb1
  clear hb1
  have qi_0 : w1.cell? ⟨w.heap.size, 0, none⟩ = some (.bool na) := o_i.cell 0
  have qi_1 : w1.cell? ⟨w.heap.size, 1, none⟩ = some (.string sa) := o_i.cell 1
  have qi_2 : w1.cell? ⟨w.heap.size, 2, none⟩ = some (.string ta) := o_i.cell 2
  have qi_3 : w1.cell? ⟨w.heap.size, 3, none⟩ = some (.bool nb) := o_i.cell 3
  have qi_4 : w1.cell? ⟨w.heap.size, 4, none⟩ = some (.string sb) := o_i.cell 4
  have qi_5 : w1.cell? ⟨w.heap.size, 5, none⟩ = some (.string tb) := o_i.cell 5
  have qx_0 : w1.cell? ⟨w.heap.size + 1, 0, none⟩ = some (.bool false) := o_x.cell 0
  have qx_1 : w1.cell? ⟨w.heap.size + 1, 1, none⟩ = some (.string sx) := o_x.cell 1
  have qx_2 : w1.cell? ⟨w.heap.size + 1, 2, none⟩ = some (.string tx) := o_x.cell 2
  go_wp2_with fail
  clear qi_0 qi_1 qi_2 qi_3 qi_4 qi_5 qx_0 qx_1 qx_2
  refine (H2.out _).mono ?_
  rintro e w2 ⟨rfl, hb2⟩
  replace o_i := o_i.below hb2 o_i.lt
  replace o_x := o_x.below hb2 o_x.lt
  replace o_r := o_r.below hb2 o_r.lt
  replace hbw := below6 hbw hb2
  clear hb2
  have qi_0 : w2.cell? ⟨w.heap.size, 0, none⟩ = some (.bool na) := o_i.cell 0
  have qi_1 : w2.cell? ⟨w.heap.size, 1, none⟩ = some (.string sa) := o_i.cell 1
  have qi_2 : w2.cell? ⟨w.heap.size, 2, none⟩ = some (.string ta) := o_i.cell 2
  have qi_3 : w2.cell? ⟨w.heap.size, 3, none⟩ = some (.bool nb) := o_i.cell 3
  have qi_4 : w2.cell? ⟨w.heap.size, 4, none⟩ = some (.string sb) := o_i.cell 4
  have qi_5 : w2.cell? ⟨w.heap.size, 5, none⟩ = some (.string tb) := o_i.cell 5
  have qx_0 : w2.cell? ⟨w.heap.size + 1, 0, none⟩ = some (.bool false) := o_x.cell 0
  have qx_1 : w2.cell? ⟨w.heap.size + 1, 1, none⟩ = some (.string sx) := o_x.cell 1
  have qx_2 : w2.cell? ⟨w.heap.size + 1, 2, none⟩ = some (.string tx) := o_x.cell 2
  go_wp2_with fail
  clear qi_0 qi_1 qi_2 qi_3 qi_4 qi_5 qx_0 qx_1 qx_2
  refine (H3.out _).mono ?_
  rintro e w3 ⟨rfl, hb3⟩
  replace o_i := o_i.below hb3 o_i.lt
  replace o_x := o_x.below hb3 o_x.lt
  replace o_r := o_r.below hb3 o_r.lt
  replace hbw := below6 hbw hb3
  clear hb3
  obtain ⟨o_u, hz4⟩ := new1 w3 [.bool nu, .string su, .string tu] 29
  replace o_i := o_i.alloc (.cells #[.bool nu, .string su, .string tu] 29)
  replace o_x := o_x.alloc (.cells #[.bool nu, .string su, .string tu] 29)
  replace o_r := o_r.alloc (.cells #[.bool nu, .string su, .string tu] 29)
  replace hbw := below6 hbw hz4
  clear hz4
  have qi_0 : (w3.alloc (.cells #[.bool nu, .string su, .string tu] 29)).cell? ⟨w.heap.size, 0, none⟩ = some (.bool na) := o_i.cell 0
  have qi_1 : (w3.alloc (.cells #[.bool nu, .string su, .string tu] 29)).cell? ⟨w.heap.size, 1, none⟩ = some (.string sa) := o_i.cell 1
  have qi_2 : (w3.alloc (.cells #[.bool nu, .string su, .string tu] 29)).cell? ⟨w.heap.size, 2, none⟩ = some (.string ta) := o_i.cell 2
  have qi_3 : (w3.alloc (.cells #[.bool nu, .string su, .string tu] 29)).cell? ⟨w.heap.size, 3, none⟩ = some (.bool nb) := o_i.cell 3
  have qi_4 : (w3.alloc (.cells #[.bool nu, .string su, .string tu] 29)).cell? ⟨w.heap.size, 4, none⟩ = some (.string sb) := o_i.cell 4
  have qi_5 : (w3.alloc (.cells #[.bool nu, .string su, .string tu] 29)).cell? ⟨w.heap.size, 5, none⟩ = some (.string tb) := o_i.cell 5
  have qx_0 : (w3.alloc (.cells #[.bool nu, .string su, .string tu] 29)).cell? ⟨w.heap.size + 1, 0, none⟩ = some (.bool false) := o_x.cell 0
  have qx_1 : (w3.alloc (.cells #[.bool nu, .string su, .string tu] 29)).cell? ⟨w.heap.size + 1, 1, none⟩ = some (.string sx) := o_x.cell 1
  have qx_2 : (w3.alloc (.cells #[.bool nu, .string su, .string tu] 29)).cell? ⟨w.heap.size + 1, 2, none⟩ = some (.string tx) := o_x.cell 2
  go_wp2_with fail
  generalize (w3.alloc (.cells #[.bool nu, .string su, .string tu] 29)) = wa5 at o_i o_x o_r o_u hbw ⊢
  generalize w3.heap.size = g5 at o_u ⊢
  clear qi_0 qi_1 qi_2 qi_3 qi_4 qi_5 qx_0 qx_1 qx_2
  refine (H4.out _).mono ?_
  rintro e w6 ⟨rfl, hb6⟩
  replace o_i := o_i.below hb6 o_i.lt
  replace o_x := o_x.below hb6 o_x.lt
  replace o_r := o_r.below hb6 o_r.lt
  replace o_u := o_u.below hb6 o_u.lt
  replace hbw := below6 hbw hb6
  clear hb6
  obtain ⟨o_v, hz7⟩ := new1 w6 [.bool nv, .string sv, .string tv] 29
  replace o_i := o_i.alloc (.cells #[.bool nv, .string sv, .string tv] 29)
  replace o_x := o_x.alloc (.cells #[.bool nv, .string sv, .string tv] 29)
  replace o_r := o_r.alloc (.cells #[.bool nv, .string sv, .string tv] 29)
  replace o_u := o_u.alloc (.cells #[.bool nv, .string sv, .string tv] 29)
  replace hbw := below6 hbw hz7
  clear hz7
  have qu_0 : (w6.alloc (.cells #[.bool nv, .string sv, .string tv] 29)).cell? ⟨g5, 0, none⟩ = some (.bool nu) := o_u.cell 0
  have qu_1 : (w6.alloc (.cells #[.bool nv, .string sv, .string tv] 29)).cell? ⟨g5, 1, none⟩ = some (.string su) := o_u.cell 1
  have qu_2 : (w6.alloc (.cells #[.bool nv, .string sv, .string tv] 29)).cell? ⟨g5, 2, none⟩ = some (.string tu) := o_u.cell 2
  have qv_0 : (w6.alloc (.cells #[.bool nv, .string sv, .string tv] 29)).cell? ⟨w6.heap.size, 0, none⟩ = some (.bool nv) := o_v.cell 0
  have qv_1 : (w6.alloc (.cells #[.bool nv, .string sv, .string tv] 29)).cell? ⟨w6.heap.size, 1, none⟩ = some (.string sv) := o_v.cell 1
  have qv_2 : (w6.alloc (.cells #[.bool nv, .string sv, .string tv] 29)).cell? ⟨w6.heap.size, 2, none⟩ = some (.string tv) := o_v.cell 2
  go_wp2_with fail
  generalize (w6.alloc (.cells #[.bool nv, .string sv, .string tv] 29)) = wa8 at o_i o_x o_r o_u o_v hbw ⊢
  generalize w6.heap.size = g8 at o_v ⊢
  clear qu_0 qu_1 qu_2 qv_0 qv_1 qv_2
  refine (H5.out _).mono ?_
  rintro e w9 ⟨rfl, hb9⟩
  replace o_i := o_i.below hb9 o_i.lt
  replace o_x := o_x.below hb9 o_x.lt
  replace o_r := o_r.below hb9 o_r.lt
  replace o_u := o_u.below hb9 o_u.lt
  replace o_v := o_v.below hb9 o_v.lt
  replace hbw := below6 hbw hb9
  clear hb9
  have qr_0 : w9.cell? ⟨w.heap.size + 1 + 1, 0, none⟩ = some (.bool false) := o_r.cell 0
  have qr_1 : w9.cell? ⟨w.heap.size + 1 + 1, 1, none⟩ = some (.string ⟨#[]⟩) := o_r.cell 1
  have qr_2 : w9.cell? ⟨w.heap.size + 1 + 1, 2, none⟩ = some (.string ⟨#[]⟩) := o_r.cell 2
  have qr_3 : w9.cell? ⟨w.heap.size + 1 + 1, 3, none⟩ = some (.bool false) := o_r.cell 3
  have qr_4 : w9.cell? ⟨w.heap.size + 1 + 1, 4, none⟩ = some (.string ⟨#[]⟩) := o_r.cell 4
  have qr_5 : w9.cell? ⟨w.heap.size + 1 + 1, 5, none⟩ = some (.string ⟨#[]⟩) := o_r.cell 5
  have fr_0 := o_r.frozen 0
  have fr_1 := o_r.frozen 1
  have fr_2 := o_r.frozen 2
  have fr_3 := o_r.frozen 3
  have fr_4 := o_r.frozen 4
  have fr_5 := o_r.frozen 5
  have oz := o_r.set6 (.bool nu) (.string su) (.string tu) (.bool nv) (.string sv) (.string tv)
  have sz9 := Below.set6 hbw (g := w.heap.size + 1 + 1) (by omega) (.bool nu) (.string su) (.string tu) (.bool nv) (.string sv) (.string tv)
  go_wp2_with fail
  generalize ((((((w9.setCell ⟨w.heap.size + 1 + 1, 0, none⟩ (.bool nu)).setCell ⟨w.heap.size + 1 + 1, 1, none⟩ (.string su)).setCell ⟨w.heap.size + 1 + 1, 2, none⟩ (.string tu)).setCell ⟨w.heap.size + 1 + 1, 3, none⟩ (.bool nv)).setCell ⟨w.heap.size + 1 + 1, 4, none⟩ (.string sv)).setCell ⟨w.heap.size + 1 + 1, 5, none⟩ (.string tv)) = wz at oz sz9 ⊢
  have z0 : wz.cell? ⟨w.heap.size + 1 + 1, 0, none⟩ = some (.bool nu) := oz.cell 0
  have z1 : wz.cell? ⟨w.heap.size + 1 + 1, 1, none⟩ = some (.string su) := oz.cell 1
  have z2 : wz.cell? ⟨w.heap.size + 1 + 1, 2, none⟩ = some (.string tu) := oz.cell 2
  have z3 : wz.cell? ⟨w.heap.size + 1 + 1, 3, none⟩ = some (.bool nv) := oz.cell 3
  have z4 : wz.cell? ⟨w.heap.size + 1 + 1, 4, none⟩ = some (.string sv) := oz.cell 4
  have z5 : wz.cell? ⟨w.heap.size + 1 + 1, 5, none⟩ = some (.string tv) := oz.cell 5
  exact bodyPost_ret (v := .tuple #[.agg #[.bool nu, .string su, .string tu, .bool nv, .string sv, .string tv], .int .i64 0]) (by simp [results, Tryd.results39, go_sem, z0, z1, z2, z3, z4, z5]) rfl ⟨rfl, sz9⟩
set_option maxRecDepth 100000 in
set_option maxHeartbeats 4000000 in
theorem escale_neg (na : Bool) (sa ta : ByteArray) (nb : Bool) (sb tb : ByteArray) (nu : Bool) (su tu : ByteArray) (nv : Bool) (sv tv : ByteArray) (sx tx : ByteArray) (h1 : RetV 40 #[.agg #[.bool na, .string sa, .string ta, .bool nb, .string sb, .string tb]] (.bool true)) (h2 : RetV 41 #[.agg #[.bool true, .string sx, .string tx]] (.bool true))
    (h3 : RetV 62 #[.agg #[.bool nb, .string sb, .string tb], .agg #[.bool true, .string sx, .string tx]] (.tuple #[.agg #[.bool nu, .string su, .string tu], .int .i64 0])) (h4 : RetV 62 #[.agg #[.bool na, .string sa, .string ta], .agg #[.bool true, .string sx, .string tx]] (.tuple #[.agg #[.bool nv, .string sv, .string tv], .int .i64 0])) :
    RetV 39 #[.agg #[.bool na, .string sa, .string ta, .bool nb, .string sb, .string tb], .agg #[.bool true, .string sx, .string tx]] (.tuple #[.agg #[.bool nu, .string su, .string tu, .bool nv, .string sv, .string tv], .int .i64 0]) := by
  intro w
  have H1 := Lib.hid h1
  have H2 := Lib.hid h2
  have H3 := Lib.hid h3
  have H4 := Lib.hid h4
  have H5 := Lib.hid (ends_0 nu su tu nv sv tv)
  clear h1 h2 h3 h4
  obtain ⟨o_i, o_x, o_r, hbw⟩ := new3 w [.bool na, .string sa, .string ta, .bool nb, .string sb, .string tb] [.bool true, .string sx, .string tx] [.bool false, .string ⟨#[]⟩, .string ⟨#[]⟩, .bool false, .string ⟨#[]⟩, .string ⟨#[]⟩] 37 29 37
  go_enter Tryd.func39, Tryd.ntmps39
  go_upto_region 1 with (fail)
  generalize (((w.alloc (.cells #[.bool na, .string sa, .string ta, .bool nb, .string sb, .string tb] 37)).alloc (.cells #[.bool true, .string sx, .string tx] 29)).alloc (.cells #[.bool false, .string ⟨#[]⟩, .string ⟨#[]⟩, .bool false, .string ⟨#[]⟩, .string ⟨#[]⟩] 37)) = wb at o_i o_x o_r hbw ⊢
  have qi_0 : wb.cell? ⟨w.heap.size, 0, none⟩ = some (.bool na) := o_i.cell 0
  have qi_1 : wb.cell? ⟨w.heap.size, 1, none⟩ = some (.string sa) := o_i.cell 1
  have qi_2 : wb.cell? ⟨w.heap.size, 2, none⟩ = some (.string ta) := o_i.cell 2
  have qi_3 : wb.cell? ⟨w.heap.size, 3, none⟩ = some (.bool nb) := o_i.cell 3
  have qi_4 : wb.cell? ⟨w.heap.size, 4, none⟩ = some (.string sb) := o_i.cell 4
  have qi_5 : wb.cell? ⟨w.heap.size, 5, none⟩ = some (.string tb) := o_i.cell 5
  have qx_0 : wb.cell? ⟨w.heap.size + 1, 0, none⟩ = some (.bool true) := o_x.cell 0
  have qx_1 : wb.cell? ⟨w.heap.size + 1, 1, none⟩ = some (.string sx) := o_x.cell 1
  have qx_2 : wb.cell? ⟨w.heap.size + 1, 2, none⟩ = some (.string tx) := o_x.cell 2
  go_wp2_with fail
  clear qi_0 qi_1 qi_2 qi_3 qi_4 qi_5 qx_0 qx_1 qx_2
  refine (H1.out _).mono ?_
  rintro e w1 ⟨rfl, hb1⟩
  replace o_i := o_i.below hb1 o_i.lt
  replace o_x := o_x.below hb1 o_x.lt
  replace o_r := o_r.below hb1 o_r.lt
  replace hbw := below6 hbw hb1
  clear hb1
  have qi_0 : w1.cell? ⟨w.heap.size, 0, none⟩ = some (.bool na) := o_i.cell 0
  have qi_1 : w1.cell? ⟨w.heap.size, 1, none⟩ = some (.string sa) := o_i.cell 1
  have qi_2 : w1.cell? ⟨w.heap.size, 2, none⟩ = some (.string ta) := o_i.cell 2
  have qi_3 : w1.cell? ⟨w.heap.size, 3, none⟩ = some (.bool nb) := o_i.cell 3
  have qi_4 : w1.cell? ⟨w.heap.size, 4, none⟩ = some (.string sb) := o_i.cell 4
  have qi_5 : w1.cell? ⟨w.heap.size, 5, none⟩ = some (.string tb) := o_i.cell 5
  have qx_0 : w1.cell? ⟨w.heap.size + 1, 0, none⟩ = some (.bool true) := o_x.cell 0
  have qx_1 : w1.cell? ⟨w.heap.size + 1, 1, none⟩ = some (.string sx) := o_x.cell 1
  have qx_2 : w1.cell? ⟨w.heap.size + 1, 2, none⟩ = some (.string tx) := o_x.cell 2
  go_wp2_with fail
  clear qi_0 qi_1 qi_2 qi_3 qi_4 qi_5 qx_0 qx_1 qx_2
  refine (H2.out _).mono ?_
  rintro e w2 ⟨rfl, hb2⟩
  replace o_i := o_i.below hb2 o_i.lt
  replace o_x := o_x.below hb2 o_x.lt
  replace o_r := o_r.below hb2 o_r.lt
  replace hbw := below6 hbw hb2
  clear hb2
  have qi_0 : w2.cell? ⟨w.heap.size, 0, none⟩ = some (.bool na) := o_i.cell 0
  have qi_1 : w2.cell? ⟨w.heap.size, 1, none⟩ = some (.string sa) := o_i.cell 1
  have qi_2 : w2.cell? ⟨w.heap.size, 2, none⟩ = some (.string ta) := o_i.cell 2
  have qi_3 : w2.cell? ⟨w.heap.size, 3, none⟩ = some (.bool nb) := o_i.cell 3
  have qi_4 : w2.cell? ⟨w.heap.size, 4, none⟩ = some (.string sb) := o_i.cell 4
  have qi_5 : w2.cell? ⟨w.heap.size, 5, none⟩ = some (.string tb) := o_i.cell 5
  have qx_0 : w2.cell? ⟨w.heap.size + 1, 0, none⟩ = some (.bool true) := o_x.cell 0
  have qx_1 : w2.cell? ⟨w.heap.size + 1, 1, none⟩ = some (.string sx) := o_x.cell 1
  have qx_2 : w2.cell? ⟨w.heap.size + 1, 2, none⟩ = some (.string tx) := o_x.cell 2
  have fi_0 := o_i.frozen 0
  have fi_1 := o_i.frozen 1
  have fi_2 := o_i.frozen 2
  have fi_3 := o_i.frozen 3
  have fi_4 := o_i.frozen 4
  have fi_5 := o_i.frozen 5
  have oi2 := o_i.set6' (.bool nb) (.string sb) (.string tb) (.bool na) (.string sa) (.string ta)
  replace o_x := o_x.far (p := ⟨w.heap.size, 0, none⟩) (by intro e; have e2 : w.heap.size + 1 = w.heap.size := e; omega) (.bool nb)
  replace o_x := o_x.far (p := ⟨w.heap.size, 1, none⟩) (by intro e; have e2 : w.heap.size + 1 = w.heap.size := e; omega) (.string sb)
  replace o_x := o_x.far (p := ⟨w.heap.size, 2, none⟩) (by intro e; have e2 : w.heap.size + 1 = w.heap.size := e; omega) (.string tb)
  replace o_x := o_x.far (p := ⟨w.heap.size, 3, none⟩) (by intro e; have e2 : w.heap.size + 1 = w.heap.size := e; omega) (.bool na)
  replace o_x := o_x.far (p := ⟨w.heap.size, 4, none⟩) (by intro e; have e2 : w.heap.size + 1 = w.heap.size := e; omega) (.string sa)
  replace o_x := o_x.far (p := ⟨w.heap.size, 5, none⟩) (by intro e; have e2 : w.heap.size + 1 = w.heap.size := e; omega) (.string ta)
  replace o_r := o_r.far (p := ⟨w.heap.size, 0, none⟩) (by intro e; have e2 : w.heap.size + 1 + 1 = w.heap.size := e; omega) (.bool nb)
  replace o_r := o_r.far (p := ⟨w.heap.size, 1, none⟩) (by intro e; have e2 : w.heap.size + 1 + 1 = w.heap.size := e; omega) (.string sb)
  replace o_r := o_r.far (p := ⟨w.heap.size, 2, none⟩) (by intro e; have e2 : w.heap.size + 1 + 1 = w.heap.size := e; omega) (.string tb)
  replace o_r := o_r.far (p := ⟨w.heap.size, 3, none⟩) (by intro e; have e2 : w.heap.size + 1 + 1 = w.heap.size := e; omega) (.bool na)
  replace o_r := o_r.far (p := ⟨w.heap.size, 4, none⟩) (by intro e; have e2 : w.heap.size + 1 + 1 = w.heap.size := e; omega) (.string sa)
  replace o_r := o_r.far (p := ⟨w.heap.size, 5, none⟩) (by intro e; have e2 : w.heap.size + 1 + 1 = w.heap.size := e; omega) (.string ta)
  have hbw2 := Below.set6 hbw (Nat.le_refl _) (.bool nb) (.string sb) (.string tb) (.bool na) (.string sa) (.string ta)
  clear hbw o_i
  go_upto_region 5 with (fail)
  generalize ((((((w2.setCell ⟨w.heap.size, 0, none⟩ (.bool nb)).setCell ⟨w.heap.size, 1, none⟩ (.string sb)).setCell ⟨w.heap.size, 2, none⟩ (.string tb)).setCell ⟨w.heap.size, 3, none⟩ (.bool na)).setCell ⟨w.heap.size, 4, none⟩ (.string sa)).setCell ⟨w.heap.size, 5, none⟩ (.string ta)) = wsw at oi2 o_x o_r hbw2 ⊢
  clear qi_0 qi_1 qi_2 qi_3 qi_4 qi_5 qx_0 qx_1 qx_2 fi_0 fi_1 fi_2 fi_3 fi_4 fi_5
  have o_i := oi2
  have hbw := hbw2
  clear oi2 hbw2
  have qi_0 : wsw.cell? ⟨w.heap.size, 0, none⟩ = some (.bool nb) := o_i.cell 0
  have qi_1 : wsw.cell? ⟨w.heap.size, 1, none⟩ = some (.string sb) := o_i.cell 1
  have qi_2 : wsw.cell? ⟨w.heap.size, 2, none⟩ = some (.string tb) := o_i.cell 2
  have qi_3 : wsw.cell? ⟨w.heap.size, 3, none⟩ = some (.bool na) := o_i.cell 3
  have qi_4 : wsw.cell? ⟨w.heap.size, 4, none⟩ = some (.string sa) := o_i.cell 4
  have qi_5 : wsw.cell? ⟨w.heap.size, 5, none⟩ = some (.string ta) := o_i.cell 5
  have qx_0 : wsw.cell? ⟨w.heap.size + 1, 0, none⟩ = some (.bool true) := o_x.cell 0
  have qx_1 : wsw.cell? ⟨w.heap.size + 1, 1, none⟩ = some (.string sx) := o_x.cell 1
  have qx_2 : wsw.cell? ⟨w.heap.size + 1, 2, none⟩ = some (.string tx) := o_x.cell 2
  go_wp2_with fail
  clear qi_0 qi_1 qi_2 qi_3 qi_4 qi_5 qx_0 qx_1 qx_2
  refine (H3.out _).mono ?_
  rintro e w3 ⟨rfl, hb3⟩
  replace o_i := o_i.below hb3 o_i.lt
  replace o_x := o_x.below hb3 o_x.lt
  replace o_r := o_r.below hb3 o_r.lt
  replace hbw := below6 hbw hb3
  clear hb3
  obtain ⟨o_u, hz4⟩ := new1 w3 [.bool nu, .string su, .string tu] 29
  replace o_i := o_i.alloc (.cells #[.bool nu, .string su, .string tu] 29)
  replace o_x := o_x.alloc (.cells #[.bool nu, .string su, .string tu] 29)
  replace o_r := o_r.alloc (.cells #[.bool nu, .string su, .string tu] 29)
  replace hbw := below6 hbw hz4
  clear hz4
  have qi_0 : (w3.alloc (.cells #[.bool nu, .string su, .string tu] 29)).cell? ⟨w.heap.size, 0, none⟩ = some (.bool nb) := o_i.cell 0
  have qi_1 : (w3.alloc (.cells #[.bool nu, .string su, .string tu] 29)).cell? ⟨w.heap.size, 1, none⟩ = some (.string sb) := o_i.cell 1
  have qi_2 : (w3.alloc (.cells #[.bool nu, .string su, .string tu] 29)).cell? ⟨w.heap.size, 2, none⟩ = some (.string tb) := o_i.cell 2
  have qi_3 : (w3.alloc (.cells #[.bool nu, .string su, .string tu] 29)).cell? ⟨w.heap.size, 3, none⟩ = some (.bool na) := o_i.cell 3
  have qi_4 : (w3.alloc (.cells #[.bool nu, .string su, .string tu] 29)).cell? ⟨w.heap.size, 4, none⟩ = some (.string sa) := o_i.cell 4
  have qi_5 : (w3.alloc (.cells #[.bool nu, .string su, .string tu] 29)).cell? ⟨w.heap.size, 5, none⟩ = some (.string ta) := o_i.cell 5
  have qx_0 : (w3.alloc (.cells #[.bool nu, .string su, .string tu] 29)).cell? ⟨w.heap.size + 1, 0, none⟩ = some (.bool true) := o_x.cell 0
  have qx_1 : (w3.alloc (.cells #[.bool nu, .string su, .string tu] 29)).cell? ⟨w.heap.size + 1, 1, none⟩ = some (.string sx) := o_x.cell 1
  have qx_2 : (w3.alloc (.cells #[.bool nu, .string su, .string tu] 29)).cell? ⟨w.heap.size + 1, 2, none⟩ = some (.string tx) := o_x.cell 2
  go_wp2_with fail
  generalize (w3.alloc (.cells #[.bool nu, .string su, .string tu] 29)) = wa5 at o_i o_x o_r o_u hbw ⊢
  generalize w3.heap.size = g5 at o_u ⊢
  clear qi_0 qi_1 qi_2 qi_3 qi_4 qi_5 qx_0 qx_1 qx_2
  refine (H4.out _).mono ?_
  rintro e w6 ⟨rfl, hb6⟩
  replace o_i := o_i.below hb6 o_i.lt
  replace o_x := o_x.below hb6 o_x.lt
  replace o_r := o_r.below hb6 o_r.lt
  replace o_u := o_u.below hb6 o_u.lt
  replace hbw := below6 hbw hb6
  clear hb6
  obtain ⟨o_v, hz7⟩ := new1 w6 [.bool nv, .string sv, .string tv] 29
  replace o_i := o_i.alloc (.cells #[.bool nv, .string sv, .string tv] 29)
  replace o_x := o_x.alloc (.cells #[.bool nv, .string sv, .string tv] 29)
  replace o_r := o_r.alloc (.cells #[.bool nv, .string sv, .string tv] 29)
  replace o_u := o_u.alloc (.cells #[.bool nv, .string sv, .string tv] 29)
  replace hbw := below6 hbw hz7
  clear hz7
  have qu_0 : (w6.alloc (.cells #[.bool nv, .string sv, .string tv] 29)).cell? ⟨g5, 0, none⟩ = some (.bool nu) := o_u.cell 0
  have qu_1 : (w6.alloc (.cells #[.bool nv, .string sv, .string tv] 29)).cell? ⟨g5, 1, none⟩ = some (.string su) := o_u.cell 1
  have qu_2 : (w6.alloc (.cells #[.bool nv, .string sv, .string tv] 29)).cell? ⟨g5, 2, none⟩ = some (.string tu) := o_u.cell 2
  have qv_0 : (w6.alloc (.cells #[.bool nv, .string sv, .string tv] 29)).cell? ⟨w6.heap.size, 0, none⟩ = some (.bool nv) := o_v.cell 0
  have qv_1 : (w6.alloc (.cells #[.bool nv, .string sv, .string tv] 29)).cell? ⟨w6.heap.size, 1, none⟩ = some (.string sv) := o_v.cell 1
  have qv_2 : (w6.alloc (.cells #[.bool nv, .string sv, .string tv] 29)).cell? ⟨w6.heap.size, 2, none⟩ = some (.string tv) := o_v.cell 2
  go_wp2_with fail
  generalize (w6.alloc (.cells #[.bool nv, .string sv, .string tv] 29)) = wa8 at o_i o_x o_r o_u o_v hbw ⊢
  generalize w6.heap.size = g8 at o_v ⊢
  clear qu_0 qu_1 qu_2 qv_0 qv_1 qv_2
  refine (H5.out _).mono ?_
  rintro e w9 ⟨rfl, hb9⟩
  replace o_i := o_i.below hb9 o_i.lt
  replace o_x := o_x.below hb9 o_x.lt
  replace o_r := o_r.below hb9 o_r.lt
  replace o_u := o_u.below hb9 o_u.lt
  replace o_v := o_v.below hb9 o_v.lt
  replace hbw := below6 hbw hb9
  clear hb9
  have qr_0 : w9.cell? ⟨w.heap.size + 1 + 1, 0, none⟩ = some (.bool false) := o_r.cell 0
  have qr_1 : w9.cell? ⟨w.heap.size + 1 + 1, 1, none⟩ = some (.string ⟨#[]⟩) := o_r.cell 1
  have qr_2 : w9.cell? ⟨w.heap.size + 1 + 1, 2, none⟩ = some (.string ⟨#[]⟩) := o_r.cell 2
  have qr_3 : w9.cell? ⟨w.heap.size + 1 + 1, 3, none⟩ = some (.bool false) := o_r.cell 3
  have qr_4 : w9.cell? ⟨w.heap.size + 1 + 1, 4, none⟩ = some (.string ⟨#[]⟩) := o_r.cell 4
  have qr_5 : w9.cell? ⟨w.heap.size + 1 + 1, 5, none⟩ = some (.string ⟨#[]⟩) := o_r.cell 5
  have fr_0 := o_r.frozen 0
  have fr_1 := o_r.frozen 1
  have fr_2 := o_r.frozen 2
  have fr_3 := o_r.frozen 3
  have fr_4 := o_r.frozen 4
  have fr_5 := o_r.frozen 5
  have oz := o_r.set6 (.bool nu) (.string su) (.string tu) (.bool nv) (.string sv) (.string tv)
  have sz9 := Below.set6 hbw (g := w.heap.size + 1 + 1) (by omega) (.bool nu) (.string su) (.string tu) (.bool nv) (.string sv) (.string tv)
  go_wp2_with fail
  generalize ((((((w9.setCell ⟨w.heap.size + 1 + 1, 0, none⟩ (.bool nu)).setCell ⟨w.heap.size + 1 + 1, 1, none⟩ (.string su)).setCell ⟨w.heap.size + 1 + 1, 2, none⟩ (.string tu)).setCell ⟨w.heap.size + 1 + 1, 3, none⟩ (.bool nv)).setCell ⟨w.heap.size + 1 + 1, 4, none⟩ (.string sv)).setCell ⟨w.heap.size + 1 + 1, 5, none⟩ (.string tv)) = wz at oz sz9 ⊢
  have z0 : wz.cell? ⟨w.heap.size + 1 + 1, 0, none⟩ = some (.bool nu) := oz.cell 0
  have z1 : wz.cell? ⟨w.heap.size + 1 + 1, 1, none⟩ = some (.string su) := oz.cell 1
  have z2 : wz.cell? ⟨w.heap.size + 1 + 1, 2, none⟩ = some (.string tu) := oz.cell 2
  have z3 : wz.cell? ⟨w.heap.size + 1 + 1, 3, none⟩ = some (.bool nv) := oz.cell 3
  have z4 : wz.cell? ⟨w.heap.size + 1 + 1, 4, none⟩ = some (.string sv) := oz.cell 4
  have z5 : wz.cell? ⟨w.heap.size + 1 + 1, 5, none⟩ = some (.string tv) := oz.cell 5
  exact bodyPost_ret (v := .tuple #[.agg #[.bool nu, .string su, .string tu, .bool nv, .string sv, .string tv], .int .i64 0]) (by simp [results, Tryd.results39, go_sem, z0, z1, z2, z3, z4, z5]) rfl ⟨rfl, sz9⟩
set_option maxRecDepth 100000 in
set_option maxHeartbeats 4000000 in
theorem escale_no1 (na : Bool) (sa ta : ByteArray) (nb : Bool) (sb tb : ByteArray) (nx : Bool) (sx tx : ByteArray) (h1 : RetV 40 #[.agg #[.bool na, .string sa, .string ta, .bool nb, .string sb, .string tb]] (.bool false))  :
    RetV 39 #[.agg #[.bool na, .string sa, .string ta, .bool nb, .string sb, .string tb], .agg #[.bool nx, .string sx, .string tx]] (.tuple #[.agg #[.bool false, .string ⟨#[]⟩, .string ⟨#[]⟩, .bool false, .string ⟨#[]⟩, .string ⟨#[]⟩], .int .i64 1]) := by
  intro w
  have H1 := Lib.hid h1
  clear h1
  obtain ⟨o_i, o_x, o_r, hbw⟩ := new3 w [.bool na, .string sa, .string ta, .bool nb, .string sb, .string tb] [.bool nx, .string sx, .string tx] [.bool false, .string ⟨#[]⟩, .string ⟨#[]⟩, .bool false, .string ⟨#[]⟩, .string ⟨#[]⟩] 37 29 37
  go_enter Tryd.func39, Tryd.ntmps39
  go_upto_region 1 with (fail)
  generalize (((w.alloc (.cells #[.bool na, .string sa, .string ta, .bool nb, .string sb, .string tb] 37)).alloc (.cells #[.bool nx, .string sx, .string tx] 29)).alloc (.cells #[.bool false, .string ⟨#[]⟩, .string ⟨#[]⟩, .bool false, .string ⟨#[]⟩, .string ⟨#[]⟩] 37)) = wb at o_i o_x o_r hbw ⊢
  have qi_0 : wb.cell? ⟨w.heap.size, 0, none⟩ = some (.bool na) := o_i.cell 0
  have qi_1 : wb.cell? ⟨w.heap.size, 1, none⟩ = some (.string sa) := o_i.cell 1
  have qi_2 : wb.cell? ⟨w.heap.size, 2, none⟩ = some (.string ta) := o_i.cell 2
  have qi_3 : wb.cell? ⟨w.heap.size, 3, none⟩ = some (.bool nb) := o_i.cell 3
  have qi_4 : wb.cell? ⟨w.heap.size, 4, none⟩ = some (.string sb) := o_i.cell 4
  have qi_5 : wb.cell? ⟨w.heap.size, 5, none⟩ = some (.string tb) := o_i.cell 5
  have qx_0 : wb.cell? ⟨w.heap.size + 1, 0, none⟩ = some (.bool nx) := o_x.cell 0
  have qx_1 : wb.cell? ⟨w.heap.size + 1, 1, none⟩ = some (.string sx) := o_x.cell 1
  have qx_2 : wb.cell? ⟨w.heap.size + 1, 2, none⟩ = some (.string tx) := o_x.cell 2
  go_wp2_with fail
  clear qi_0 qi_1 qi_2 qi_3 qi_4 qi_5 qx_0 qx_1 qx_2
  refine (H1.out _).mono ?_
  rintro e w1 ⟨rfl, hb1⟩
  replace o_i := o_i.below hb1 o_i.lt
  replace o_x := o_x.below hb1 o_x.lt
  replace o_r := o_r.below hb1 o_r.lt
  replace hbw := below6 hbw hb1
  clear hb1
  have qr_0 : w1.cell? ⟨w.heap.size + 1 + 1, 0, none⟩ = some (.bool false) := o_r.cell 0
  have qr_1 : w1.cell? ⟨w.heap.size + 1 + 1, 1, none⟩ = some (.string ⟨#[]⟩) := o_r.cell 1
  have qr_2 : w1.cell? ⟨w.heap.size + 1 + 1, 2, none⟩ = some (.string ⟨#[]⟩) := o_r.cell 2
  have qr_3 : w1.cell? ⟨w.heap.size + 1 + 1, 3, none⟩ = some (.bool false) := o_r.cell 3
  have qr_4 : w1.cell? ⟨w.heap.size + 1 + 1, 4, none⟩ = some (.string ⟨#[]⟩) := o_r.cell 4
  have qr_5 : w1.cell? ⟨w.heap.size + 1 + 1, 5, none⟩ = some (.string ⟨#[]⟩) := o_r.cell 5
  have fr_0 := o_r.frozen 0
  have fr_1 := o_r.frozen 1
  have fr_2 := o_r.frozen 2
  have fr_3 := o_r.frozen 3
  have fr_4 := o_r.frozen 4
  have fr_5 := o_r.frozen 5
  have oz := o_r.set6 (.bool false) (.string ⟨#[]⟩) (.string ⟨#[]⟩) (.bool false) (.string ⟨#[]⟩) (.string ⟨#[]⟩)
  have sz9 := Below.set6 hbw (g := w.heap.size + 1 + 1) (by omega) (.bool false) (.string ⟨#[]⟩) (.string ⟨#[]⟩) (.bool false) (.string ⟨#[]⟩) (.string ⟨#[]⟩)
  go_wp2_with fail
  generalize ((((((w1.setCell ⟨w.heap.size + 1 + 1, 0, none⟩ (.bool false)).setCell ⟨w.heap.size + 1 + 1, 1, none⟩ (.string ⟨#[]⟩)).setCell ⟨w.heap.size + 1 + 1, 2, none⟩ (.string ⟨#[]⟩)).setCell ⟨w.heap.size + 1 + 1, 3, none⟩ (.bool false)).setCell ⟨w.heap.size + 1 + 1, 4, none⟩ (.string ⟨#[]⟩)).setCell ⟨w.heap.size + 1 + 1, 5, none⟩ (.string ⟨#[]⟩)) = wz at oz sz9 ⊢
  have z0 : wz.cell? ⟨w.heap.size + 1 + 1, 0, none⟩ = some (.bool false) := oz.cell 0
  have z1 : wz.cell? ⟨w.heap.size + 1 + 1, 1, none⟩ = some (.string ⟨#[]⟩) := oz.cell 1
  have z2 : wz.cell? ⟨w.heap.size + 1 + 1, 2, none⟩ = some (.string ⟨#[]⟩) := oz.cell 2
  have z3 : wz.cell? ⟨w.heap.size + 1 + 1, 3, none⟩ = some (.bool false) := oz.cell 3
  have z4 : wz.cell? ⟨w.heap.size + 1 + 1, 4, none⟩ = some (.string ⟨#[]⟩) := oz.cell 4
  have z5 : wz.cell? ⟨w.heap.size + 1 + 1, 5, none⟩ = some (.string ⟨#[]⟩) := oz.cell 5
  exact bodyPost_ret (v := .tuple #[.agg #[.bool false, .string ⟨#[]⟩, .string ⟨#[]⟩, .bool false, .string ⟨#[]⟩, .string ⟨#[]⟩], .int .i64 1]) (by simp [results, Tryd.results39, go_sem, z0, z1, z2, z3, z4, z5]) rfl ⟨rfl, sz9⟩
set_option maxRecDepth 100000 in
set_option maxHeartbeats 4000000 in
theorem escale_no2 (na : Bool) (sa ta : ByteArray) (nb : Bool) (sb tb : ByteArray) (nx : Bool) (sx tx : ByteArray) (h1 : RetV 40 #[.agg #[.bool na, .string sa, .string ta, .bool nb, .string sb, .string tb]] (.bool true)) (h2 : RetV 41 #[.agg #[.bool nx, .string sx, .string tx]] (.bool false)) :
    RetV 39 #[.agg #[.bool na, .string sa, .string ta, .bool nb, .string sb, .string tb], .agg #[.bool nx, .string sx, .string tx]] (.tuple #[.agg #[.bool false, .string ⟨#[]⟩, .string ⟨#[]⟩, .bool false, .string ⟨#[]⟩, .string ⟨#[]⟩], .int .i64 1]) := by
  intro w
  have H1 := Lib.hid h1
  have H2 := Lib.hid h2
  clear h1 h2
  obtain ⟨o_i, o_x, o_r, hbw⟩ := new3 w [.bool na, .string sa, .string ta, .bool nb, .string sb, .string tb] [.bool nx, .string sx, .string tx] [.bool false, .string ⟨#[]⟩, .string ⟨#[]⟩, .bool false, .string ⟨#[]⟩, .string ⟨#[]⟩] 37 29 37
  go_enter Tryd.func39, Tryd.ntmps39
  go_upto_region 1 with (fail)
  generalize (((w.alloc (.cells #[.bool na, .string sa, .string ta, .bool nb, .string sb, .string tb] 37)).alloc (.cells #[.bool nx, .string sx, .string tx] 29)).alloc (.cells #[.bool false, .string ⟨#[]⟩, .string ⟨#[]⟩, .bool false, .string ⟨#[]⟩, .string ⟨#[]⟩] 37)) = wb at o_i o_x o_r hbw ⊢
  have qi_0 : wb.cell? ⟨w.heap.size, 0, none⟩ = some (.bool na) := o_i.cell 0
  have qi_1 : wb.cell? ⟨w.heap.size, 1, none⟩ = some (.string sa) := o_i.cell 1
  have qi_2 : wb.cell? ⟨w.heap.size, 2, none⟩ = some (.string ta) := o_i.cell 2
  have qi_3 : wb.cell? ⟨w.heap.size, 3, none⟩ = some (.bool nb) := o_i.cell 3
  have qi_4 : wb.cell? ⟨w.heap.size, 4, none⟩ = some (.string sb) := o_i.cell 4
  have qi_5 : wb.cell? ⟨w.heap.size, 5, none⟩ = some (.string tb) := o_i.cell 5
  have qx_0 : wb.cell? ⟨w.heap.size + 1, 0, none⟩ = some (.bool nx) := o_x.cell 0
  have qx_1 : wb.cell? ⟨w.heap.size + 1, 1, none⟩ = some (.string sx) := o_x.cell 1
  have qx_2 : wb.cell? ⟨w.heap.size + 1, 2, none⟩ = some (.string tx) := o_x.cell 2
  go_wp2_with fail
  clear qi_0 qi_1 qi_2 qi_3 qi_4 qi_5 qx_0 qx_1 qx_2
  refine (H1.out _).mono ?_
  rintro e w1 ⟨rfl, hb1⟩
  replace o_i := o_i.below hb1 o_i.lt
  replace o_x := o_x.below hb1 o_x.lt
  replace o_r := o_r.below hb1 o_r.lt
  replace hbw := below6 hbw hb1
  clear hb1
  have qi_0 : w1.cell? ⟨w.heap.size, 0, none⟩ = some (.bool na) := o_i.cell 0
  have qi_1 : w1.cell? ⟨w.heap.size, 1, none⟩ = some (.string sa) := o_i.cell 1
  have qi_2 : w1.cell? ⟨w.heap.size, 2, none⟩ = some (.string ta) := o_i.cell 2
  have qi_3 : w1.cell? ⟨w.heap.size, 3, none⟩ = some (.bool nb) := o_i.cell 3
  have qi_4 : w1.cell? ⟨w.heap.size, 4, none⟩ = some (.string sb) := o_i.cell 4
  have qi_5 : w1.cell? ⟨w.heap.size, 5, none⟩ = some (.string tb) := o_i.cell 5
  have qx_0 : w1.cell? ⟨w.heap.size + 1, 0, none⟩ = some (.bool nx) := o_x.cell 0
  have qx_1 : w1.cell? ⟨w.heap.size + 1, 1, none⟩ = some (.string sx) := o_x.cell 1
  have qx_2 : w1.cell? ⟨w.heap.size + 1, 2, none⟩ = some (.string tx) := o_x.cell 2
  go_wp2_with fail
  clear qi_0 qi_1 qi_2 qi_3 qi_4 qi_5 qx_0 qx_1 qx_2
  refine (H2.out _).mono ?_
  rintro e w2 ⟨rfl, hb2⟩
  replace o_i := o_i.below hb2 o_i.lt
  replace o_x := o_x.below hb2 o_x.lt
  replace o_r := o_r.below hb2 o_r.lt
  replace hbw := below6 hbw hb2
  clear hb2
  have qr_0 : w2.cell? ⟨w.heap.size + 1 + 1, 0, none⟩ = some (.bool false) := o_r.cell 0
  have qr_1 : w2.cell? ⟨w.heap.size + 1 + 1, 1, none⟩ = some (.string ⟨#[]⟩) := o_r.cell 1
  have qr_2 : w2.cell? ⟨w.heap.size + 1 + 1, 2, none⟩ = some (.string ⟨#[]⟩) := o_r.cell 2
  have qr_3 : w2.cell? ⟨w.heap.size + 1 + 1, 3, none⟩ = some (.bool false) := o_r.cell 3
  have qr_4 : w2.cell? ⟨w.heap.size + 1 + 1, 4, none⟩ = some (.string ⟨#[]⟩) := o_r.cell 4
  have qr_5 : w2.cell? ⟨w.heap.size + 1 + 1, 5, none⟩ = some (.string ⟨#[]⟩) := o_r.cell 5
  have fr_0 := o_r.frozen 0
  have fr_1 := o_r.frozen 1
  have fr_2 := o_r.frozen 2
  have fr_3 := o_r.frozen 3
  have fr_4 := o_r.frozen 4
  have fr_5 := o_r.frozen 5
  have oz := o_r.set6 (.bool false) (.string ⟨#[]⟩) (.string ⟨#[]⟩) (.bool false) (.string ⟨#[]⟩) (.string ⟨#[]⟩)
  have sz9 := Below.set6 hbw (g := w.heap.size + 1 + 1) (by omega) (.bool false) (.string ⟨#[]⟩) (.string ⟨#[]⟩) (.bool false) (.string ⟨#[]⟩) (.string ⟨#[]⟩)
  go_wp2_with fail
  generalize ((((((w2.setCell ⟨w.heap.size + 1 + 1, 0, none⟩ (.bool false)).setCell ⟨w.heap.size + 1 + 1, 1, none⟩ (.string ⟨#[]⟩)).setCell ⟨w.heap.size + 1 + 1, 2, none⟩ (.string ⟨#[]⟩)).setCell ⟨w.heap.size + 1 + 1, 3, none⟩ (.bool false)).setCell ⟨w.heap.size + 1 + 1, 4, none⟩ (.string ⟨#[]⟩)).setCell ⟨w.heap.size + 1 + 1, 5, none⟩ (.string ⟨#[]⟩)) = wz at oz sz9 ⊢
  have z0 : wz.cell? ⟨w.heap.size + 1 + 1, 0, none⟩ = some (.bool false) := oz.cell 0
  have z1 : wz.cell? ⟨w.heap.size + 1 + 1, 1, none⟩ = some (.string ⟨#[]⟩) := oz.cell 1
  have z2 : wz.cell? ⟨w.heap.size + 1 + 1, 2, none⟩ = some (.string ⟨#[]⟩) := oz.cell 2
  have z3 : wz.cell? ⟨w.heap.size + 1 + 1, 3, none⟩ = some (.bool false) := oz.cell 3
  have z4 : wz.cell? ⟨w.heap.size + 1 + 1, 4, none⟩ = some (.string ⟨#[]⟩) := oz.cell 4
  have z5 : wz.cell? ⟨w.heap.size + 1 + 1, 5, none⟩ = some (.string ⟨#[]⟩) := oz.cell 5
  exact bodyPost_ret (v := .tuple #[.agg #[.bool false, .string ⟨#[]⟩, .string ⟨#[]⟩, .bool false, .string ⟨#[]⟩, .string ⟨#[]⟩], .int .i64 1]) (by simp [results, Tryd.results39, go_sem, z0, z1, z2, z3, z4, z5]) rfl ⟨rfl, sz9⟩
end Go.Proofs.YtopfcfbiaadfeaaDoor
