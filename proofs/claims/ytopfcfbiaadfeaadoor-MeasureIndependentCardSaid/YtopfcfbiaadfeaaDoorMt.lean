/- Chapter 38: the quotients at possible cells. -/
import Derived.Test.YtopfcfbiaadfeaaDoorMs
namespace Go.Proofs.YtopfcfbiaadfeaaDoor
set_option linter.unusedSimpArgs false
set_option linter.unusedVariables false
set_option linter.unusedSectionVars false
open Go.RowKit Dg

set_option maxRecDepth 100000 in
set_option maxHeartbeats 4000000 in
theorem dice_yes {a p q n : Nat} (hv : VC a p q n) (w : World) (ht : Tab w) :
    Calls Tryd.prog 8 #[.agg #[.int .i64 (a : Int), .int .i64 (p : Int), .int .i64 (q : Int), .int .i64 (n : Int)]] w fun e w' => QRes (prodN [2, a]) (prodN [p + q]) e ∧ Below w.heap.size w w' := by
  have HV := Lib.hid hv
  have T0 := Lib.hid ht
  obtain ⟨nz, sz, tz, kz, hend, hres⟩ := qres_one (prodN [2, a]) (prodN [p + q])
  have HEND := Lib.hid hend
  have HRES := Lib.hid hres
  clear ht hend hres
  obtain ⟨o_c, o_r, hbw⟩ := new2 w [.int .i64 (a : Int), .int .i64 (p : Int), .int .i64 (q : Int), .int .i64 (n : Int)] [.bool false, .string ⟨#[]⟩, .string ⟨#[]⟩] 24 29
  go_enter Tryd.func8, Tryd.ntmps8
  go_upto_region 1 with (fail)
  generalize ((w.alloc (.cells #[.int .i64 (a : Int), .int .i64 (p : Int), .int .i64 (q : Int), .int .i64 (n : Int)] 24)).alloc (.cells #[.bool false, .string ⟨#[]⟩, .string ⟨#[]⟩] 29)) = wb at o_c o_r hbw ⊢
  have z1 : IntKind.i64.wrap ((p : Int) + (q : Int)) = (p : Int) + (q : Int) := IntWalk.i64_in _ (by have := hv.pn; have := hv.qn; have := hv.n2; omega)
  have E1 : Hid ([(2 : Int), ((a : Int) : Int)] = [2, a].map fun (x : Nat) => (x : Int)) := by
    have := hv.pn; have := hv.qn; have := hv.ap; have := hv.aq; have := hv.pq
    exact Lib.hid (by simp <;> omega)
  have E2 : Hid ([((p : Int) + (q : Int) : Int)] = [p + q].map fun (x : Nat) => (x : Int)) := by
    have := hv.pn; have := hv.qn; have := hv.ap; have := hv.aq; have := hv.pq
    exact Lib.hid (by simp <;> omega)
  have M1 : Hid (Smalls [2, a]) := by
    have := hv.pn; have := hv.qn; have := hv.n2; have := hv.ap; have := hv.aq; have := hv.pq
    exact Lib.hid ⟨by simp, by simp <;> omega⟩
  have M2 : Hid (Smalls [p + q]) := by
    have := hv.pn; have := hv.qn; have := hv.n2; have := hv.ap; have := hv.aq; have := hv.pq
    exact Lib.hid ⟨by simp, by simp <;> omega⟩
  clear hv
  have qc_0 : wb.cell? ⟨w.heap.size, 0, none⟩ = some (.int .i64 (a : Int)) := o_c.cell 0
  have qc_1 : wb.cell? ⟨w.heap.size, 1, none⟩ = some (.int .i64 (p : Int)) := o_c.cell 1
  have qc_2 : wb.cell? ⟨w.heap.size, 2, none⟩ = some (.int .i64 (q : Int)) := o_c.cell 2
  have qc_3 : wb.cell? ⟨w.heap.size, 3, none⟩ = some (.int .i64 (n : Int)) := o_c.cell 3
  have qm0_0 : (wb.alloc (.cells #[.int .i64 (2), .int .i64 ((a : Int))] 3)).cell? ⟨w.heap.size, 0, none⟩ = some (.int .i64 (a : Int)) := (o_c.alloc (.cells #[.int .i64 (2), .int .i64 ((a : Int))] 3)).cell 0
  have qm0_1 : (wb.alloc (.cells #[.int .i64 (2), .int .i64 ((a : Int))] 3)).cell? ⟨w.heap.size, 1, none⟩ = some (.int .i64 (p : Int)) := (o_c.alloc (.cells #[.int .i64 (2), .int .i64 ((a : Int))] 3)).cell 1
  have qm0_2 : (wb.alloc (.cells #[.int .i64 (2), .int .i64 ((a : Int))] 3)).cell? ⟨w.heap.size, 2, none⟩ = some (.int .i64 (q : Int)) := (o_c.alloc (.cells #[.int .i64 (2), .int .i64 ((a : Int))] 3)).cell 2
  have qm0_3 : (wb.alloc (.cells #[.int .i64 (2), .int .i64 ((a : Int))] 3)).cell? ⟨w.heap.size, 3, none⟩ = some (.int .i64 (n : Int)) := (o_c.alloc (.cells #[.int .i64 (2), .int .i64 ((a : Int))] 3)).cell 3
  obtain ⟨o_s0, o_s1, hz1⟩ := new2 wb [.int .i64 (2), .int .i64 ((a : Int))] [.int .i64 ((p : Int) + (q : Int))] 3 3
  replace o_c := o_c.alloc (.cells #[.int .i64 (2), .int .i64 ((a : Int))] 3)
  replace o_c := o_c.alloc (.cells #[.int .i64 ((p : Int) + (q : Int))] 3)
  replace o_r := o_r.alloc (.cells #[.int .i64 (2), .int .i64 ((a : Int))] 3)
  replace o_r := o_r.alloc (.cells #[.int .i64 ((p : Int) + (q : Int))] 3)
  replace hbw := below6 hbw hz1
  clear hz1
  go_wp2_with fail
  generalize ((wb.alloc (.cells #[.int .i64 (2), .int .i64 ((a : Int))] 3)).alloc (.cells #[.int .i64 ((p : Int) + (q : Int))] 3)) = wa2 at o_c o_r o_s0 o_s1 hbw ⊢
  generalize wb.heap.size = g2 at o_s0 o_s1 ⊢
  refine (quot_any HV.out (some ⟨g2, 0, none⟩) [(2 : Int), ((a : Int) : Int)] [2, a] 2 (some ⟨g2 + 1, 0, none⟩) [((p : Int) + (q : Int) : Int)] [p + q] 1 _ o_s0.rd0 E1.out (by simp) (by decide) M1.out o_s1.rd0 E2.out (by simp) (by decide) M2.out (T0.out.below hbw)).mono ?_
  rintro e w9 ⟨hq, hb9⟩
  have he := HEND.out _ hq
  subst he
  replace o_c := o_c.below hb9 o_c.lt
  replace o_r := o_r.below hb9 o_r.lt
  replace hbw := below6 hbw hb9
  clear hb9 hq o_s0 o_s1
  have qr_0 : w9.cell? ⟨w.heap.size + 1, 0, none⟩ = some (.bool false) := o_r.cell 0
  have qr_1 : w9.cell? ⟨w.heap.size + 1, 1, none⟩ = some (.string ⟨#[]⟩) := o_r.cell 1
  have qr_2 : w9.cell? ⟨w.heap.size + 1, 2, none⟩ = some (.string ⟨#[]⟩) := o_r.cell 2
  have fr_0 := o_r.frozen 0
  have fr_1 := o_r.frozen 1
  have fr_2 := o_r.frozen 2
  have oz := o_r.set3 (.bool nz) (.string sz) (.string tz)
  have sz9 := Below.set3 hbw (g := w.heap.size + 1) (by omega) (.bool nz) (.string sz) (.string tz)
  go_wp2_with fail
  generalize (((w9.setCell ⟨w.heap.size + 1, 0, none⟩ (.bool nz)).setCell ⟨w.heap.size + 1, 1, none⟩ (.string sz)).setCell ⟨w.heap.size + 1, 2, none⟩ (.string tz)) = wz at oz sz9 ⊢
  have z0 : wz.cell? ⟨w.heap.size + 1, 0, none⟩ = some (.bool nz) := oz.cell 0
  have z1 : wz.cell? ⟨w.heap.size + 1, 1, none⟩ = some (.string sz) := oz.cell 1
  have z2 : wz.cell? ⟨w.heap.size + 1, 2, none⟩ = some (.string tz) := oz.cell 2
  exact bodyPost_ret (v := .tuple #[.agg #[.bool nz, .string sz, .string tz], .int .i64 kz]) (by simp [results, Tryd.results8, go_sem, z0, z1, z2]) rfl ⟨HRES.out, sz9⟩
set_option maxRecDepth 100000 in
set_option maxHeartbeats 4000000 in
theorem jaccard_yes {a p q n : Nat} (hv : VC a p q n) (w : World) (ht : Tab w) :
    Calls Tryd.prog 9 #[.agg #[.int .i64 (a : Int), .int .i64 (p : Int), .int .i64 (q : Int), .int .i64 (n : Int)]] w fun e w' => QRes (prodN [a]) (prodN [p + q - a]) e ∧ Below w.heap.size w w' := by
  have HV := Lib.hid hv
  have T0 := Lib.hid ht
  obtain ⟨nz, sz, tz, kz, hend, hres⟩ := qres_one (prodN [a]) (prodN [p + q - a])
  have HEND := Lib.hid hend
  have HRES := Lib.hid hres
  clear ht hend hres
  obtain ⟨o_c, o_r, hbw⟩ := new2 w [.int .i64 (a : Int), .int .i64 (p : Int), .int .i64 (q : Int), .int .i64 (n : Int)] [.bool false, .string ⟨#[]⟩, .string ⟨#[]⟩] 24 29
  go_enter Tryd.func9, Tryd.ntmps9
  go_upto_region 1 with (fail)
  generalize ((w.alloc (.cells #[.int .i64 (a : Int), .int .i64 (p : Int), .int .i64 (q : Int), .int .i64 (n : Int)] 24)).alloc (.cells #[.bool false, .string ⟨#[]⟩, .string ⟨#[]⟩] 29)) = wb at o_c o_r hbw ⊢
  have z1 : IntKind.i64.wrap ((p : Int) + (q : Int)) = (p : Int) + (q : Int) := IntWalk.i64_in _ (by have := hv.pn; have := hv.qn; have := hv.n2; omega)
  have z2 : IntKind.i64.wrap ((p : Int) + (q : Int) - (a : Int)) = (p : Int) + (q : Int) - (a : Int) := IntWalk.i64_in _ (by have := hv.pn; have := hv.qn; have := hv.n2; have := hv.ap; omega)
  have E1 : Hid ([((a : Int) : Int)] = [a].map fun (x : Nat) => (x : Int)) := by
    have := hv.pn; have := hv.qn; have := hv.ap; have := hv.aq; have := hv.pq
    exact Lib.hid (by simp <;> omega)
  have E2 : Hid ([((p : Int) + (q : Int) - (a : Int) : Int)] = [p + q - a].map fun (x : Nat) => (x : Int)) := by
    have := hv.pn; have := hv.qn; have := hv.ap; have := hv.aq; have := hv.pq
    exact Lib.hid (by simp <;> omega)
  have M1 : Hid (Smalls [a]) := by
    have := hv.pn; have := hv.qn; have := hv.n2; have := hv.ap; have := hv.aq; have := hv.pq
    exact Lib.hid ⟨by simp, by simp <;> omega⟩
  have M2 : Hid (Smalls [p + q - a]) := by
    have := hv.pn; have := hv.qn; have := hv.n2; have := hv.ap; have := hv.aq; have := hv.pq
    exact Lib.hid ⟨by simp, by simp <;> omega⟩
  clear hv
  have qc_0 : wb.cell? ⟨w.heap.size, 0, none⟩ = some (.int .i64 (a : Int)) := o_c.cell 0
  have qc_1 : wb.cell? ⟨w.heap.size, 1, none⟩ = some (.int .i64 (p : Int)) := o_c.cell 1
  have qc_2 : wb.cell? ⟨w.heap.size, 2, none⟩ = some (.int .i64 (q : Int)) := o_c.cell 2
  have qc_3 : wb.cell? ⟨w.heap.size, 3, none⟩ = some (.int .i64 (n : Int)) := o_c.cell 3
  have qm0_0 : (wb.alloc (.cells #[.int .i64 ((a : Int))] 3)).cell? ⟨w.heap.size, 0, none⟩ = some (.int .i64 (a : Int)) := (o_c.alloc (.cells #[.int .i64 ((a : Int))] 3)).cell 0
  have qm0_1 : (wb.alloc (.cells #[.int .i64 ((a : Int))] 3)).cell? ⟨w.heap.size, 1, none⟩ = some (.int .i64 (p : Int)) := (o_c.alloc (.cells #[.int .i64 ((a : Int))] 3)).cell 1
  have qm0_2 : (wb.alloc (.cells #[.int .i64 ((a : Int))] 3)).cell? ⟨w.heap.size, 2, none⟩ = some (.int .i64 (q : Int)) := (o_c.alloc (.cells #[.int .i64 ((a : Int))] 3)).cell 2
  have qm0_3 : (wb.alloc (.cells #[.int .i64 ((a : Int))] 3)).cell? ⟨w.heap.size, 3, none⟩ = some (.int .i64 (n : Int)) := (o_c.alloc (.cells #[.int .i64 ((a : Int))] 3)).cell 3
  obtain ⟨o_s0, o_s1, hz1⟩ := new2 wb [.int .i64 ((a : Int))] [.int .i64 ((p : Int) + (q : Int) - (a : Int))] 3 3
  replace o_c := o_c.alloc (.cells #[.int .i64 ((a : Int))] 3)
  replace o_c := o_c.alloc (.cells #[.int .i64 ((p : Int) + (q : Int) - (a : Int))] 3)
  replace o_r := o_r.alloc (.cells #[.int .i64 ((a : Int))] 3)
  replace o_r := o_r.alloc (.cells #[.int .i64 ((p : Int) + (q : Int) - (a : Int))] 3)
  replace hbw := below6 hbw hz1
  clear hz1
  go_wp2_with fail
  generalize ((wb.alloc (.cells #[.int .i64 ((a : Int))] 3)).alloc (.cells #[.int .i64 ((p : Int) + (q : Int) - (a : Int))] 3)) = wa2 at o_c o_r o_s0 o_s1 hbw ⊢
  generalize wb.heap.size = g2 at o_s0 o_s1 ⊢
  refine (quot_any HV.out (some ⟨g2, 0, none⟩) [((a : Int) : Int)] [a] 1 (some ⟨g2 + 1, 0, none⟩) [((p : Int) + (q : Int) - (a : Int) : Int)] [p + q - a] 1 _ o_s0.rd0 E1.out (by simp) (by decide) M1.out o_s1.rd0 E2.out (by simp) (by decide) M2.out (T0.out.below hbw)).mono ?_
  rintro e w9 ⟨hq, hb9⟩
  have he := HEND.out _ hq
  subst he
  replace o_c := o_c.below hb9 o_c.lt
  replace o_r := o_r.below hb9 o_r.lt
  replace hbw := below6 hbw hb9
  clear hb9 hq o_s0 o_s1
  have qr_0 : w9.cell? ⟨w.heap.size + 1, 0, none⟩ = some (.bool false) := o_r.cell 0
  have qr_1 : w9.cell? ⟨w.heap.size + 1, 1, none⟩ = some (.string ⟨#[]⟩) := o_r.cell 1
  have qr_2 : w9.cell? ⟨w.heap.size + 1, 2, none⟩ = some (.string ⟨#[]⟩) := o_r.cell 2
  have fr_0 := o_r.frozen 0
  have fr_1 := o_r.frozen 1
  have fr_2 := o_r.frozen 2
  have oz := o_r.set3 (.bool nz) (.string sz) (.string tz)
  have sz9 := Below.set3 hbw (g := w.heap.size + 1) (by omega) (.bool nz) (.string sz) (.string tz)
  go_wp2_with fail
  generalize (((w9.setCell ⟨w.heap.size + 1, 0, none⟩ (.bool nz)).setCell ⟨w.heap.size + 1, 1, none⟩ (.string sz)).setCell ⟨w.heap.size + 1, 2, none⟩ (.string tz)) = wz at oz sz9 ⊢
  have z0 : wz.cell? ⟨w.heap.size + 1, 0, none⟩ = some (.bool nz) := oz.cell 0
  have z1 : wz.cell? ⟨w.heap.size + 1, 1, none⟩ = some (.string sz) := oz.cell 1
  have z2 : wz.cell? ⟨w.heap.size + 1, 2, none⟩ = some (.string tz) := oz.cell 2
  exact bodyPost_ret (v := .tuple #[.agg #[.bool nz, .string sz, .string tz], .int .i64 kz]) (by simp [results, Tryd.results9, go_sem, z0, z1, z2]) rfl ⟨HRES.out, sz9⟩
set_option maxRecDepth 100000 in
set_option maxHeartbeats 4000000 in
theorem observed_yes {a p q n : Nat} (hv : VC a p q n) (w : World) :
    Calls Tryd.prog 38 #[.agg #[.int .i64 (a : Int), .int .i64 (p : Int), .int .i64 (q : Int), .int .i64 (n : Int)]] w fun e w' => e = .returned (.agg #[.int .i64 ((a : Int)), .int .i64 ((p : Int) - (a : Int)), .int .i64 ((q : Int) - (a : Int)), .int .i64 ((n : Int) - (p : Int) - (q : Int) + (a : Int))]) ∧ Below w.heap.size w w' := by
  obtain ⟨o_c, o_r, hbw⟩ := new2 w [.int .i64 (a : Int), .int .i64 (p : Int), .int .i64 (q : Int), .int .i64 (n : Int)] [.int .i64 0, .int .i64 0, .int .i64 0, .int .i64 0] 24 69
  go_enter Tryd.func38, Tryd.ntmps38
  go_upto_region 1 with (fail)
  generalize ((w.alloc (.cells #[.int .i64 (a : Int), .int .i64 (p : Int), .int .i64 (q : Int), .int .i64 (n : Int)] 24)).alloc (.cells #[.int .i64 0, .int .i64 0, .int .i64 0, .int .i64 0] 69)) = wb at o_c o_r hbw ⊢
  have z0' : IntKind.i64.wrap ((p : Int) - (a : Int)) = (p : Int) - (a : Int) := IntWalk.i64_in _ (by have := hv.pn; have := hv.qn; have := hv.n2; have := hv.ap; have := hv.aq; have := hv.pq; omega)
  have z1' : IntKind.i64.wrap ((q : Int) - (a : Int)) = (q : Int) - (a : Int) := IntWalk.i64_in _ (by have := hv.pn; have := hv.qn; have := hv.n2; have := hv.ap; have := hv.aq; have := hv.pq; omega)
  have z2' : IntKind.i64.wrap ((n : Int) - (p : Int)) = (n : Int) - (p : Int) := IntWalk.i64_in _ (by have := hv.pn; have := hv.qn; have := hv.n2; have := hv.ap; have := hv.aq; have := hv.pq; omega)
  have z3' : IntKind.i64.wrap ((n : Int) - (p : Int) - (q : Int)) = (n : Int) - (p : Int) - (q : Int) := IntWalk.i64_in _ (by have := hv.pn; have := hv.qn; have := hv.n2; have := hv.ap; have := hv.aq; have := hv.pq; omega)
  have z4' : IntKind.i64.wrap ((n : Int) - (p : Int) - (q : Int) + (a : Int)) = (n : Int) - (p : Int) - (q : Int) + (a : Int) := IntWalk.i64_in _ (by have := hv.pn; have := hv.qn; have := hv.n2; have := hv.ap; have := hv.aq; have := hv.pq; omega)
  clear hv
  have qc_0 : wb.cell? ⟨w.heap.size, 0, none⟩ = some (.int .i64 (a : Int)) := o_c.cell 0
  have qc_1 : wb.cell? ⟨w.heap.size, 1, none⟩ = some (.int .i64 (p : Int)) := o_c.cell 1
  have qc_2 : wb.cell? ⟨w.heap.size, 2, none⟩ = some (.int .i64 (q : Int)) := o_c.cell 2
  have qc_3 : wb.cell? ⟨w.heap.size, 3, none⟩ = some (.int .i64 (n : Int)) := o_c.cell 3
  have qr_0 : wb.cell? ⟨w.heap.size + 1, 0, none⟩ = some (.int .i64 0) := o_r.cell 0
  have qr_1 : wb.cell? ⟨w.heap.size + 1, 1, none⟩ = some (.int .i64 0) := o_r.cell 1
  have qr_2 : wb.cell? ⟨w.heap.size + 1, 2, none⟩ = some (.int .i64 0) := o_r.cell 2
  have qr_3 : wb.cell? ⟨w.heap.size + 1, 3, none⟩ = some (.int .i64 0) := o_r.cell 3
  have fr_0 := o_r.frozen 0
  have fr_1 := o_r.frozen 1
  have fr_2 := o_r.frozen 2
  have fr_3 := o_r.frozen 3
  have oz := (((o_r.set_ 0 (.int .i64 ((a : Int)))).set_ 1 (.int .i64 ((p : Int) - (a : Int)))).set_ 2 (.int .i64 ((q : Int) - (a : Int)))).set_ 3 (.int .i64 ((n : Int) - (p : Int) - (q : Int) + (a : Int)))
  replace oz : Own _ _ _ [.int .i64 ((a : Int)), .int .i64 ((p : Int) - (a : Int)), .int .i64 ((q : Int) - (a : Int)), .int .i64 ((n : Int) - (p : Int) - (q : Int) + (a : Int))] := oz
  have sz9 := (((hbw.setCell (p := ⟨w.heap.size + 1, 0, none⟩) (by simp) (.int .i64 ((a : Int)))).setCell (p := ⟨w.heap.size + 1, 1, none⟩) (by simp) (.int .i64 ((p : Int) - (a : Int)))).setCell (p := ⟨w.heap.size + 1, 2, none⟩) (by simp) (.int .i64 ((q : Int) - (a : Int)))).setCell (p := ⟨w.heap.size + 1, 3, none⟩) (by simp) (.int .i64 ((n : Int) - (p : Int) - (q : Int) + (a : Int)))
  go_wp2_with fail
  generalize ((((wb.setCell ⟨w.heap.size + 1, 0, none⟩ (.int .i64 ((a : Int)))).setCell ⟨w.heap.size + 1, 1, none⟩ (.int .i64 ((p : Int) - (a : Int)))).setCell ⟨w.heap.size + 1, 2, none⟩ (.int .i64 ((q : Int) - (a : Int)))).setCell ⟨w.heap.size + 1, 3, none⟩ (.int .i64 ((n : Int) - (p : Int) - (q : Int) + (a : Int)))) = wz at oz sz9 ⊢
  have z0 : wz.cell? ⟨w.heap.size + 1, 0, none⟩ = some (.int .i64 ((a : Int))) := oz.cell 0
  have z1 : wz.cell? ⟨w.heap.size + 1, 1, none⟩ = some (.int .i64 ((p : Int) - (a : Int))) := oz.cell 1
  have z2 : wz.cell? ⟨w.heap.size + 1, 2, none⟩ = some (.int .i64 ((q : Int) - (a : Int))) := oz.cell 2
  have z3 : wz.cell? ⟨w.heap.size + 1, 3, none⟩ = some (.int .i64 ((n : Int) - (p : Int) - (q : Int) + (a : Int))) := oz.cell 3
  exact bodyPost_ret (v := .agg #[.int .i64 ((a : Int)), .int .i64 ((p : Int) - (a : Int)), .int .i64 ((q : Int) - (a : Int)), .int .i64 ((n : Int) - (p : Int) - (q : Int) + (a : Int))]) (by simp [results, Tryd.results38, go_sem, z0, z1, z2, z3]) rfl ⟨rfl, sz9⟩
theorem mul_two62 {x y : Int} (h1 : 0 ≤ x) (h2 : x ≤ 2147483648) (h3 : 0 ≤ y) (h4 : y ≤ 2147483648) : 0 ≤ x * y ∧ x * y ≤ 4611686018427387904 :=
  ⟨Int.mul_nonneg h1 h3, Int.le_trans (Int.mul_le_mul h2 h4 h3 (by decide)) (by decide)⟩
/-- The difference of the products, however it is written. -/
theorem xdiff (a p q n : Int) : a * (n - p - q + a) - (p - a) * (q - a) = n * a - p * q := by
  simp only [Int.mul_sub, Int.sub_mul, Int.mul_add]
  have h1 := Int.mul_comm a n
  have h2 := Int.mul_comm a p
  omega
theorem max_neg (x : Int) : max x (-x) = (x.natAbs : Int) := by omega
set_option maxRecDepth 100000 in
set_option maxHeartbeats 4000000 in
theorem chi_yes {a p q n : Nat} (hv : VC a p q n) (w : World) (ht : Tab w) :
    Calls Tryd.prog 16 #[.agg #[.int .i64 (a : Int), .int .i64 (p : Int), .int .i64 (q : Int), .int .i64 (n : Int)]] w fun e w' => QRes (prodN [n, ((n : Int) * (a : Int) - (p : Int) * (q : Int)).natAbs, ((n : Int) * (a : Int) - (p : Int) * (q : Int)).natAbs]) (prodN [p, n - p, q, n - q]) e ∧ Below w.heap.size w w' := by
  have HV := Lib.hid hv
  have T0 := Lib.hid ht
  obtain ⟨nz, sz, tz, kz, hend, hres⟩ := qres_one (prodN [n, ((n : Int) * (a : Int) - (p : Int) * (q : Int)).natAbs, ((n : Int) * (a : Int) - (p : Int) * (q : Int)).natAbs]) (prodN [p, n - p, q, n - q])
  have HEND := Lib.hid hend
  have HRES := Lib.hid hres
  clear ht hend hres
  obtain ⟨o_c, o_r, hbw⟩ := new2 w [.int .i64 (a : Int), .int .i64 (p : Int), .int .i64 (q : Int), .int .i64 (n : Int)] [.bool false, .string ⟨#[]⟩, .string ⟨#[]⟩] 24 29
  go_enter Tryd.func16, Tryd.ntmps16
  go_upto_region 1 with (fail)
  generalize ((w.alloc (.cells #[.int .i64 (a : Int), .int .i64 (p : Int), .int .i64 (q : Int), .int .i64 (n : Int)] 24)).alloc (.cells #[.bool false, .string ⟨#[]⟩, .string ⟨#[]⟩] 29)) = wb at o_c o_r hbw ⊢
  have y0 : IntKind.i64.wrap ((n : Int) - (p : Int)) = (n : Int) - (p : Int) := IntWalk.i64_in _ (by have := hv.pn; have := hv.qn; have := hv.n2; have := hv.ap; have := hv.aq; have := hv.pq; omega)
  have y1 : IntKind.i64.wrap ((n : Int) - (q : Int)) = (n : Int) - (q : Int) := IntWalk.i64_in _ (by have := hv.pn; have := hv.qn; have := hv.n2; have := hv.ap; have := hv.aq; have := hv.pq; omega)
  have b1 := mul_two62 (x := (a : Int)) (y := (n : Int) - (p : Int) - (q : Int) + (a : Int)) (by omega) (by have := hv.pn; have := hv.qn; have := hv.n2; have := hv.ap; have := hv.aq; have := hv.pq; omega) (by have := hv.pn; have := hv.qn; have := hv.n2; have := hv.ap; have := hv.aq; have := hv.pq; omega) (by have := hv.pn; have := hv.qn; have := hv.n2; have := hv.ap; have := hv.aq; have := hv.pq; omega)
  have b2 := mul_two62 (x := (p : Int) - (a : Int)) (y := (q : Int) - (a : Int)) (by have := hv.pn; have := hv.qn; have := hv.n2; have := hv.ap; have := hv.aq; have := hv.pq; omega) (by have := hv.pn; have := hv.qn; have := hv.n2; have := hv.ap; have := hv.aq; have := hv.pq; omega) (by have := hv.pn; have := hv.qn; have := hv.n2; have := hv.ap; have := hv.aq; have := hv.pq; omega) (by have := hv.pn; have := hv.qn; have := hv.n2; have := hv.ap; have := hv.aq; have := hv.pq; omega)
  have b3 := xdiff (a : Int) (p : Int) (q : Int) (n : Int)
  have y2 : IntKind.i64.wrap ((a : Int) * ((n : Int) - (p : Int) - (q : Int) + (a : Int))) = (a : Int) * ((n : Int) - (p : Int) - (q : Int) + (a : Int)) := IntWalk.i64_in _ (by omega)
  have y3 : IntKind.i64.wrap (((p : Int) - (a : Int)) * ((q : Int) - (a : Int))) = ((p : Int) - (a : Int)) * ((q : Int) - (a : Int)) := IntWalk.i64_in _ (by omega)
  have y4 : IntKind.i64.wrap ((a : Int) * ((n : Int) - (p : Int) - (q : Int) + (a : Int)) - ((p : Int) - (a : Int)) * ((q : Int) - (a : Int))) = ((n : Int) * (a : Int) - (p : Int) * (q : Int)) := by rw [IntWalk.i64_in _ (by omega)]; exact b3
  have HX : Hid (((n : Int) * (a : Int) - (p : Int) * (q : Int)).natAbs ≤ 4611686018427387904) := Lib.hid (by omega)
  have y5 : IntKind.i64.wrap (-((n : Int) * (a : Int) - (p : Int) * (q : Int))) = -((n : Int) * (a : Int) - (p : Int) * (q : Int)) := IntWalk.i64_in _ (by omega)
  clear b1 b2 b3
  have qc_0 : wb.cell? ⟨w.heap.size, 0, none⟩ = some (.int .i64 (a : Int)) := o_c.cell 0
  have qc_1 : wb.cell? ⟨w.heap.size, 1, none⟩ = some (.int .i64 (p : Int)) := o_c.cell 1
  have qc_2 : wb.cell? ⟨w.heap.size, 2, none⟩ = some (.int .i64 (q : Int)) := o_c.cell 2
  have qc_3 : wb.cell? ⟨w.heap.size, 3, none⟩ = some (.int .i64 (n : Int)) := o_c.cell 3
  go_wp2_with fail
  clear qc_0 qc_1 qc_2 qc_3
  refine (mvalid_yes HV.out _).mono ?_
  rintro e w1 ⟨rfl, hb1⟩
  replace o_c := o_c.below hb1 o_c.lt
  replace o_r := o_r.below hb1 o_r.lt
  replace hbw := below6 hbw hb1
  clear hb1
  have qc_0 : w1.cell? ⟨w.heap.size, 0, none⟩ = some (.int .i64 (a : Int)) := o_c.cell 0
  have qc_1 : w1.cell? ⟨w.heap.size, 1, none⟩ = some (.int .i64 (p : Int)) := o_c.cell 1
  have qc_2 : w1.cell? ⟨w.heap.size, 2, none⟩ = some (.int .i64 (q : Int)) := o_c.cell 2
  have qc_3 : w1.cell? ⟨w.heap.size, 3, none⟩ = some (.int .i64 (n : Int)) := o_c.cell 3
  go_wp2_with fail
  clear qc_0 qc_1 qc_2 qc_3
  refine (observed_yes HV.out _).mono ?_
  rintro e w2 ⟨rfl, hb2⟩
  replace o_c := o_c.below hb2 o_c.lt
  replace o_r := o_r.below hb2 o_r.lt
  replace hbw := below6 hbw hb2
  clear hb2
  obtain ⟨o_o, hz3⟩ := new1 w2 [.int .i64 ((a : Int)), .int .i64 ((p : Int) - (a : Int)), .int .i64 ((q : Int) - (a : Int)), .int .i64 ((n : Int) - (p : Int) - (q : Int) + (a : Int))] 69
  replace o_c := o_c.alloc (.cells #[.int .i64 ((a : Int)), .int .i64 ((p : Int) - (a : Int)), .int .i64 ((q : Int) - (a : Int)), .int .i64 ((n : Int) - (p : Int) - (q : Int) + (a : Int))] 69)
  replace o_r := o_r.alloc (.cells #[.int .i64 ((a : Int)), .int .i64 ((p : Int) - (a : Int)), .int .i64 ((q : Int) - (a : Int)), .int .i64 ((n : Int) - (p : Int) - (q : Int) + (a : Int))] 69)
  replace hbw := below6 hbw hz3
  clear hz3
  have qo_0 : (w2.alloc (.cells #[.int .i64 ((a : Int)), .int .i64 ((p : Int) - (a : Int)), .int .i64 ((q : Int) - (a : Int)), .int .i64 ((n : Int) - (p : Int) - (q : Int) + (a : Int))] 69)).cell? ⟨w2.heap.size, 0, none⟩ = some (.int .i64 ((a : Int))) := o_o.cell 0
  have qo_1 : (w2.alloc (.cells #[.int .i64 ((a : Int)), .int .i64 ((p : Int) - (a : Int)), .int .i64 ((q : Int) - (a : Int)), .int .i64 ((n : Int) - (p : Int) - (q : Int) + (a : Int))] 69)).cell? ⟨w2.heap.size, 1, none⟩ = some (.int .i64 ((p : Int) - (a : Int))) := o_o.cell 1
  have qo_2 : (w2.alloc (.cells #[.int .i64 ((a : Int)), .int .i64 ((p : Int) - (a : Int)), .int .i64 ((q : Int) - (a : Int)), .int .i64 ((n : Int) - (p : Int) - (q : Int) + (a : Int))] 69)).cell? ⟨w2.heap.size, 2, none⟩ = some (.int .i64 ((q : Int) - (a : Int))) := o_o.cell 2
  have qo_3 : (w2.alloc (.cells #[.int .i64 ((a : Int)), .int .i64 ((p : Int) - (a : Int)), .int .i64 ((q : Int) - (a : Int)), .int .i64 ((n : Int) - (p : Int) - (q : Int) + (a : Int))] 69)).cell? ⟨w2.heap.size, 3, none⟩ = some (.int .i64 ((n : Int) - (p : Int) - (q : Int) + (a : Int))) := o_o.cell 3
  go_upto_region 6 with (fail)
  generalize (w2.alloc (.cells #[.int .i64 ((a : Int)), .int .i64 ((p : Int) - (a : Int)), .int .i64 ((q : Int) - (a : Int)), .int .i64 ((n : Int) - (p : Int) - (q : Int) + (a : Int))] 69)) = wa4 at o_c o_r o_o hbw ⊢
  generalize w2.heap.size = g4 at o_o ⊢
  have E1 : Hid ([(n : Int), max ((n : Int) * (a : Int) - (p : Int) * (q : Int)) (-((n : Int) * (a : Int) - (p : Int) * (q : Int))), max ((n : Int) * (a : Int) - (p : Int) * (q : Int)) (-((n : Int) * (a : Int) - (p : Int) * (q : Int)))] = [n, ((n : Int) * (a : Int) - (p : Int) * (q : Int)).natAbs, ((n : Int) * (a : Int) - (p : Int) * (q : Int)).natAbs].map fun (x : Nat) => (x : Int)) := by
    have := HV.out.pn; have := HV.out.qn; have := HV.out.n2; have := HV.out.ap; have := HV.out.aq; have := HV.out.pq
    exact Lib.hid (by simp <;> omega)
  have M1 : Hid (Smalls [n, ((n : Int) * (a : Int) - (p : Int) * (q : Int)).natAbs, ((n : Int) * (a : Int) - (p : Int) * (q : Int)).natAbs]) := by
    have := HV.out.pn; have := HV.out.qn; have := HV.out.n2; have := HV.out.ap; have := HV.out.aq; have := HV.out.pq; have := HV.out.n2; have := HX.out
    exact Lib.hid ⟨by simp, by simp <;> omega⟩
  have E2 : Hid ([(p : Int), (n : Int) - (p : Int), (q : Int), (n : Int) - (q : Int)] = [p, n - p, q, n - q].map fun (x : Nat) => (x : Int)) := by
    have := HV.out.pn; have := HV.out.qn; have := HV.out.n2; have := HV.out.ap; have := HV.out.aq; have := HV.out.pq
    exact Lib.hid (by simp <;> omega)
  have M2 : Hid (Smalls [p, n - p, q, n - q]) := by
    have := HV.out.pn; have := HV.out.qn; have := HV.out.n2; have := HV.out.ap; have := HV.out.aq; have := HV.out.pq; have := HV.out.n2; have := HX.out
    exact Lib.hid ⟨by simp, by simp <;> omega⟩
  have qc_0 : wa4.cell? ⟨w.heap.size, 0, none⟩ = some (.int .i64 (a : Int)) := o_c.cell 0
  have qc_1 : wa4.cell? ⟨w.heap.size, 1, none⟩ = some (.int .i64 (p : Int)) := o_c.cell 1
  have qc_2 : wa4.cell? ⟨w.heap.size, 2, none⟩ = some (.int .i64 (q : Int)) := o_c.cell 2
  have qc_3 : wa4.cell? ⟨w.heap.size, 3, none⟩ = some (.int .i64 (n : Int)) := o_c.cell 3
  have qm0_0 : (wa4.alloc (.cells #[.int .i64 ((n : Int)), .int .i64 (max ((n : Int) * (a : Int) - (p : Int) * (q : Int)) (-((n : Int) * (a : Int) - (p : Int) * (q : Int)))), .int .i64 (max ((n : Int) * (a : Int) - (p : Int) * (q : Int)) (-((n : Int) * (a : Int) - (p : Int) * (q : Int))))] 3)).cell? ⟨w.heap.size, 0, none⟩ = some (.int .i64 (a : Int)) := (o_c.alloc (.cells #[.int .i64 ((n : Int)), .int .i64 (max ((n : Int) * (a : Int) - (p : Int) * (q : Int)) (-((n : Int) * (a : Int) - (p : Int) * (q : Int)))), .int .i64 (max ((n : Int) * (a : Int) - (p : Int) * (q : Int)) (-((n : Int) * (a : Int) - (p : Int) * (q : Int))))] 3)).cell 0
  have qm0_1 : (wa4.alloc (.cells #[.int .i64 ((n : Int)), .int .i64 (max ((n : Int) * (a : Int) - (p : Int) * (q : Int)) (-((n : Int) * (a : Int) - (p : Int) * (q : Int)))), .int .i64 (max ((n : Int) * (a : Int) - (p : Int) * (q : Int)) (-((n : Int) * (a : Int) - (p : Int) * (q : Int))))] 3)).cell? ⟨w.heap.size, 1, none⟩ = some (.int .i64 (p : Int)) := (o_c.alloc (.cells #[.int .i64 ((n : Int)), .int .i64 (max ((n : Int) * (a : Int) - (p : Int) * (q : Int)) (-((n : Int) * (a : Int) - (p : Int) * (q : Int)))), .int .i64 (max ((n : Int) * (a : Int) - (p : Int) * (q : Int)) (-((n : Int) * (a : Int) - (p : Int) * (q : Int))))] 3)).cell 1
  have qm0_2 : (wa4.alloc (.cells #[.int .i64 ((n : Int)), .int .i64 (max ((n : Int) * (a : Int) - (p : Int) * (q : Int)) (-((n : Int) * (a : Int) - (p : Int) * (q : Int)))), .int .i64 (max ((n : Int) * (a : Int) - (p : Int) * (q : Int)) (-((n : Int) * (a : Int) - (p : Int) * (q : Int))))] 3)).cell? ⟨w.heap.size, 2, none⟩ = some (.int .i64 (q : Int)) := (o_c.alloc (.cells #[.int .i64 ((n : Int)), .int .i64 (max ((n : Int) * (a : Int) - (p : Int) * (q : Int)) (-((n : Int) * (a : Int) - (p : Int) * (q : Int)))), .int .i64 (max ((n : Int) * (a : Int) - (p : Int) * (q : Int)) (-((n : Int) * (a : Int) - (p : Int) * (q : Int))))] 3)).cell 2
  have qm0_3 : (wa4.alloc (.cells #[.int .i64 ((n : Int)), .int .i64 (max ((n : Int) * (a : Int) - (p : Int) * (q : Int)) (-((n : Int) * (a : Int) - (p : Int) * (q : Int)))), .int .i64 (max ((n : Int) * (a : Int) - (p : Int) * (q : Int)) (-((n : Int) * (a : Int) - (p : Int) * (q : Int))))] 3)).cell? ⟨w.heap.size, 3, none⟩ = some (.int .i64 (n : Int)) := (o_c.alloc (.cells #[.int .i64 ((n : Int)), .int .i64 (max ((n : Int) * (a : Int) - (p : Int) * (q : Int)) (-((n : Int) * (a : Int) - (p : Int) * (q : Int)))), .int .i64 (max ((n : Int) * (a : Int) - (p : Int) * (q : Int)) (-((n : Int) * (a : Int) - (p : Int) * (q : Int))))] 3)).cell 3
  obtain ⟨o_s0, o_s1, hz5⟩ := new2 wa4 [.int .i64 ((n : Int)), .int .i64 (max ((n : Int) * (a : Int) - (p : Int) * (q : Int)) (-((n : Int) * (a : Int) - (p : Int) * (q : Int)))), .int .i64 (max ((n : Int) * (a : Int) - (p : Int) * (q : Int)) (-((n : Int) * (a : Int) - (p : Int) * (q : Int))))] [.int .i64 ((p : Int)), .int .i64 ((n : Int) - (p : Int)), .int .i64 ((q : Int)), .int .i64 ((n : Int) - (q : Int))] 3 3
  replace o_c := o_c.alloc (.cells #[.int .i64 ((n : Int)), .int .i64 (max ((n : Int) * (a : Int) - (p : Int) * (q : Int)) (-((n : Int) * (a : Int) - (p : Int) * (q : Int)))), .int .i64 (max ((n : Int) * (a : Int) - (p : Int) * (q : Int)) (-((n : Int) * (a : Int) - (p : Int) * (q : Int))))] 3)
  replace o_c := o_c.alloc (.cells #[.int .i64 ((p : Int)), .int .i64 ((n : Int) - (p : Int)), .int .i64 ((q : Int)), .int .i64 ((n : Int) - (q : Int))] 3)
  replace o_r := o_r.alloc (.cells #[.int .i64 ((n : Int)), .int .i64 (max ((n : Int) * (a : Int) - (p : Int) * (q : Int)) (-((n : Int) * (a : Int) - (p : Int) * (q : Int)))), .int .i64 (max ((n : Int) * (a : Int) - (p : Int) * (q : Int)) (-((n : Int) * (a : Int) - (p : Int) * (q : Int))))] 3)
  replace o_r := o_r.alloc (.cells #[.int .i64 ((p : Int)), .int .i64 ((n : Int) - (p : Int)), .int .i64 ((q : Int)), .int .i64 ((n : Int) - (q : Int))] 3)
  replace o_o := o_o.alloc (.cells #[.int .i64 ((n : Int)), .int .i64 (max ((n : Int) * (a : Int) - (p : Int) * (q : Int)) (-((n : Int) * (a : Int) - (p : Int) * (q : Int)))), .int .i64 (max ((n : Int) * (a : Int) - (p : Int) * (q : Int)) (-((n : Int) * (a : Int) - (p : Int) * (q : Int))))] 3)
  replace o_o := o_o.alloc (.cells #[.int .i64 ((p : Int)), .int .i64 ((n : Int) - (p : Int)), .int .i64 ((q : Int)), .int .i64 ((n : Int) - (q : Int))] 3)
  replace hbw := below6 hbw hz5
  clear hz5
  go_wp2_with fail
  generalize ((wa4.alloc (.cells #[.int .i64 ((n : Int)), .int .i64 (max ((n : Int) * (a : Int) - (p : Int) * (q : Int)) (-((n : Int) * (a : Int) - (p : Int) * (q : Int)))), .int .i64 (max ((n : Int) * (a : Int) - (p : Int) * (q : Int)) (-((n : Int) * (a : Int) - (p : Int) * (q : Int))))] 3)).alloc (.cells #[.int .i64 ((p : Int)), .int .i64 ((n : Int) - (p : Int)), .int .i64 ((q : Int)), .int .i64 ((n : Int) - (q : Int))] 3)) = wa6 at o_c o_r o_o o_s0 o_s1 hbw ⊢
  generalize wa4.heap.size = g6 at o_s0 o_s1 ⊢
  refine (quot_any HV.out (some ⟨g6, 0, none⟩) [(n : Int), max ((n : Int) * (a : Int) - (p : Int) * (q : Int)) (-((n : Int) * (a : Int) - (p : Int) * (q : Int))), max ((n : Int) * (a : Int) - (p : Int) * (q : Int)) (-((n : Int) * (a : Int) - (p : Int) * (q : Int)))] [n, ((n : Int) * (a : Int) - (p : Int) * (q : Int)).natAbs, ((n : Int) * (a : Int) - (p : Int) * (q : Int)).natAbs] 3 (some ⟨g6 + 1, 0, none⟩) [(p : Int), (n : Int) - (p : Int), (q : Int), (n : Int) - (q : Int)] [p, n - p, q, n - q] 4 _ o_s0.rd0 E1.out (by simp) (by decide) M1.out o_s1.rd0 E2.out (by simp) (by decide) M2.out (T0.out.below hbw)).mono ?_
  rintro e w9 ⟨hq, hb9⟩
  have he := HEND.out _ hq
  subst he
  replace o_c := o_c.below hb9 o_c.lt
  replace o_r := o_r.below hb9 o_r.lt
  replace hbw := below6 hbw hb9
  clear hb9 hq o_s0 o_s1
  have qr_0 : w9.cell? ⟨w.heap.size + 1, 0, none⟩ = some (.bool false) := o_r.cell 0
  have qr_1 : w9.cell? ⟨w.heap.size + 1, 1, none⟩ = some (.string ⟨#[]⟩) := o_r.cell 1
  have qr_2 : w9.cell? ⟨w.heap.size + 1, 2, none⟩ = some (.string ⟨#[]⟩) := o_r.cell 2
  have fr_0 := o_r.frozen 0
  have fr_1 := o_r.frozen 1
  have fr_2 := o_r.frozen 2
  have oz := o_r.set3 (.bool nz) (.string sz) (.string tz)
  have sz9 := Below.set3 hbw (g := w.heap.size + 1) (by omega) (.bool nz) (.string sz) (.string tz)
  go_wp2_with fail
  generalize (((w9.setCell ⟨w.heap.size + 1, 0, none⟩ (.bool nz)).setCell ⟨w.heap.size + 1, 1, none⟩ (.string sz)).setCell ⟨w.heap.size + 1, 2, none⟩ (.string tz)) = wz at oz sz9 ⊢
  have z0 : wz.cell? ⟨w.heap.size + 1, 0, none⟩ = some (.bool nz) := oz.cell 0
  have z1 : wz.cell? ⟨w.heap.size + 1, 1, none⟩ = some (.string sz) := oz.cell 1
  have z2 : wz.cell? ⟨w.heap.size + 1, 2, none⟩ = some (.string tz) := oz.cell 2
  exact bodyPost_ret (v := .tuple #[.agg #[.bool nz, .string sz, .string tz], .int .i64 kz]) (by simp [results, Tryd.results16, go_sem, z0, z1, z2]) rfl ⟨HRES.out, sz9⟩
end Go.Proofs.YtopfcfbiaadfeaaDoor
