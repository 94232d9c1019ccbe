/- Parts of the proof: Rp8. No condition of its own. -/
import Derived.Test.YtocknfhgjmaibaaGreatDoorRs
import Derived.Test.YtocknfhgjmaibaaGreatDoorMv
import Derived.Test.YtocknfhgjmaibaaGreatDoorMs
import Derived.Test.YtocknfhgjmaibaaGreatDoorEw
set_option linter.unusedSimpArgs false
set_option linter.unusedVariables false
set_option linter.unusedSectionVars false
set_option maxRecDepth 100000
set_option maxHeartbeats 4000000
namespace Go.Proofs.YtocknfhgjmaibaaGreatDoor
open Go.RowKit Dg

theorem expected_yes {a p q n : Nat} (hv : VC a p q n) (w : World) (ht : Tab w) :
    Calls Tryz.prog 6 #[.agg #[.int .i64 (a : Int), .int .i64 (p : Int), .int .i64 (q : Int), .int .i64 (n : Int)]] w fun e w' => QRes (prodN [p, q]) (prodN [n]) e ∧ Below w.heap.size w w' := by
  have HV := Lib.hid hv; have T0 := Lib.hid ht; obtain ⟨nz, sz, tz, kz, hend, hres⟩ := qres_one (prodN [p, q]) (prodN [n]); have HEND := Lib.hid hend; have HRES := Lib.hid hres; clear ht hend hres; obtain ⟨o_c, o_r, hbw⟩ := new2 w [.int .i64 (a : Int), .int .i64 (p : Int), .int .i64 (q : Int), .int .i64 (n : Int)] [.bool false, .string ⟨#[]⟩, .string ⟨#[]⟩] 23 27
  go_enter Tryz.func6, Tryz.ntmps6
  go_upto_region 1 with (fail)
  generalize ((w.alloc (.cells #[.int .i64 (a : Int), .int .i64 (p : Int), .int .i64 (q : Int), .int .i64 (n : Int)] 23)).alloc (.cells #[.bool false, .string ⟨#[]⟩, .string ⟨#[]⟩] 27)) = wb at o_c o_r hbw ⊢

  have E1 : Hid ([((p : Int) : Int), ((q : Int) : Int)] = [p, q].map fun (x : Nat) => (x : Int)) := by
    have := hv.all; exact Lib.hid (by simp <;> omega)
  have E2 : Hid ([((n : Int) : Int)] = [n].map fun (x : Nat) => (x : Int)) := by
    have := hv.all; exact Lib.hid (by simp <;> omega)
  have M1 : Hid (Smalls [p, q]) := by
    have := hv.all; exact Lib.hid ⟨by simp, by simp <;> omega⟩
  have M2 : Hid (Smalls [n]) := by
    have := hv.all; exact Lib.hid ⟨by simp, by simp <;> omega⟩
  clear hv; obtain ⟨qc_0, qc_1, qc_2, qc_3⟩ := o_c.cells4; obtain ⟨qm0_0, qm0_1, qm0_2, qm0_3⟩ := (o_c.alloc (.cells #[.int .i64 ((p : Int)), .int .i64 ((q : Int))] 3)).cells4; obtain ⟨o_s0, o_s1, hz1⟩ := new2 wb [.int .i64 ((p : Int)), .int .i64 ((q : Int))] [.int .i64 ((n : Int))] 3 3; replace o_c := o_c.alloc (.cells #[.int .i64 ((p : Int)), .int .i64 ((q : Int))] 3); replace o_c := o_c.alloc (.cells #[.int .i64 ((n : Int))] 3); replace o_r := o_r.alloc (.cells #[.int .i64 ((p : Int)), .int .i64 ((q : Int))] 3); replace o_r := o_r.alloc (.cells #[.int .i64 ((n : Int))] 3); replace hbw := below6 hbw hz1; clear hz1
  go_wp2_with fail
  generalize ((wb.alloc (.cells #[.int .i64 ((p : Int)), .int .i64 ((q : Int))] 3)).alloc (.cells #[.int .i64 ((n : Int))] 3)) = wa2 at o_c o_r o_s0 o_s1 hbw ⊢; generalize wb.heap.size = g2 at o_s0 o_s1 ⊢; refine (quot_any HV.out (some ⟨g2, 0, none⟩) [((p : Int) : Int), ((q : Int) : Int)] [p, q] 2 (some ⟨g2 + 1, 0, none⟩) [((n : Int) : Int)] [n] 1 _ o_s0.rd0 E1.out (by simp) (by decide) M1.out o_s1.rd0 E2.out (by simp) (by decide) M2.out (T0.out.below hbw)).mono ?_; rintro e w9 ⟨hq, hb9⟩; have he := HEND.out _ hq; subst he; replace o_c := o_c.below hb9 o_c.lt; replace o_r := o_r.below hb9 o_r.lt; replace hbw := below6 hbw hb9; clear hb9 hq o_s0 o_s1; obtain ⟨qr_0, qr_1, qr_2⟩ := o_r.cells3; obtain ⟨fr_0, fr_1, fr_2⟩ := o_r.frozens3; have oz := o_r.set3 (.bool nz) (.string sz) (.string tz); have sz9 := Below.set3 hbw (g := w.heap.size + 1) (by omega) (.bool nz) (.string sz) (.string tz)
  go_wp2_with fail
  generalize (((w9.setCell ⟨w.heap.size + 1, 0, none⟩ (.bool nz)).setCell ⟨w.heap.size + 1, 1, none⟩ (.string sz)).setCell ⟨w.heap.size + 1, 2, none⟩ (.string tz)) = wz at oz sz9 ⊢; obtain ⟨z0, z1, z2⟩ := oz.cells3; exact bodyPost_ret (v := .tuple #[.agg #[.bool nz, .string sz, .string tz], .int .i64 kz]) (by simp [results, Tryz.results6, go_sem, z0, z1, z2]) rfl ⟨HRES.out, sz9⟩
theorem expected_ref {a p q n : Nat} (hv : VC a p q n) (w : World) :
    Calls Tryz.prog 7 #[.agg #[.int .i64 (a : Int), .int .i64 (p : Int), .int .i64 (q : Int), .int .i64 (n : Int)]] w fun e w' => QRes (prodN [p, q]) (prodN [n]) e ∧ Below w.heap.size w w' := by
  have HV := Lib.hid hv; obtain ⟨nz, sz, tz, kz, hend, hres⟩ := qres_one (prodN [p, q]) (prodN [n]); have HEND := Lib.hid hend; have HRES := Lib.hid hres; clear hend hres; obtain ⟨o_c, o_r, hbw⟩ := new2 w [.int .i64 (a : Int), .int .i64 (p : Int), .int .i64 (q : Int), .int .i64 (n : Int)] [.bool false, .string ⟨#[]⟩, .string ⟨#[]⟩] 23 27
  go_enter Tryz.func7, Tryz.ntmps7
  go_upto_region 1 with (fail)
  generalize ((w.alloc (.cells #[.int .i64 (a : Int), .int .i64 (p : Int), .int .i64 (q : Int), .int .i64 (n : Int)] 23)).alloc (.cells #[.bool false, .string ⟨#[]⟩, .string ⟨#[]⟩] 27)) = wb at o_c o_r hbw ⊢

  have E1 : Hid ([((p : Int) : Int), ((q : Int) : Int)] = [p, q].map fun (x : Nat) => (x : Int)) := by
    have := hv.all; exact Lib.hid (by simp <;> omega)
  have E2 : Hid ([((n : Int) : Int)] = [n].map fun (x : Nat) => (x : Int)) := by
    have := hv.all; exact Lib.hid (by simp <;> omega)
  have M1 : Hid (Smalls [p, q]) := by
    have := hv.all; exact Lib.hid ⟨by simp, by simp <;> omega⟩
  have M2 : Hid (Smalls [n]) := by
    have := hv.all; exact Lib.hid ⟨by simp, by simp <;> omega⟩
  clear hv; obtain ⟨qc_0, qc_1, qc_2, qc_3⟩ := o_c.cells4
  go_wp2_with fail
  clear qc_0 qc_1 qc_2 qc_3; refine (rmv_yes HV.out _).mono ?_; rintro e w1 ⟨rfl, hb1⟩; replace o_c := o_c.below hb1 o_c.lt; replace o_r := o_r.below hb1 o_r.lt; replace hbw := below6 hbw hb1; clear hb1; obtain ⟨qc_0, qc_1, qc_2, qc_3⟩ := o_c.cells4
  go_upto_region 3 with (fail)
  obtain ⟨qc_0, qc_1, qc_2, qc_3⟩ := o_c.cells4; obtain ⟨qm0_0, qm0_1, qm0_2, qm0_3⟩ := (o_c.alloc (.cells #[.int .i64 ((p : Int)), .int .i64 ((q : Int))] 3)).cells4; obtain ⟨o_s0, o_s1, hz2⟩ := new2 w1 [.int .i64 ((p : Int)), .int .i64 ((q : Int))] [.int .i64 ((n : Int))] 3 3; replace o_c := o_c.alloc (.cells #[.int .i64 ((p : Int)), .int .i64 ((q : Int))] 3); replace o_c := o_c.alloc (.cells #[.int .i64 ((n : Int))] 3); replace o_r := o_r.alloc (.cells #[.int .i64 ((p : Int)), .int .i64 ((q : Int))] 3); replace o_r := o_r.alloc (.cells #[.int .i64 ((n : Int))] 3); replace hbw := below6 hbw hz2; clear hz2
  go_wp2_with fail
  generalize ((w1.alloc (.cells #[.int .i64 ((p : Int)), .int .i64 ((q : Int))] 3)).alloc (.cells #[.int .i64 ((n : Int))] 3)) = wa3 at o_c o_r o_s0 o_s1 hbw ⊢; generalize w1.heap.size = g3 at o_s0 o_s1 ⊢; refine (of38_ref (some ⟨g3, 0, none⟩) [((p : Int) : Int), ((q : Int) : Int)] [p, q] 2 (some ⟨g3 + 1, 0, none⟩) [((n : Int) : Int)] [n] 1 _ o_s0.rd0 E1.out (by simp) (by decide) M1.out o_s1.rd0 E2.out (by simp) (by decide) M2.out).mono ?_; rintro e w9 ⟨hq, hb9⟩; have he := HEND.out _ hq; subst he; replace o_c := o_c.below hb9 o_c.lt; replace o_r := o_r.below hb9 o_r.lt; replace hbw := below6 hbw hb9; clear hb9 hq o_s0 o_s1; obtain ⟨qr_0, qr_1, qr_2⟩ := o_r.cells3; obtain ⟨fr_0, fr_1, fr_2⟩ := o_r.frozens3; have oz := o_r.set3 (.bool nz) (.string sz) (.string tz); have sz9 := Below.set3 hbw (g := w.heap.size + 1) (by omega) (.bool nz) (.string sz) (.string tz)
  go_wp2_with fail
  generalize (((w9.setCell ⟨w.heap.size + 1, 0, none⟩ (.bool nz)).setCell ⟨w.heap.size + 1, 1, none⟩ (.string sz)).setCell ⟨w.heap.size + 1, 2, none⟩ (.string tz)) = wz at oz sz9 ⊢; obtain ⟨z0, z1, z2⟩ := oz.cells3; exact bodyPost_ret (v := .tuple #[.agg #[.bool nz, .string sz, .string tz], .int .i64 kz]) (by simp [results, Tryz.results7, go_sem, z0, z1, z2]) rfl ⟨HRES.out, sz9⟩
theorem dice_ref {a p q n : Nat} (hv : VC a p q n) (w : World) :
    Calls Tryz.prog 11 #[.agg #[.int .i64 (a : Int), .int .i64 (p : Int), .int .i64 (q : Int), .int .i64 (n : Int)]] w fun e w' => QRes (prodN [2, a]) (prodN [p + q]) e ∧ Below w.heap.size w w' := by
  have HV := Lib.hid hv; obtain ⟨nz, sz, tz, kz, hend, hres⟩ := qres_one (prodN [2, a]) (prodN [p + q]); have HEND := Lib.hid hend; have HRES := Lib.hid hres; clear hend hres; obtain ⟨o_c, o_r, hbw⟩ := new2 w [.int .i64 (a : Int), .int .i64 (p : Int), .int .i64 (q : Int), .int .i64 (n : Int)] [.bool false, .string ⟨#[]⟩, .string ⟨#[]⟩] 23 27
  go_enter Tryz.func11, Tryz.ntmps11
  go_upto_region 1 with (fail)
  generalize ((w.alloc (.cells #[.int .i64 (a : Int), .int .i64 (p : Int), .int .i64 (q : Int), .int .i64 (n : Int)] 23)).alloc (.cells #[.bool false, .string ⟨#[]⟩, .string ⟨#[]⟩] 27)) = wb at o_c o_r hbw ⊢; have z1 : IntKind.i64.wrap ((p : Int) + (q : Int)) = (p : Int) + (q : Int) := IntWalk.i64_in _ (by have := hv.all; omega); have E1 : Hid ([(2 : Int), ((a : Int) : Int)] = [2, a].map fun (x : Nat) => (x : Int)) := by
    have := hv.all; exact Lib.hid (by simp <;> omega)
  have E2 : Hid ([((p : Int) + (q : Int) : Int)] = [p + q].map fun (x : Nat) => (x : Int)) := by
    have := hv.all; exact Lib.hid (by simp <;> omega)
  have M1 : Hid (Smalls [2, a]) := by
    have := hv.all; exact Lib.hid ⟨by simp, by simp <;> omega⟩
  have M2 : Hid (Smalls [p + q]) := by
    have := hv.all; exact Lib.hid ⟨by simp, by simp <;> omega⟩
  clear hv; obtain ⟨qc_0, qc_1, qc_2, qc_3⟩ := o_c.cells4
  go_wp2_with fail
  clear qc_0 qc_1 qc_2 qc_3; refine (rmv_yes HV.out _).mono ?_; rintro e w1 ⟨rfl, hb1⟩; replace o_c := o_c.below hb1 o_c.lt; replace o_r := o_r.below hb1 o_r.lt; replace hbw := below6 hbw hb1; clear hb1; obtain ⟨qc_0, qc_1, qc_2, qc_3⟩ := o_c.cells4
  go_upto_region 3 with (fail)
  obtain ⟨qc_0, qc_1, qc_2, qc_3⟩ := o_c.cells4; obtain ⟨qm0_0, qm0_1, qm0_2, qm0_3⟩ := (o_c.alloc (.cells #[.int .i64 (2), .int .i64 ((a : Int))] 3)).cells4; obtain ⟨o_s0, o_s1, hz2⟩ := new2 w1 [.int .i64 (2), .int .i64 ((a : Int))] [.int .i64 ((p : Int) + (q : Int))] 3 3; replace o_c := o_c.alloc (.cells #[.int .i64 (2), .int .i64 ((a : Int))] 3); replace o_c := o_c.alloc (.cells #[.int .i64 ((p : Int) + (q : Int))] 3); replace o_r := o_r.alloc (.cells #[.int .i64 (2), .int .i64 ((a : Int))] 3); replace o_r := o_r.alloc (.cells #[.int .i64 ((p : Int) + (q : Int))] 3); replace hbw := below6 hbw hz2; clear hz2
  go_wp2_with fail
  generalize ((w1.alloc (.cells #[.int .i64 (2), .int .i64 ((a : Int))] 3)).alloc (.cells #[.int .i64 ((p : Int) + (q : Int))] 3)) = wa3 at o_c o_r o_s0 o_s1 hbw ⊢; generalize w1.heap.size = g3 at o_s0 o_s1 ⊢; refine (of38_ref (some ⟨g3, 0, none⟩) [(2 : Int), ((a : Int) : Int)] [2, a] 2 (some ⟨g3 + 1, 0, none⟩) [((p : Int) + (q : Int) : Int)] [p + q] 1 _ o_s0.rd0 E1.out (by simp) (by decide) M1.out o_s1.rd0 E2.out (by simp) (by decide) M2.out).mono ?_; rintro e w9 ⟨hq, hb9⟩; have he := HEND.out _ hq; subst he; replace o_c := o_c.below hb9 o_c.lt; replace o_r := o_r.below hb9 o_r.lt; replace hbw := below6 hbw hb9; clear hb9 hq o_s0 o_s1; obtain ⟨qr_0, qr_1, qr_2⟩ := o_r.cells3; obtain ⟨fr_0, fr_1, fr_2⟩ := o_r.frozens3; have oz := o_r.set3 (.bool nz) (.string sz) (.string tz); have sz9 := Below.set3 hbw (g := w.heap.size + 1) (by omega) (.bool nz) (.string sz) (.string tz)
  go_wp2_with fail
  generalize (((w9.setCell ⟨w.heap.size + 1, 0, none⟩ (.bool nz)).setCell ⟨w.heap.size + 1, 1, none⟩ (.string sz)).setCell ⟨w.heap.size + 1, 2, none⟩ (.string tz)) = wz at oz sz9 ⊢; obtain ⟨z0, z1, z2⟩ := oz.cells3; exact bodyPost_ret (v := .tuple #[.agg #[.bool nz, .string sz, .string tz], .int .i64 kz]) (by simp [results, Tryz.results11, go_sem, z0, z1, z2]) rfl ⟨HRES.out, sz9⟩
theorem jaccard_ref {a p q n : Nat} (hv : VC a p q n) (w : World) :
    Calls Tryz.prog 13 #[.agg #[.int .i64 (a : Int), .int .i64 (p : Int), .int .i64 (q : Int), .int .i64 (n : Int)]] w fun e w' => QRes (prodN [a]) (prodN [p + q - a]) e ∧ Below w.heap.size w w' := by
  have HV := Lib.hid hv; obtain ⟨nz, sz, tz, kz, hend, hres⟩ := qres_one (prodN [a]) (prodN [p + q - a]); have HEND := Lib.hid hend; have HRES := Lib.hid hres; clear hend hres; obtain ⟨o_c, o_r, hbw⟩ := new2 w [.int .i64 (a : Int), .int .i64 (p : Int), .int .i64 (q : Int), .int .i64 (n : Int)] [.bool false, .string ⟨#[]⟩, .string ⟨#[]⟩] 23 27
  go_enter Tryz.func13, Tryz.ntmps13
  go_upto_region 1 with (fail)
  generalize ((w.alloc (.cells #[.int .i64 (a : Int), .int .i64 (p : Int), .int .i64 (q : Int), .int .i64 (n : Int)] 23)).alloc (.cells #[.bool false, .string ⟨#[]⟩, .string ⟨#[]⟩] 27)) = wb at o_c o_r hbw ⊢; have z1 : IntKind.i64.wrap ((p : Int) + (q : Int)) = (p : Int) + (q : Int) := IntWalk.i64_in _ (by have := hv.all; omega); have z2 : IntKind.i64.wrap ((p : Int) + (q : Int) - (a : Int)) = (p : Int) + (q : Int) - (a : Int) := IntWalk.i64_in _ (by have := hv.all; omega); have E1 : Hid ([((a : Int) : Int)] = [a].map fun (x : Nat) => (x : Int)) := by
    have := hv.all; exact Lib.hid (by simp <;> omega)
  have E2 : Hid ([((p : Int) + (q : Int) - (a : Int) : Int)] = [p + q - a].map fun (x : Nat) => (x : Int)) := by
    have := hv.all; exact Lib.hid (by simp <;> omega)
  have M1 : Hid (Smalls [a]) := by
    have := hv.all; exact Lib.hid ⟨by simp, by simp <;> omega⟩
  have M2 : Hid (Smalls [p + q - a]) := by
    have := hv.all; exact Lib.hid ⟨by simp, by simp <;> omega⟩
  clear hv; obtain ⟨qc_0, qc_1, qc_2, qc_3⟩ := o_c.cells4
  go_wp2_with fail
  clear qc_0 qc_1 qc_2 qc_3; refine (rmv_yes HV.out _).mono ?_; rintro e w1 ⟨rfl, hb1⟩; replace o_c := o_c.below hb1 o_c.lt; replace o_r := o_r.below hb1 o_r.lt; replace hbw := below6 hbw hb1; clear hb1; obtain ⟨qc_0, qc_1, qc_2, qc_3⟩ := o_c.cells4
  go_upto_region 3 with (fail)
  obtain ⟨qc_0, qc_1, qc_2, qc_3⟩ := o_c.cells4; obtain ⟨qm0_0, qm0_1, qm0_2, qm0_3⟩ := (o_c.alloc (.cells #[.int .i64 ((a : Int))] 3)).cells4; obtain ⟨o_s0, o_s1, hz2⟩ := new2 w1 [.int .i64 ((a : Int))] [.int .i64 ((p : Int) + (q : Int) - (a : Int))] 3 3; replace o_c := o_c.alloc (.cells #[.int .i64 ((a : Int))] 3); replace o_c := o_c.alloc (.cells #[.int .i64 ((p : Int) + (q : Int) - (a : Int))] 3); replace o_r := o_r.alloc (.cells #[.int .i64 ((a : Int))] 3); replace o_r := o_r.alloc (.cells #[.int .i64 ((p : Int) + (q : Int) - (a : Int))] 3); replace hbw := below6 hbw hz2; clear hz2
  go_wp2_with fail
  generalize ((w1.alloc (.cells #[.int .i64 ((a : Int))] 3)).alloc (.cells #[.int .i64 ((p : Int) + (q : Int) - (a : Int))] 3)) = wa3 at o_c o_r o_s0 o_s1 hbw ⊢; generalize w1.heap.size = g3 at o_s0 o_s1 ⊢; refine (of38_ref (some ⟨g3, 0, none⟩) [((a : Int) : Int)] [a] 1 (some ⟨g3 + 1, 0, none⟩) [((p : Int) + (q : Int) - (a : Int) : Int)] [p + q - a] 1 _ o_s0.rd0 E1.out (by simp) (by decide) M1.out o_s1.rd0 E2.out (by simp) (by decide) M2.out).mono ?_; rintro e w9 ⟨hq, hb9⟩; have he := HEND.out _ hq; subst he; replace o_c := o_c.below hb9 o_c.lt; replace o_r := o_r.below hb9 o_r.lt; replace hbw := below6 hbw hb9; clear hb9 hq o_s0 o_s1; obtain ⟨qr_0, qr_1, qr_2⟩ := o_r.cells3; obtain ⟨fr_0, fr_1, fr_2⟩ := o_r.frozens3; have oz := o_r.set3 (.bool nz) (.string sz) (.string tz); have sz9 := Below.set3 hbw (g := w.heap.size + 1) (by omega) (.bool nz) (.string sz) (.string tz)
  go_wp2_with fail
  generalize (((w9.setCell ⟨w.heap.size + 1, 0, none⟩ (.bool nz)).setCell ⟨w.heap.size + 1, 1, none⟩ (.string sz)).setCell ⟨w.heap.size + 1, 2, none⟩ (.string tz)) = wz at oz sz9 ⊢; obtain ⟨z0, z1, z2⟩ := oz.cells3; exact bodyPost_ret (v := .tuple #[.agg #[.bool nz, .string sz, .string tz], .int .i64 kz]) (by simp [results, Tryz.results13, go_sem, z0, z1, z2]) rfl ⟨HRES.out, sz9⟩
theorem may_ref {a p q n k : Nat} (hv : VC a p q n) (hk : k ≤ 8) (w : World) :
    Calls Tryz.prog 45 #[.agg #[.int .i64 (a : Int), .int .i64 (p : Int), .int .i64 (q : Int), .int .i64 (n : Int)], .int .i64 (k : Int)] w fun e w' => e = .returned (.int .i64 0) ∧ Below w.heap.size w w' := by
  have HV := Lib.hid hv; clear hv; obtain ⟨o_c, hbw⟩ := new1 w [.int .i64 (a : Int), .int .i64 (p : Int), .int .i64 (q : Int), .int .i64 (n : Int)] 23
  go_enter Tryz.func45, Tryz.ntmps45
  go_upto_region 1 with (fail)
  generalize (w.alloc (.cells #[.int .i64 (a : Int), .int .i64 (p : Int), .int .i64 (q : Int), .int .i64 (n : Int)] 23)) = wb at o_c hbw ⊢; have k1 : decide ((k : Int) < 0) = false := decide_eq_false (by omega); have k2 : decide ((k : Int) > 8) = false := decide_eq_false (by omega); have k3 : decide ((8 : Int) < (k : Int)) = false := decide_eq_false (by omega); have k4 : decide ((0 : Int) ≤ (k : Int)) = true := decide_eq_true (by omega); obtain ⟨qc_0, qc_1, qc_2, qc_3⟩ := o_c.cells4
  go_wp2_with fail
  clear qc_0 qc_1 qc_2 qc_3; refine (rmv_yes HV.out _).mono ?_; rintro e w1 ⟨rfl, hb1⟩; replace o_c := o_c.below hb1 o_c.lt; replace hbw := below6 hbw hb1; clear hb1
  go_wp2
  go_ret
  exact ⟨rfl, hbw⟩
theorem mir_zero {p q n k : Nat} (hv : VC 0 p q n) (hk : k ≤ 8) (w : World) :
    Calls Tryz.prog 23 #[.agg #[.int .i64 0, .int .i64 (p : Int), .int .i64 (q : Int), .int .i64 (n : Int)], .int .i64 (k : Int)] w fun e w' => e = .returned (.tuple #[.agg #[.bool false, .string ⟨#[]⟩, .string ⟨#[]⟩, .bool false, .string ⟨#[]⟩, .string ⟨#[]⟩], .int .i64 14]) ∧ Below w.heap.size w w' := by
  have HV := Lib.hid hv; have HK := Lib.hid hk; clear hv hk; obtain ⟨o_c, o_r, hbw⟩ := new2 w [.int .i64 0, .int .i64 (p : Int), .int .i64 (q : Int), .int .i64 (n : Int)] [.bool false, .string ⟨#[]⟩, .string ⟨#[]⟩, .bool false, .string ⟨#[]⟩, .string ⟨#[]⟩] 23 33
  go_enter Tryz.func23, Tryz.ntmps23
  go_upto_region 1 with (fail)
  generalize ((w.alloc (.cells #[.int .i64 0, .int .i64 (p : Int), .int .i64 (q : Int), .int .i64 (n : Int)] 23)).alloc (.cells #[.bool false, .string ⟨#[]⟩, .string ⟨#[]⟩, .bool false, .string ⟨#[]⟩, .string ⟨#[]⟩] 33)) = wb at o_c o_r hbw ⊢; obtain ⟨qc_0, qc_1, qc_2, qc_3⟩ := o_c.cells4
  go_wp2_with fail
  clear qc_0 qc_1 qc_2 qc_3; refine (may_ref HV.out HK.out _).mono ?_; rintro e w1 ⟨rfl, hb1⟩; replace o_c := o_c.below hb1 o_c.lt; replace o_r := o_r.below hb1 o_r.lt; replace hbw := below6 hbw hb1; clear hb1; obtain ⟨qc_0, qc_1, qc_2, qc_3⟩ := o_c.cells4; obtain ⟨qr_0, qr_1, qr_2, qr_3, qr_4, qr_5⟩ := o_r.cells6; obtain ⟨fr_0, fr_1, fr_2, fr_3, fr_4, fr_5⟩ := o_r.frozens6; have oz := o_r.set6 (.bool false) (.string ⟨#[]⟩) (.string ⟨#[]⟩) (.bool false) (.string ⟨#[]⟩) (.string ⟨#[]⟩); have sz9 := Below.set6 hbw (g := w.heap.size + 1) (by omega) (.bool false) (.string ⟨#[]⟩) (.string ⟨#[]⟩) (.bool false) (.string ⟨#[]⟩) (.string ⟨#[]⟩)
  go_wp2_with fail
  generalize ((((((w1.setCell ⟨w.heap.size + 1, 0, none⟩ (.bool false)).setCell ⟨w.heap.size + 1, 1, none⟩ (.string ⟨#[]⟩)).setCell ⟨w.heap.size + 1, 2, none⟩ (.string ⟨#[]⟩)).setCell ⟨w.heap.size + 1, 3, none⟩ (.bool false)).setCell ⟨w.heap.size + 1, 4, none⟩ (.string ⟨#[]⟩)).setCell ⟨w.heap.size + 1, 5, none⟩ (.string ⟨#[]⟩)) = wz at oz sz9 ⊢; obtain ⟨z0, z1, z2, z3, z4, z5⟩ := oz.cells6; exact bodyPost_ret (v := .tuple #[.agg #[.bool false, .string ⟨#[]⟩, .string ⟨#[]⟩, .bool false, .string ⟨#[]⟩, .string ⟨#[]⟩], .int .i64 14]) (by simp [results, Tryz.results23, go_sem, z0, z1, z2, z3, z4, z5]) rfl ⟨rfl, sz9⟩
theorem mir_core {a p q n k : Nat} (nx : Bool) (sx tx : ByteArray) (ny : Bool) (sy ty : ByteArray) (nz : Bool) (sz tz : ByteArray) (hv : VC a p q n) (hk : k ≤ 8) (ha : 0 < a) (hq : ∀ e, QRes (prodN [a, n]) (prodN [p, q]) e → e = .returned (.tuple #[.agg #[.bool nx, .string sx, .string tx], .int .i64 0])) (hb : RetV 46 #[.agg #[.bool nx, .string sx, .string tx], .int .i64 (k : Int)] (.tuple #[.agg #[.bool ny, .string sy, .string ty, .bool nz, .string sz, .string tz], .int .i64 0])) (w : World) :
    Calls Tryz.prog 23 #[.agg #[.int .i64 (a : Int), .int .i64 (p : Int), .int .i64 (q : Int), .int .i64 (n : Int)], .int .i64 (k : Int)] w fun e w' => e = .returned (.tuple #[.agg #[.bool ny, .string sy, .string ty, .bool nz, .string sz, .string tz], .int .i64 0]) ∧ Below w.heap.size w w' := by
  have HV := Lib.hid hv; have HK := Lib.hid hk; clear hv hk; have HA0 := Lib.hid ha; have HEND := Lib.hid hq; have HBI := Lib.hid hb; clear ha hq hb; obtain ⟨o_c, o_r, hbw⟩ := new2 w [.int .i64 (a : Int), .int .i64 (p : Int), .int .i64 (q : Int), .int .i64 (n : Int)] [.bool false, .string ⟨#[]⟩, .string ⟨#[]⟩, .bool false, .string ⟨#[]⟩, .string ⟨#[]⟩] 23 33
  go_enter Tryz.func23, Tryz.ntmps23
  go_upto_region 1 with (fail)
  generalize ((w.alloc (.cells #[.int .i64 (a : Int), .int .i64 (p : Int), .int .i64 (q : Int), .int .i64 (n : Int)] 23)).alloc (.cells #[.bool false, .string ⟨#[]⟩, .string ⟨#[]⟩, .bool false, .string ⟨#[]⟩, .string ⟨#[]⟩] 33)) = wb at o_c o_r hbw ⊢; obtain ⟨qc_0, qc_1, qc_2, qc_3⟩ := o_c.cells4
  go_wp2_with fail
  clear qc_0 qc_1 qc_2 qc_3; refine (may_ref HV.out HK.out _).mono ?_; rintro e w1 ⟨rfl, hb1⟩; replace o_c := o_c.below hb1 o_c.lt; replace o_r := o_r.below hb1 o_r.lt; replace hbw := below6 hbw hb1; clear hb1; have ha0 : decide ((a : Int) = 0) = false := decide_eq_false (by have := HA0.out; omega); have ha1 : decide (a = 0) = false := decide_eq_false (by have := HA0.out; omega); have ha2 : ((a : Int) == 0) = false := beq_eq_false_iff_ne.2 (by have := HA0.out; omega); have ha3 : (a == 0) = false := beq_eq_false_iff_ne.2 (by have := HA0.out; omega); obtain ⟨qc_0, qc_1, qc_2, qc_3⟩ := o_c.cells4
  go_upto_region 6 with (fail)
  have E1 : Hid ([(a : Int), (n : Int)] = [a, n].map fun (x : Nat) => (x : Int)) := by
    have := HV.out.all; exact Lib.hid (by simp <;> omega)
  have M1 : Hid (Smalls [a, n]) := by
    have := HV.out.all; exact Lib.hid ⟨by simp, by simp <;> omega⟩
  have E2 : Hid ([(p : Int), (q : Int)] = [p, q].map fun (x : Nat) => (x : Int)) := by
    have := HV.out.all; exact Lib.hid (by simp <;> omega)
  have M2 : Hid (Smalls [p, q]) := by
    have := HV.out.all; exact Lib.hid ⟨by simp, by simp <;> omega⟩
  obtain ⟨qc_0, qc_1, qc_2, qc_3⟩ := o_c.cells4; obtain ⟨qm0_0, qm0_1, qm0_2, qm0_3⟩ := (o_c.alloc (.cells #[.int .i64 ((a : Int)), .int .i64 ((n : Int))] 3)).cells4; obtain ⟨o_s0, o_s1, hz2⟩ := new2 w1 [.int .i64 ((a : Int)), .int .i64 ((n : Int))] [.int .i64 ((p : Int)), .int .i64 ((q : Int))] 3 3; replace o_c := o_c.alloc (.cells #[.int .i64 ((a : Int)), .int .i64 ((n : Int))] 3); replace o_c := o_c.alloc (.cells #[.int .i64 ((p : Int)), .int .i64 ((q : Int))] 3); replace o_r := o_r.alloc (.cells #[.int .i64 ((a : Int)), .int .i64 ((n : Int))] 3); replace o_r := o_r.alloc (.cells #[.int .i64 ((p : Int)), .int .i64 ((q : Int))] 3); replace hbw := below6 hbw hz2; clear hz2
  go_wp2_with fail
  generalize ((w1.alloc (.cells #[.int .i64 ((a : Int)), .int .i64 ((n : Int))] 3)).alloc (.cells #[.int .i64 ((p : Int)), .int .i64 ((q : Int))] 3)) = wa3 at o_c o_r o_s0 o_s1 hbw ⊢; generalize w1.heap.size = g3 at o_s0 o_s1 ⊢; refine (of38_ref (some ⟨g3, 0, none⟩) [(a : Int), (n : Int)] [a, n] 2 (some ⟨g3 + 1, 0, none⟩) [(p : Int), (q : Int)] [p, q] 2 _ o_s0.rd0 E1.out (by simp) (by decide) M1.out o_s1.rd0 E2.out (by simp) (by decide) M2.out).mono ?_; rintro e w9 ⟨hq, hb9⟩; have he := HEND.out _ hq; subst he; replace o_c := o_c.below hb9 o_c.lt; replace o_r := o_r.below hb9 o_r.lt; replace hbw := below6 hbw hb9; clear hb9 hq o_s0 o_s1; obtain ⟨o_x, hz4⟩ := new1 w9 [.bool nx, .string sx, .string tx] 27; replace o_c := o_c.alloc (.cells #[.bool nx, .string sx, .string tx] 27); replace o_r := o_r.alloc (.cells #[.bool nx, .string sx, .string tx] 27); replace hbw := below6 hbw hz4; clear hz4
  go_upto_region 7 with (fail)
  generalize (w9.alloc (.cells #[.bool nx, .string sx, .string tx] 27)) = wa5 at o_c o_r o_x hbw ⊢; generalize w9.heap.size = g5 at o_x ⊢; obtain ⟨qx_0, qx_1, qx_2⟩ := o_x.cells3
  go_wp2_with fail
  clear qx_0 qx_1 qx_2; refine (HBI.out _).mono ?_; rintro e w6 ⟨rfl, hb6⟩; replace o_c := o_c.below hb6 o_c.lt; replace o_r := o_r.below hb6 o_r.lt; replace o_x := o_x.below hb6 o_x.lt; replace hbw := below6 hbw hb6; clear hb6; obtain ⟨qr_0, qr_1, qr_2, qr_3, qr_4, qr_5⟩ := o_r.cells6; obtain ⟨fr_0, fr_1, fr_2, fr_3, fr_4, fr_5⟩ := o_r.frozens6; have oz := o_r.set6 (.bool ny) (.string sy) (.string ty) (.bool nz) (.string sz) (.string tz); have sz9 := Below.set6 hbw (g := w.heap.size + 1) (by omega) (.bool ny) (.string sy) (.string ty) (.bool nz) (.string sz) (.string tz)
  go_wp2_with fail
  generalize ((((((w6.setCell ⟨w.heap.size + 1, 0, none⟩ (.bool ny)).setCell ⟨w.heap.size + 1, 1, none⟩ (.string sy)).setCell ⟨w.heap.size + 1, 2, none⟩ (.string ty)).setCell ⟨w.heap.size + 1, 3, none⟩ (.bool nz)).setCell ⟨w.heap.size + 1, 4, none⟩ (.string sz)).setCell ⟨w.heap.size + 1, 5, none⟩ (.string tz)) = wz at oz sz9 ⊢; obtain ⟨z0, z1, z2, z3, z4, z5⟩ := oz.cells6; exact bodyPost_ret (v := .tuple #[.agg #[.bool ny, .string sy, .string ty, .bool nz, .string sz, .string tz], .int .i64 0]) (by simp [results, Tryz.results23, go_sem, z0, z1, z2, z3, z4, z5]) rfl ⟨rfl, sz9⟩
theorem ldr_zero {p q n k : Nat} (hv : VC 0 p q n) (hk : k ≤ 8) (w : World) :
    Calls Tryz.prog 27 #[.agg #[.int .i64 0, .int .i64 (p : Int), .int .i64 (q : Int), .int .i64 (n : Int)], .int .i64 (k : Int)] w fun e w' => e = .returned (.tuple #[.agg #[.bool false, .string ⟨#[]⟩, .string ⟨#[]⟩, .bool false, .string ⟨#[]⟩, .string ⟨#[]⟩], .int .i64 14]) ∧ Below w.heap.size w w' := by
  have HV := Lib.hid hv; have HK := Lib.hid hk; clear hv hk; obtain ⟨o_c, o_r, hbw⟩ := new2 w [.int .i64 0, .int .i64 (p : Int), .int .i64 (q : Int), .int .i64 (n : Int)] [.bool false, .string ⟨#[]⟩, .string ⟨#[]⟩, .bool false, .string ⟨#[]⟩, .string ⟨#[]⟩] 23 33
  go_enter Tryz.func27, Tryz.ntmps27
  go_upto_region 1 with (fail)
  generalize ((w.alloc (.cells #[.int .i64 0, .int .i64 (p : Int), .int .i64 (q : Int), .int .i64 (n : Int)] 23)).alloc (.cells #[.bool false, .string ⟨#[]⟩, .string ⟨#[]⟩, .bool false, .string ⟨#[]⟩, .string ⟨#[]⟩] 33)) = wb at o_c o_r hbw ⊢; obtain ⟨qc_0, qc_1, qc_2, qc_3⟩ := o_c.cells4
  go_wp2_with fail
  clear qc_0 qc_1 qc_2 qc_3; refine (may_ref HV.out HK.out _).mono ?_; rintro e w1 ⟨rfl, hb1⟩; replace o_c := o_c.below hb1 o_c.lt; replace o_r := o_r.below hb1 o_r.lt; replace hbw := below6 hbw hb1; clear hb1; obtain ⟨qc_0, qc_1, qc_2, qc_3⟩ := o_c.cells4; obtain ⟨qr_0, qr_1, qr_2, qr_3, qr_4, qr_5⟩ := o_r.cells6; obtain ⟨fr_0, fr_1, fr_2, fr_3, fr_4, fr_5⟩ := o_r.frozens6; have oz := o_r.set6 (.bool false) (.string ⟨#[]⟩) (.string ⟨#[]⟩) (.bool false) (.string ⟨#[]⟩) (.string ⟨#[]⟩); have sz9 := Below.set6 hbw (g := w.heap.size + 1) (by omega) (.bool false) (.string ⟨#[]⟩) (.string ⟨#[]⟩) (.bool false) (.string ⟨#[]⟩) (.string ⟨#[]⟩)
  go_wp2_with fail
  generalize ((((((w1.setCell ⟨w.heap.size + 1, 0, none⟩ (.bool false)).setCell ⟨w.heap.size + 1, 1, none⟩ (.string ⟨#[]⟩)).setCell ⟨w.heap.size + 1, 2, none⟩ (.string ⟨#[]⟩)).setCell ⟨w.heap.size + 1, 3, none⟩ (.bool false)).setCell ⟨w.heap.size + 1, 4, none⟩ (.string ⟨#[]⟩)).setCell ⟨w.heap.size + 1, 5, none⟩ (.string ⟨#[]⟩)) = wz at oz sz9 ⊢; obtain ⟨z0, z1, z2, z3, z4, z5⟩ := oz.cells6; exact bodyPost_ret (v := .tuple #[.agg #[.bool false, .string ⟨#[]⟩, .string ⟨#[]⟩, .bool false, .string ⟨#[]⟩, .string ⟨#[]⟩], .int .i64 14]) (by simp [results, Tryz.results27, go_sem, z0, z1, z2, z3, z4, z5]) rfl ⟨rfl, sz9⟩
theorem ldr_core {a p q n k : Nat} (nx : Bool) (sx tx : ByteArray) (ny : Bool) (sy ty : ByteArray) (nz : Bool) (sz tz : ByteArray) (nf : Bool) (sf tf : ByteArray) (nu : Bool) (su tu : ByteArray) (nv : Bool) (sv tv : ByteArray) (hv : VC a p q n) (hk : k ≤ 8) (ha : 0 < a) (hq : ∀ e, QRes (prodN [2, a]) (prodN [p + q]) e → e = .returned (.tuple #[.agg #[.bool nx, .string sx, .string tx], .int .i64 0])) (hb : RetV 46 #[.agg #[.bool nx, .string sx, .string tx], .int .i64 (k : Int)] (.tuple #[.agg #[.bool ny, .string sy, .string ty, .bool nz, .string sz, .string tz], .int .i64 0]))
    (hw : RetV 39 #[.int .i64 14, .int .i64 1] (.tuple #[.agg #[.bool nf, .string sf, .string tf], .int .i64 0])) (hx : RetV 50 #[.agg #[.bool nf, .string sf, .string tf]] (.tuple #[.agg #[.bool nf, .string sf, .string tf, .bool nf, .string sf, .string tf], .int .i64 0])) (hd : RetV 52 #[.agg #[.bool nf, .string sf, .string tf, .bool nf, .string sf, .string tf], .agg #[.bool ny, .string sy, .string ty, .bool nz, .string sz, .string tz]] (.tuple #[.agg #[.bool nu, .string su, .string tu, .bool nv, .string sv, .string tv], .int .i64 0])) (w : World) :
    Calls Tryz.prog 27 #[.agg #[.int .i64 (a : Int), .int .i64 (p : Int), .int .i64 (q : Int), .int .i64 (n : Int)], .int .i64 (k : Int)] w fun e w' => e = .returned (.tuple #[.agg #[.bool nu, .string su, .string tu, .bool nv, .string sv, .string tv], .int .i64 0]) ∧ Below w.heap.size w w' := by
  have HV := Lib.hid hv; have HK := Lib.hid hk; clear hv hk; have HA0 := Lib.hid ha; have HEND := Lib.hid hq; have HBI := Lib.hid hb; have HWH := Lib.hid hw; have HEX := Lib.hid hx; have HAD := Lib.hid hd; clear ha hq hb hw hx hd; obtain ⟨o_c, o_r, hbw⟩ := new2 w [.int .i64 (a : Int), .int .i64 (p : Int), .int .i64 (q : Int), .int .i64 (n : Int)] [.bool false, .string ⟨#[]⟩, .string ⟨#[]⟩, .bool false, .string ⟨#[]⟩, .string ⟨#[]⟩] 23 33
  go_enter Tryz.func27, Tryz.ntmps27
  go_upto_region 1 with (fail)
  generalize ((w.alloc (.cells #[.int .i64 (a : Int), .int .i64 (p : Int), .int .i64 (q : Int), .int .i64 (n : Int)] 23)).alloc (.cells #[.bool false, .string ⟨#[]⟩, .string ⟨#[]⟩, .bool false, .string ⟨#[]⟩, .string ⟨#[]⟩] 33)) = wb at o_c o_r hbw ⊢; obtain ⟨qc_0, qc_1, qc_2, qc_3⟩ := o_c.cells4
  go_wp2_with fail
  clear qc_0 qc_1 qc_2 qc_3; refine (may_ref HV.out HK.out _).mono ?_; rintro e w1 ⟨rfl, hb1⟩; replace o_c := o_c.below hb1 o_c.lt; replace o_r := o_r.below hb1 o_r.lt; replace hbw := below6 hbw hb1; clear hb1; have ha0 : decide ((a : Int) = 0) = false := decide_eq_false (by have := HA0.out; omega); have ha1 : decide (a = 0) = false := decide_eq_false (by have := HA0.out; omega); have ha2 : ((a : Int) == 0) = false := beq_eq_false_iff_ne.2 (by have := HA0.out; omega); have ha3 : (a == 0) = false := beq_eq_false_iff_ne.2 (by have := HA0.out; omega); obtain ⟨qc_0, qc_1, qc_2, qc_3⟩ := o_c.cells4
  go_wp2_with fail
  clear qc_0 qc_1 qc_2 qc_3; refine (dice_ref HV.out _).mono ?_; rintro e w9 ⟨hq, hb9⟩; have he := HEND.out _ hq; subst he; replace o_c := o_c.below hb9 o_c.lt; replace o_r := o_r.below hb9 o_r.lt; replace hbw := below6 hbw hb9; clear hb9 hq; obtain ⟨o_x, hz2⟩ := new1 w9 [.bool nx, .string sx, .string tx] 27; replace o_c := o_c.alloc (.cells #[.bool nx, .string sx, .string tx] 27); replace o_r := o_r.alloc (.cells #[.bool nx, .string sx, .string tx] 27); replace hbw := below6 hbw hz2; clear hz2
  go_upto_region 7 with (fail)
  generalize (w9.alloc (.cells #[.bool nx, .string sx, .string tx] 27)) = wa3 at o_c o_r o_x hbw ⊢; generalize w9.heap.size = g3 at o_x ⊢; obtain ⟨qx_0, qx_1, qx_2⟩ := o_x.cells3
  go_wp2_with fail
  clear qx_0 qx_1 qx_2; refine (HBI.out _).mono ?_; rintro e w4 ⟨rfl, hb4⟩; replace o_c := o_c.below hb4 o_c.lt; replace o_r := o_r.below hb4 o_r.lt; replace o_x := o_x.below hb4 o_x.lt; replace hbw := below6 hbw hb4; clear hb4; obtain ⟨o_y, hz5⟩ := new1 w4 [.bool ny, .string sy, .string ty, .bool nz, .string sz, .string tz] 33; replace o_c := o_c.alloc (.cells #[.bool ny, .string sy, .string ty, .bool nz, .string sz, .string tz] 33); replace o_r := o_r.alloc (.cells #[.bool ny, .string sy, .string ty, .bool nz, .string sz, .string tz] 33); replace o_x := o_x.alloc (.cells #[.bool ny, .string sy, .string ty, .bool nz, .string sz, .string tz] 33); replace hbw := below6 hbw hz5; clear hz5
  go_upto_region 10 with (fail)
  generalize (w4.alloc (.cells #[.bool ny, .string sy, .string ty, .bool nz, .string sz, .string tz] 33)) = wa6 at o_c o_r o_x o_y hbw ⊢; generalize w4.heap.size = g6 at o_y ⊢
  go_wp2_with fail
  refine (HWH.out _).mono ?_; rintro e w7 ⟨rfl, hb7⟩; replace o_c := o_c.below hb7 o_c.lt; replace o_r := o_r.below hb7 o_r.lt; replace o_x := o_x.below hb7 o_x.lt; replace o_y := o_y.below hb7 o_y.lt; replace hbw := below6 hbw hb7; clear hb7; obtain ⟨o_f, hz8⟩ := new1 w7 [.bool nf, .string sf, .string tf] 27; replace o_c := o_c.alloc (.cells #[.bool nf, .string sf, .string tf] 27); replace o_r := o_r.alloc (.cells #[.bool nf, .string sf, .string tf] 27); replace o_x := o_x.alloc (.cells #[.bool nf, .string sf, .string tf] 27); replace o_y := o_y.alloc (.cells #[.bool nf, .string sf, .string tf] 27); replace hbw := below6 hbw hz8; clear hz8
  go_upto_region 11 with (fail)
  generalize (w7.alloc (.cells #[.bool nf, .string sf, .string tf] 27)) = wa9 at o_c o_r o_x o_y o_f hbw ⊢; generalize w7.heap.size = g9 at o_f ⊢; obtain ⟨qf_0, qf_1, qf_2⟩ := o_f.cells3
  go_wp2_with fail
  clear qf_0 qf_1 qf_2; refine (HEX.out _).mono ?_; rintro e w10 ⟨rfl, hb10⟩; replace o_c := o_c.below hb10 o_c.lt; replace o_r := o_r.below hb10 o_r.lt; replace o_x := o_x.below hb10 o_x.lt; replace o_y := o_y.below hb10 o_y.lt; replace o_f := o_f.below hb10 o_f.lt; replace hbw := below6 hbw hb10; clear hb10; obtain ⟨o_j, hz11⟩ := new1 w10 [.bool nf, .string sf, .string tf, .bool nf, .string sf, .string tf] 33; replace o_c := o_c.alloc (.cells #[.bool nf, .string sf, .string tf, .bool nf, .string sf, .string tf] 33); replace o_r := o_r.alloc (.cells #[.bool nf, .string sf, .string tf, .bool nf, .string sf, .string tf] 33); replace o_x := o_x.alloc (.cells #[.bool nf, .string sf, .string tf, .bool nf, .string sf, .string tf] 33); replace o_y := o_y.alloc (.cells #[.bool nf, .string sf, .string tf, .bool nf, .string sf, .string tf] 33); replace o_f := o_f.alloc (.cells #[.bool nf, .string sf, .string tf, .bool nf, .string sf, .string tf] 33)
  replace hbw := below6 hbw hz11; clear hz11
  go_upto_region 12 with (fail)
  generalize (w10.alloc (.cells #[.bool nf, .string sf, .string tf, .bool nf, .string sf, .string tf] 33)) = wa12 at o_c o_r o_x o_y o_f o_j hbw ⊢; generalize w10.heap.size = g12 at o_j ⊢; obtain ⟨qj_0, qj_1, qj_2, qj_3, qj_4, qj_5⟩ := o_j.cells6; obtain ⟨qy_0, qy_1, qy_2, qy_3, qy_4, qy_5⟩ := o_y.cells6
  go_wp2_with fail
  clear qj_0 qj_1 qj_2 qj_3 qj_4 qj_5 qy_0 qy_1 qy_2 qy_3 qy_4 qy_5; refine (HAD.out _).mono ?_; rintro e w13 ⟨rfl, hb13⟩; replace o_c := o_c.below hb13 o_c.lt; replace o_r := o_r.below hb13 o_r.lt; replace o_x := o_x.below hb13 o_x.lt; replace o_y := o_y.below hb13 o_y.lt; replace o_f := o_f.below hb13 o_f.lt; replace o_j := o_j.below hb13 o_j.lt; replace hbw := below6 hbw hb13; clear hb13; obtain ⟨qr_0, qr_1, qr_2, qr_3, qr_4, qr_5⟩ := o_r.cells6; obtain ⟨fr_0, fr_1, fr_2, fr_3, fr_4, fr_5⟩ := o_r.frozens6; have oz := o_r.set6 (.bool nu) (.string su) (.string tu) (.bool nv) (.string sv) (.string tv); have sz9 := Below.set6 hbw (g := w.heap.size + 1) (by omega) (.bool nu) (.string su) (.string tu) (.bool nv) (.string sv) (.string tv)
  go_wp2_with fail
  generalize ((((((w13.setCell ⟨w.heap.size + 1, 0, none⟩ (.bool nu)).setCell ⟨w.heap.size + 1, 1, none⟩ (.string su)).setCell ⟨w.heap.size + 1, 2, none⟩ (.string tu)).setCell ⟨w.heap.size + 1, 3, none⟩ (.bool nv)).setCell ⟨w.heap.size + 1, 4, none⟩ (.string sv)).setCell ⟨w.heap.size + 1, 5, none⟩ (.string tv)) = wz at oz sz9 ⊢; obtain ⟨z0, z1, z2, z3, z4, z5⟩ := oz.cells6; exact bodyPost_ret (v := .tuple #[.agg #[.bool nu, .string su, .string tu, .bool nv, .string sv, .string tv], .int .i64 0]) (by simp [results, Tryz.results27, go_sem, z0, z1, z2, z3, z4, z5]) rfl ⟨rfl, sz9⟩
end Go.Proofs.YtocknfhgjmaibaaGreatDoor
