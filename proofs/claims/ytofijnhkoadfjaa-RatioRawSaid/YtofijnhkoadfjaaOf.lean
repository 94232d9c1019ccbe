/- The program's Of; the reference's Of where it refuses; the reference's Floor. -/
import Derived.Test.YtofijnhkoadfjaaJb
import Derived.Test.YtofijnhkoadfjaaFl
namespace Go.Proofs.Ytofijnhkoadfjaa
set_option linter.unusedSimpArgs false
set_option linter.unusedVariables false
set_option linter.unusedSectionVars false
open Go.RowKit Dg

set_option maxRecDepth 100000 in
set_option maxHeartbeats 4000000 in
theorem of_core (neg : Bool) (a b : Nat) (h1 : OkN a) (h2 : OkN b) (hb : 0 < b) (w : World) :
    Calls Try.prog 35 #[.bool neg, .string (S a), .string (S b)] w fun e w' => RatRes (rat neg a b) e ∧ Below w.heap.size w w' := by
  have HB := Lib.hid (fun w => both_yes a b w h1 h2)
  have HD := Lib.hid hb
  have HL := Lib.hid (dw_len_pos hb)
  have L1 := Lib.hid h1.dw
  have L2 := Lib.hid h2.dw
  obtain ⟨nz, sz, tz, kz, hend, hres⟩ := ratRes_one (rat neg a b)
  have HEND := Lib.hid hend
  have HRES := Lib.hid hres
  clear hend hres hb h1 h2
  generalize S a = sa at *
  generalize S b = sb at *
  obtain ⟨o_r, hbw⟩ := new1 w [.bool false, .string ⟨#[]⟩, .string ⟨#[]⟩] 33
  go_enter Try.func35, Try.ntmps35
  go_upto_region 1 with (fail)
  generalize (w.alloc (.cells #[.bool false, .string ⟨#[]⟩, .string ⟨#[]⟩] 33)) = wb at o_r hbw ⊢
  go_wp2_with fail
  refine (HB.out _).mono ?_
  rintro e w1 ⟨v1, v2, rfl, hv1, hv2, hb1⟩
  replace o_r := o_r.below hb1 o_r.lt
  replace hbw := below6 hbw hb1
  clear hb1
  have X1 := Lib.hid hv1
  have X2 := Lib.hid hv2
  obtain ⟨A1, c1, rfl, -⟩ := hv1
  obtain ⟨A2, c2, rfl, -⟩ := hv2
  have b0 : (((dw b).length : Int) == 0) = false := beqI_false (by have := HL.out; omega)
  go_wp2_with fail
  refine (lowest_any neg _ _ a b _ X1.out X2.out (by have := L1.out; omega) (by have := L2.out; omega) HD.out).mono ?_
  rintro e w9 ⟨hl, hb9⟩
  have he := HEND.out _ (hl.toRat HD.out)
  subst he
  replace o_r := o_r.below hb9 o_r.lt
  replace hbw := below6 hbw hb9
  clear hb9 hl
  have qr_0 : w9.cell? ⟨w.heap.size, 0, none⟩ = some (.bool false) := o_r.cell 0
  have qr_1 : w9.cell? ⟨w.heap.size, 1, none⟩ = some (.string ⟨#[]⟩) := o_r.cell 1
  have qr_2 : w9.cell? ⟨w.heap.size, 2, none⟩ = some (.string ⟨#[]⟩) := o_r.cell 2
  have fr_0 := o_r.frozen 0
  have fr_1 := o_r.frozen 1
  have fr_2 := o_r.frozen 2
  have oz := o_r.set3 (.bool nz) (.string sz) (.string tz)
  have sz9 := Below.set3 hbw (g := w.heap.size) (by omega) (.bool nz) (.string sz) (.string tz)
  go_wp2_with fail
  generalize (((w9.setCell ⟨w.heap.size, 0, none⟩ (.bool nz)).setCell ⟨w.heap.size, 1, none⟩ (.string sz)).setCell ⟨w.heap.size, 2, none⟩ (.string tz)) = wz at oz sz9 ⊢
  have z0 : wz.cell? ⟨w.heap.size, 0, none⟩ = some (.bool nz) := oz.cell 0
  have z1 : wz.cell? ⟨w.heap.size, 1, none⟩ = some (.string sz) := oz.cell 1
  have z2 : wz.cell? ⟨w.heap.size, 2, none⟩ = some (.string tz) := oz.cell 2
  exact bodyPost_ret (v := .tuple #[.agg #[.bool nz, .string sz, .string tz], .int .i64 kz]) (by simp [results, Try.results35, go_sem, z0, z1, z2]) rfl ⟨HRES.out, sz9⟩
set_option maxRecDepth 100000 in
set_option maxHeartbeats 4000000 in
theorem of_zero (neg : Bool) (a : Nat) (h1 : OkN a) (w : World) :
    Calls Try.prog 35 #[.bool neg, .string (S a), .string (S 0)] w fun e w' => e = .returned (.tuple #[.agg #[.bool false, .string ⟨#[]⟩, .string ⟨#[]⟩], .int .i64 25]) ∧ Below w.heap.size w w' := by
  have HB := Lib.hid (fun w => both_yes a 0 w h1 (okn_small (by decide)))
  clear h1
  generalize S a = sa at *
  generalize S 0 = sb at *
  obtain ⟨o_r, hbw⟩ := new1 w [.bool false, .string ⟨#[]⟩, .string ⟨#[]⟩] 33
  go_enter Try.func35, Try.ntmps35
  go_upto_region 1 with (fail)
  generalize (w.alloc (.cells #[.bool false, .string ⟨#[]⟩, .string ⟨#[]⟩] 33)) = wb at o_r hbw ⊢
  go_wp2_with fail
  refine (HB.out _).mono ?_
  rintro e w1 ⟨v1, v2, rfl, hv1, hv2, hb1⟩
  replace o_r := o_r.below hb1 o_r.lt
  replace hbw := below6 hbw hb1
  clear hb1
  obtain ⟨A1, c1, rfl, -⟩ := hv1
  obtain ⟨A2, c2, rfl, -⟩ := hv2
  have e0 : (dw 0).length = 0 := rfl
  rw [e0]
  clear e0
  have qr_0 : w1.cell? ⟨w.heap.size, 0, none⟩ = some (.bool false) := o_r.cell 0
  have qr_1 : w1.cell? ⟨w.heap.size, 1, none⟩ = some (.string ⟨#[]⟩) := o_r.cell 1
  have qr_2 : w1.cell? ⟨w.heap.size, 2, none⟩ = some (.string ⟨#[]⟩) := o_r.cell 2
  have fr_0 := o_r.frozen 0
  have fr_1 := o_r.frozen 1
  have fr_2 := o_r.frozen 2
  have oz := o_r.set3 (.bool false) (.string ⟨#[]⟩) (.string ⟨#[]⟩)
  have sz9 := Below.set3 hbw (g := w.heap.size) (by omega) (.bool false) (.string ⟨#[]⟩) (.string ⟨#[]⟩)
  go_wp2_with fail
  generalize (((w1.setCell ⟨w.heap.size, 0, none⟩ (.bool false)).setCell ⟨w.heap.size, 1, none⟩ (.string ⟨#[]⟩)).setCell ⟨w.heap.size, 2, none⟩ (.string ⟨#[]⟩)) = wz at oz sz9 ⊢
  have z0 : wz.cell? ⟨w.heap.size, 0, none⟩ = some (.bool false) := oz.cell 0
  have z1 : wz.cell? ⟨w.heap.size, 1, none⟩ = some (.string ⟨#[]⟩) := oz.cell 1
  have z2 : wz.cell? ⟨w.heap.size, 2, none⟩ = some (.string ⟨#[]⟩) := oz.cell 2
  exact bodyPost_ret (v := .tuple #[.agg #[.bool false, .string ⟨#[]⟩, .string ⟨#[]⟩], .int .i64 25]) (by simp [results, Try.results35, go_sem, z0, z1, z2]) rfl ⟨rfl, sz9⟩
set_option maxRecDepth 100000 in
set_option maxHeartbeats 4000000 in
theorem of_no (neg : Bool) (s t : ByteArray) (hs : s.size ≤ maxLen) (ht : t.size ≤ maxLen) (h : ¬ (VLD s ∧ VLD t)) (w : World) :
    Calls Try.prog 35 #[.bool neg, .string s, .string t] w fun e w' => e = .returned (.tuple #[.agg #[.bool false, .string ⟨#[]⟩, .string ⟨#[]⟩], .int .i64 1]) ∧ Below w.heap.size w w' := by
  have HB := Lib.hid (fun w => both_no s t w hs ht h)
  clear hs ht h
  obtain ⟨o_r, hbw⟩ := new1 w [.bool false, .string ⟨#[]⟩, .string ⟨#[]⟩] 33
  go_enter Try.func35, Try.ntmps35
  go_upto_region 1 with (fail)
  generalize (w.alloc (.cells #[.bool false, .string ⟨#[]⟩, .string ⟨#[]⟩] 33)) = wb at o_r hbw ⊢
  go_wp2_with fail
  refine (HB.out _).mono ?_
  rintro e w1 ⟨rfl, rfl⟩
  have qr_0 : wb.cell? ⟨w.heap.size, 0, none⟩ = some (.bool false) := o_r.cell 0
  have qr_1 : wb.cell? ⟨w.heap.size, 1, none⟩ = some (.string ⟨#[]⟩) := o_r.cell 1
  have qr_2 : wb.cell? ⟨w.heap.size, 2, none⟩ = some (.string ⟨#[]⟩) := o_r.cell 2
  have fr_0 := o_r.frozen 0
  have fr_1 := o_r.frozen 1
  have fr_2 := o_r.frozen 2
  have oz := o_r.set3 (.bool false) (.string ⟨#[]⟩) (.string ⟨#[]⟩)
  have sz9 := Below.set3 hbw (g := w.heap.size) (by omega) (.bool false) (.string ⟨#[]⟩) (.string ⟨#[]⟩)
  go_wp2_with fail
  generalize (((wb.setCell ⟨w.heap.size, 0, none⟩ (.bool false)).setCell ⟨w.heap.size, 1, none⟩ (.string ⟨#[]⟩)).setCell ⟨w.heap.size, 2, none⟩ (.string ⟨#[]⟩)) = wz at oz sz9 ⊢
  have z0 : wz.cell? ⟨w.heap.size, 0, none⟩ = some (.bool false) := oz.cell 0
  have z1 : wz.cell? ⟨w.heap.size, 1, none⟩ = some (.string ⟨#[]⟩) := oz.cell 1
  have z2 : wz.cell? ⟨w.heap.size, 2, none⟩ = some (.string ⟨#[]⟩) := oz.cell 2
  exact bodyPost_ret (v := .tuple #[.agg #[.bool false, .string ⟨#[]⟩, .string ⟨#[]⟩], .int .i64 1]) (by simp [results, Try.results35, go_sem, z0, z1, z2]) rfl ⟨rfl, sz9⟩
set_option maxRecDepth 100000 in
set_option maxHeartbeats 4000000 in
theorem ofr_no1 (neg : Bool) (s t : ByteArray) (hs : s.size ≤ maxLen) (ht : t.size ≤ maxLen) (h : ¬ VLD s) (w : World) :
    Calls Try.prog 36 #[.bool neg, .string s, .string t] w fun e w' => e = .returned (.tuple #[.agg #[.bool false, .string ⟨#[]⟩, .string ⟨#[]⟩], .int .i64 1]) ∧ Below w.heap.size w w' := by
  have H1 := Lib.hid (fun w => validr_no w hs h)
  clear hs ht h
  obtain ⟨o_r, hbw⟩ := new1 w [.bool false, .string ⟨#[]⟩, .string ⟨#[]⟩] 33
  go_enter Try.func36, Try.ntmps36
  go_upto_region 1 with (fail)
  generalize (w.alloc (.cells #[.bool false, .string ⟨#[]⟩, .string ⟨#[]⟩] 33)) = wb at o_r hbw ⊢
  go_wp2_with fail
  refine (H1.out _).mono ?_
  rintro e w1 ⟨rfl, rfl⟩
  have qr_0 : wb.cell? ⟨w.heap.size, 0, none⟩ = some (.bool false) := o_r.cell 0
  have qr_1 : wb.cell? ⟨w.heap.size, 1, none⟩ = some (.string ⟨#[]⟩) := o_r.cell 1
  have qr_2 : wb.cell? ⟨w.heap.size, 2, none⟩ = some (.string ⟨#[]⟩) := o_r.cell 2
  have fr_0 := o_r.frozen 0
  have fr_1 := o_r.frozen 1
  have fr_2 := o_r.frozen 2
  have oz := o_r.set3 (.bool false) (.string ⟨#[]⟩) (.string ⟨#[]⟩)
  have sz9 := Below.set3 hbw (g := w.heap.size) (by omega) (.bool false) (.string ⟨#[]⟩) (.string ⟨#[]⟩)
  go_wp2_with fail
  generalize (((wb.setCell ⟨w.heap.size, 0, none⟩ (.bool false)).setCell ⟨w.heap.size, 1, none⟩ (.string ⟨#[]⟩)).setCell ⟨w.heap.size, 2, none⟩ (.string ⟨#[]⟩)) = wz at oz sz9 ⊢
  have z0 : wz.cell? ⟨w.heap.size, 0, none⟩ = some (.bool false) := oz.cell 0
  have z1 : wz.cell? ⟨w.heap.size, 1, none⟩ = some (.string ⟨#[]⟩) := oz.cell 1
  have z2 : wz.cell? ⟨w.heap.size, 2, none⟩ = some (.string ⟨#[]⟩) := oz.cell 2
  exact bodyPost_ret (v := .tuple #[.agg #[.bool false, .string ⟨#[]⟩, .string ⟨#[]⟩], .int .i64 1]) (by simp [results, Try.results36, go_sem, z0, z1, z2]) rfl ⟨rfl, sz9⟩
set_option maxRecDepth 100000 in
set_option maxHeartbeats 4000000 in
theorem ofr_no2 (neg : Bool) (s t : ByteArray) (hs : s.size ≤ maxLen) (ht : t.size ≤ maxLen) (h : VLD s) (h' : ¬ VLD t) (w : World) :
    Calls Try.prog 36 #[.bool neg, .string s, .string t] w fun e w' => e = .returned (.tuple #[.agg #[.bool false, .string ⟨#[]⟩, .string ⟨#[]⟩], .int .i64 1]) ∧ Below w.heap.size w w' := by
  have H1 := Lib.hid (fun w => validr_yes w h)
  have H2 := Lib.hid (fun w => validr_no w ht h')
  clear hs ht h h'
  obtain ⟨o_r, hbw⟩ := new1 w [.bool false, .string ⟨#[]⟩, .string ⟨#[]⟩] 33
  go_enter Try.func36, Try.ntmps36
  go_upto_region 1 with (fail)
  generalize (w.alloc (.cells #[.bool false, .string ⟨#[]⟩, .string ⟨#[]⟩] 33)) = wb at o_r hbw ⊢
  go_wp2_with fail
  refine (H1.out _).mono ?_
  rintro e w1 ⟨rfl, rfl⟩
  go_wp2_with fail
  refine (H2.out _).mono ?_
  rintro e w2 ⟨rfl, rfl⟩
  have qr_0 : wb.cell? ⟨w.heap.size, 0, none⟩ = some (.bool false) := o_r.cell 0
  have qr_1 : wb.cell? ⟨w.heap.size, 1, none⟩ = some (.string ⟨#[]⟩) := o_r.cell 1
  have qr_2 : wb.cell? ⟨w.heap.size, 2, none⟩ = some (.string ⟨#[]⟩) := o_r.cell 2
  have fr_0 := o_r.frozen 0
  have fr_1 := o_r.frozen 1
  have fr_2 := o_r.frozen 2
  have oz := o_r.set3 (.bool false) (.string ⟨#[]⟩) (.string ⟨#[]⟩)
  have sz9 := Below.set3 hbw (g := w.heap.size) (by omega) (.bool false) (.string ⟨#[]⟩) (.string ⟨#[]⟩)
  go_wp2_with fail
  generalize (((wb.setCell ⟨w.heap.size, 0, none⟩ (.bool false)).setCell ⟨w.heap.size, 1, none⟩ (.string ⟨#[]⟩)).setCell ⟨w.heap.size, 2, none⟩ (.string ⟨#[]⟩)) = wz at oz sz9 ⊢
  have z0 : wz.cell? ⟨w.heap.size, 0, none⟩ = some (.bool false) := oz.cell 0
  have z1 : wz.cell? ⟨w.heap.size, 1, none⟩ = some (.string ⟨#[]⟩) := oz.cell 1
  have z2 : wz.cell? ⟨w.heap.size, 2, none⟩ = some (.string ⟨#[]⟩) := oz.cell 2
  exact bodyPost_ret (v := .tuple #[.agg #[.bool false, .string ⟨#[]⟩, .string ⟨#[]⟩], .int .i64 1]) (by simp [results, Try.results36, go_sem, z0, z1, z2]) rfl ⟨rfl, sz9⟩
set_option maxRecDepth 100000 in
set_option maxHeartbeats 4000000 in
theorem floorr_bad (nx : Bool) (sx tx : ByteArray) (h1 : IsNo (.agg #[.bool nx, .string sx, .string tx])) (w : World) :
    Calls Try.prog 38 #[.agg #[.bool nx, .string sx, .string tx]] w fun e w' => e = .returned (.tuple #[.agg #[.bool false, .string ⟨#[]⟩, .string ⟨#[]⟩], .int .i64 1]) ∧ Below w.heap.size w w' := by
  have H1 := Lib.hid h1
  clear h1
  obtain ⟨o_x, o_r, hbw⟩ := new2 w [.bool nx, .string sx, .string tx] [.bool false, .string ⟨#[]⟩, .string ⟨#[]⟩] 33 33
  go_enter Try.func38, Try.ntmps38
  go_upto_region 1 with (fail)
  generalize ((w.alloc (.cells #[.bool nx, .string sx, .string tx] 33)).alloc (.cells #[.bool false, .string ⟨#[]⟩, .string ⟨#[]⟩] 33)) = wb at o_x o_r hbw ⊢
  have qx_0 : wb.cell? ⟨w.heap.size, 0, none⟩ = some (.bool nx) := o_x.cell 0
  have qx_1 : wb.cell? ⟨w.heap.size, 1, none⟩ = some (.string sx) := o_x.cell 1
  have qx_2 : wb.cell? ⟨w.heap.size, 2, none⟩ = some (.string tx) := o_x.cell 2
  go_wp2_with fail
  clear qx_0 qx_1 qx_2
  refine (H1.out _).mono ?_
  rintro e w1 ⟨rfl, hb1⟩
  replace o_x := o_x.below hb1 o_x.lt
  replace o_r := o_r.below hb1 o_r.lt
  replace hbw := below6 hbw hb1
  clear hb1
  have qr_0 : w1.cell? ⟨w.heap.size + 1, 0, none⟩ = some (.bool false) := o_r.cell 0
  have qr_1 : w1.cell? ⟨w.heap.size + 1, 1, none⟩ = some (.string ⟨#[]⟩) := o_r.cell 1
  have qr_2 : w1.cell? ⟨w.heap.size + 1, 2, none⟩ = some (.string ⟨#[]⟩) := o_r.cell 2
  have fr_0 := o_r.frozen 0
  have fr_1 := o_r.frozen 1
  have fr_2 := o_r.frozen 2
  have oz := o_r.set3 (.bool false) (.string ⟨#[]⟩) (.string ⟨#[]⟩)
  have sz9 := Below.set3 hbw (g := w.heap.size + 1) (by omega) (.bool false) (.string ⟨#[]⟩) (.string ⟨#[]⟩)
  go_wp2_with fail
  generalize (((w1.setCell ⟨w.heap.size + 1, 0, none⟩ (.bool false)).setCell ⟨w.heap.size + 1, 1, none⟩ (.string ⟨#[]⟩)).setCell ⟨w.heap.size + 1, 2, none⟩ (.string ⟨#[]⟩)) = wz at oz sz9 ⊢
  have z0 : wz.cell? ⟨w.heap.size + 1, 0, none⟩ = some (.bool false) := oz.cell 0
  have z1 : wz.cell? ⟨w.heap.size + 1, 1, none⟩ = some (.string ⟨#[]⟩) := oz.cell 1
  have z2 : wz.cell? ⟨w.heap.size + 1, 2, none⟩ = some (.string ⟨#[]⟩) := oz.cell 2
  exact bodyPost_ret (v := .tuple #[.agg #[.bool false, .string ⟨#[]⟩, .string ⟨#[]⟩], .int .i64 1]) (by simp [results, Try.results38, go_sem, z0, z1, z2]) rfl ⟨rfl, sz9⟩
set_option maxRecDepth 100000 in
set_option maxHeartbeats 4000000 in
theorem floorr_core (nx : Bool) (sx tx : ByteArray) (a b : Nat) (z : Rat) (h1 : IsYes (.agg #[.bool nx, .string sx, .string tx])) (ga : BigOf sx a) (gb : BigOf tx b)
    (hq : (nx = true ∧ 0 < a % b → z = rat nx (a / b + 1) 1) ∧ (¬ (nx = true ∧ 0 < a % b) → z = rat nx (a / b) 1)) (hb : 0 < b) (l1 : (dk a).length ≤ 20000) (l2 : (dk b).length ≤ 20000) (w : World) :
    Calls Try.prog 38 #[.agg #[.bool nx, .string sx, .string tx]] w fun e w' => RatRes z e ∧ Below w.heap.size w w' := by
  have H1 := Lib.hid h1
  have GA := Lib.hid ga
  have GB := Lib.hid gb
  have HB := Lib.hid hb
  have HZ := Lib.hid hq
  obtain ⟨nz, sz, tz, kz, hend, hres⟩ := ratRes_one z
  have HEND := Lib.hid hend
  have HRES := Lib.hid hres
  have hlq : (dk (a / b)).length ≤ (dk a).length := dg_mono b10k (Nat.div_le_self _ _)
  have hlq1 := dk_add (a / b) 1
  have hl1 : (dk 1).length = 1 := by decide
  clear hend hres h1 ga gb hq hb
  obtain ⟨o_x, o_r, hbw⟩ := new2 w [.bool nx, .string sx, .string tx] [.bool false, .string ⟨#[]⟩, .string ⟨#[]⟩] 33 33
  go_enter Try.func38, Try.ntmps38
  go_upto_region 1 with (fail)
  generalize ((w.alloc (.cells #[.bool nx, .string sx, .string tx] 33)).alloc (.cells #[.bool false, .string ⟨#[]⟩, .string ⟨#[]⟩] 33)) = wb at o_x o_r hbw ⊢
  have qx_0 : wb.cell? ⟨w.heap.size, 0, none⟩ = some (.bool nx) := o_x.cell 0
  have qx_1 : wb.cell? ⟨w.heap.size, 1, none⟩ = some (.string sx) := o_x.cell 1
  have qx_2 : wb.cell? ⟨w.heap.size, 2, none⟩ = some (.string tx) := o_x.cell 2
  go_wp2_with fail
  clear qx_0 qx_1 qx_2
  refine (H1.out _).mono ?_
  rintro e w1 ⟨rfl, hb1⟩
  replace o_x := o_x.below hb1 o_x.lt
  replace o_r := o_r.below hb1 o_r.lt
  replace hbw := below6 hbw hb1
  clear hb1
  have qx_0 : w1.cell? ⟨w.heap.size, 0, none⟩ = some (.bool nx) := o_x.cell 0
  have qx_1 : w1.cell? ⟨w.heap.size, 1, none⟩ = some (.string sx) := o_x.cell 1
  have qx_2 : w1.cell? ⟨w.heap.size, 2, none⟩ = some (.string tx) := o_x.cell 2
  go_upto_region 3 with (fail)
  refine wp_reg_ra [some 11, some 12, some 13, some 14, some 15, some 16, some 17, some 10, some 18, some 19, some 4, some 5] [isV ?v1_0, isV ?v1_1, (fun v w' => BigV w' v (a)), isV ?v1_3, isV ?v1_4, (fun v w' => BigV w' v (b)), (fun v w' => ∃ v1 v2, v = .tuple #[v1, v2] ∧ BigV w' v1 (a / b) ∧ BigV w' v2 (a % b)), (fun v w' => ∃ v1 v2, v = .tuple #[v1, v2] ∧ BigV w' v1 (a / b) ∧ BigV w' v2 (a % b)), (fun v w' => BigV w' v (a / b)), (fun v w' => BigV w' v (a % b)), (fun v w' => BigV w' v (a / b)), (fun v w' => BigV w' v (a % b))] rfl (by kernel_rfl) rfl rfl ?k1 ⟨?s1_0, ?s1_1, ?s1_2, ?s1_3, ?s1_4, ?s1_5, ?s1_6, ?s1_7, ?s1_8, ?s1_9, ?s1_10, ?s1_11, trivial⟩ ?p1
  case s1_0 =>
    intro t9 w9 hT9 hV9 hO9 K9 hK9
    have o9_1 := hO9 1 _ (show List.contains _ _ = false from by kernel_rfl) rfl
    clear hV9 hO9
    go_simp
    (refine hK9 _ _ (Grow.refl _) ?_; exact rfl)
  case s1_1 =>
    intro t9 w9 hT9 hV9 hO9 K9 hK9
    obtain ⟨x9_0, p9_0, q9_0⟩ := hV9 0 11 rfl rfl (of_decide_eq_true (by kernel_rfl))
    obtain rfl : x9_0 = ?v1_0 := q9_0
    clear hV9 hO9
    have d9_0 := grow_cell hT9 qx_0
    have d9_1 := grow_cell hT9 qx_1
    have d9_2 := grow_cell hT9 qx_2
    go_simp
    (refine hK9 _ _ (Grow.refl _) ?_; exact rfl)
  case s1_2 =>
    intro t9 w9 hT9 hV9 hO9 K9 hK9
    obtain ⟨x9_1, p9_1, q9_1⟩ := hV9 1 12 rfl rfl (of_decide_eq_true (by kernel_rfl))
    obtain rfl : x9_1 = ?v1_1 := q9_1
    clear hV9 hO9
    go_simp
    refine (GA.out _).mono ?_
    rintro _ w8 ⟨v8, rfl, hv8, hb8⟩
    exact hK9 _ _ hb8 hv8
  case s1_3 =>
    intro t9 w9 hT9 hV9 hO9 K9 hK9
    have o9_1 := hO9 1 _ (show List.contains _ _ = false from by kernel_rfl) rfl
    clear hV9 hO9
    go_simp
    (refine hK9 _ _ (Grow.refl _) ?_; exact rfl)
  case s1_4 =>
    intro t9 w9 hT9 hV9 hO9 K9 hK9
    obtain ⟨x9_3, p9_3, q9_3⟩ := hV9 3 14 rfl rfl (of_decide_eq_true (by kernel_rfl))
    obtain rfl : x9_3 = ?v1_3 := q9_3
    clear hV9 hO9
    have d9_0 := grow_cell hT9 qx_0
    have d9_1 := grow_cell hT9 qx_1
    have d9_2 := grow_cell hT9 qx_2
    go_simp
    (refine hK9 _ _ (Grow.refl _) ?_; exact rfl)
  case s1_5 =>
    intro t9 w9 hT9 hV9 hO9 K9 hK9
    obtain ⟨x9_4, p9_4, q9_4⟩ := hV9 4 15 rfl rfl (of_decide_eq_true (by kernel_rfl))
    obtain rfl : x9_4 = ?v1_4 := q9_4
    clear hV9 hO9
    go_simp
    refine (GB.out _).mono ?_
    rintro _ w8 ⟨v8, rfl, hv8, hb8⟩
    exact hK9 _ _ hb8 hv8
  case s1_6 =>
    intro t9 w9 hT9 hV9 hO9 K9 hK9
    obtain ⟨x9_2, p9_2, q9_2⟩ := hV9 2 13 rfl rfl (of_decide_eq_true (by kernel_rfl))
    replace q9_2 : ((fun v w' => BigV w' v (a))) x9_2 _ := q9_2
    obtain ⟨x9_5, p9_5, q9_5⟩ := hV9 5 16 rfl rfl (of_decide_eq_true (by kernel_rfl))
    replace q9_5 : ((fun v w' => BigV w' v (b))) x9_5 _ := q9_5
    clear hV9 hO9
    go_simp
    refine (divide_ref _ q9_2 q9_5 (by omega) (by omega) HB.out).mono ?_
    rintro _ w8 ⟨v8, v7, rfl, hv8, hv7, hb8⟩
    exact hK9 _ _ hb8 ⟨_, _, rfl, hv8, hv7⟩
  case s1_7 =>
    intro t9 w9 hT9 hV9 hO9 K9 hK9
    obtain ⟨x9_6, p9_6, q9_6⟩ := hV9 6 17 rfl rfl (of_decide_eq_true (by kernel_rfl))
    replace q9_6 : ((fun v w' => ∃ v1 v2, v = .tuple #[v1, v2] ∧ BigV w' v1 (a / b) ∧ BigV w' v2 (a % b))) x9_6 _ := q9_6
    clear hV9 hO9
    go_simp
    exact hK9 _ _ (Grow.refl _) q9_6
  case s1_8 =>
    intro t9 w9 hT9 hV9 hO9 K9 hK9
    obtain ⟨x9_7, p9_7, q9_7⟩ := hV9 7 10 rfl rfl (of_decide_eq_true (by kernel_rfl))
    replace q9_7 : ((fun v w' => ∃ v1 v2, v = .tuple #[v1, v2] ∧ BigV w' v1 (a / b) ∧ BigV w' v2 (a % b))) x9_7 _ := q9_7
    clear hV9 hO9
    obtain ⟨v1, v2, rfl, h7, h8⟩ := q9_7
    go_simp
    exact hK9 _ _ (Grow.refl _) h7
  case s1_9 =>
    intro t9 w9 hT9 hV9 hO9 K9 hK9
    obtain ⟨x9_7, p9_7, q9_7⟩ := hV9 7 10 rfl rfl (of_decide_eq_true (by kernel_rfl))
    replace q9_7 : ((fun v w' => ∃ v1 v2, v = .tuple #[v1, v2] ∧ BigV w' v1 (a / b) ∧ BigV w' v2 (a % b))) x9_7 _ := q9_7
    clear hV9 hO9
    obtain ⟨v1, v2, rfl, h7, h8⟩ := q9_7
    go_simp
    exact hK9 _ _ (Grow.refl _) h8
  case s1_10 =>
    intro t9 w9 hT9 hV9 hO9 K9 hK9
    obtain ⟨x9_8, p9_8, q9_8⟩ := hV9 8 18 rfl rfl (of_decide_eq_true (by kernel_rfl))
    replace q9_8 : ((fun v w' => BigV w' v (a / b))) x9_8 _ := q9_8
    clear hV9 hO9
    go_simp
    exact hK9 _ _ (Grow.refl _) q9_8
  case s1_11 =>
    intro t9 w9 hT9 hV9 hO9 K9 hK9
    obtain ⟨x9_9, p9_9, q9_9⟩ := hV9 9 19 rfl rfl (of_decide_eq_true (by kernel_rfl))
    replace q9_9 : ((fun v w' => BigV w' v (a % b))) x9_9 _ := q9_9
    clear hV9 hO9
    go_simp
    exact hK9 _ _ (Grow.refl _) q9_9
  case k1 =>
    intro i9 v9 w9 x9 h9 g9
    match i9, h9 with
    | 0, h9 => exact h9
    | 1, h9 => exact h9
    | 2, h9 => (replace h9 : (fun v w' => BigV w' v (a)) v9 w9 := h9); exact BigV.below h9 g9
    | 3, h9 => exact h9
    | 4, h9 => exact h9
    | 5, h9 => (replace h9 : (fun v w' => BigV w' v (b)) v9 w9 := h9); exact BigV.below h9 g9
    | 6, h9 => (replace h9 : (fun v w' => ∃ v1 v2, v = .tuple #[v1, v2] ∧ BigV w' v1 (a / b) ∧ BigV w' v2 (a % b)) v9 w9 := h9); obtain ⟨v1, v2, rfl, h7, h8⟩ := h9; exact ⟨v1, v2, rfl, BigV.below h7 g9, BigV.below h8 g9⟩
    | 7, h9 => (replace h9 : (fun v w' => ∃ v1 v2, v = .tuple #[v1, v2] ∧ BigV w' v1 (a / b) ∧ BigV w' v2 (a % b)) v9 w9 := h9); obtain ⟨v1, v2, rfl, h7, h8⟩ := h9; exact ⟨v1, v2, rfl, BigV.below h7 g9, BigV.below h8 g9⟩
    | 8, h9 => (replace h9 : (fun v w' => BigV w' v (a / b)) v9 w9 := h9); exact BigV.below h9 g9
    | 9, h9 => (replace h9 : (fun v w' => BigV w' v (a % b)) v9 w9 := h9); exact BigV.below h9 g9
    | 10, h9 => (replace h9 : (fun v w' => BigV w' v (a / b)) v9 w9 := h9); exact BigV.below h9 g9
    | 11, h9 => (replace h9 : (fun v w' => BigV w' v (a % b)) v9 w9 := h9); exact BigV.below h9 g9
    | _ + 12, h9 => exact trivial
  intro u9 w9 hE9 hu9
  have r9_0 : u9 0 = ?v1_0 := hu9 0 (by decide)
  have r9_1 : u9 1 = ?v1_1 := hu9 1 (by decide)
  have r9_2 : (fun v w' => BigV w' v (a)) (u9 2) w9 := hu9 2 (by decide)
  have r9_3 : u9 3 = ?v1_3 := hu9 3 (by decide)
  have r9_4 : u9 4 = ?v1_4 := hu9 4 (by decide)
  have r9_5 : (fun v w' => BigV w' v (b)) (u9 5) w9 := hu9 5 (by decide)
  have r9_6 : (fun v w' => ∃ v1 v2, v = .tuple #[v1, v2] ∧ BigV w' v1 (a / b) ∧ BigV w' v2 (a % b)) (u9 6) w9 := hu9 6 (by decide)
  have r9_7 : (fun v w' => ∃ v1 v2, v = .tuple #[v1, v2] ∧ BigV w' v1 (a / b) ∧ BigV w' v2 (a % b)) (u9 7) w9 := hu9 7 (by decide)
  have r9_8 : (fun v w' => BigV w' v (a / b)) (u9 8) w9 := hu9 8 (by decide)
  have r9_9 : (fun v w' => BigV w' v (a % b)) (u9 9) w9 := hu9 9 (by decide)
  have r9_10 : (fun v w' => BigV w' v (a / b)) (u9 10) w9 := hu9 10 (by decide)
  have r9_11 : (fun v w' => BigV w' v (a % b)) (u9 11) w9 := hu9 11 (by decide)
  clear hu9
  simp only [putAll, Act.put, List.setIfInBounds_toArray, List.set_cons_succ, List.set_cons_zero, List.getD_cons_succ, List.getD_cons_zero, Nat.reduceAdd, Nat.zero_add]
  simp only [r9_0, r9_1, r9_3, r9_4]
  clear r9_0 r9_1 r9_3 r9_4
  generalize u9 10 = z9_10 at r9_10 ⊢
  generalize u9 11 = z9_11 at r9_11 ⊢
  clear qx_0 qx_1 qx_2
  replace o_x := o_x.below hE9 o_x.lt
  replace o_r := o_r.below hE9 o_r.lt
  replace hbw := below6 hbw hE9
  replace r9_10 : BigV w9 z9_10 (a / b) := r9_10
  replace r9_11 : BigV w9 z9_11 (a % b) := r9_11
  have NQ := Lib.hid r9_10
  obtain ⟨A4, c4, rfl, -⟩ := r9_10
  obtain ⟨A5, c5, rfl, -⟩ := r9_11
  clear hE9
  obtain ⟨wd, rfl⟩ : ∃ wx : World, wx = w9 := ⟨_, rfl⟩
  by_cases hn : nx = true ∧ 0 < a % b
  · have HQ := Lib.hid (HZ.out.1 hn)
    obtain ⟨hnx, hr0⟩ := hn
    have hcl := dk_len_pos hr0
    have d1 : decide ((0 : Int) < ((dk (a % b)).length : Int)) = true := decide_eq_true (by omega)
    have d2 : decide (0 < (dk (a % b)).length) = true := decide_eq_true hcl
    clear hr0 HZ
    obtain rfl : nx = true := hnx
    have qx_0 : wd.cell? ⟨w.heap.size, 0, none⟩ = some (.bool true) := o_x.cell 0
    go_wp2_with fail
    refine (of64_ref 1 (by decide) _).mono ?_
    rintro e wf ⟨v8, rfl, hv8, hb8⟩
    replace NQ := Lib.hid (NQ.out.below hb8)
    replace o_x := o_x.below hb8 o_x.lt
    replace o_r := o_r.below hb8 o_r.lt
    replace hbw := below6 hbw hb8
    clear qx_0 hb8
    go_wp2_with fail
    refine (plus_ref _ NQ.out hv8 (by omega) (by omega)).mono ?_
    rintro e wd ⟨v7, rfl, hv7, hb7⟩
    replace o_x := o_x.below hb7 o_x.lt
    replace o_r := o_r.below hb7 o_r.lt
    replace hbw := below6 hbw hb7
    clear hb7 hv8 NQ
    have NQ := Lib.hid hv7
    obtain ⟨A7, c7, rfl, -⟩ := hv7
    have qx_0 : wd.cell? ⟨w.heap.size, 0, none⟩ = some (.bool true) := o_x.cell 0
    have qx_1 : wd.cell? ⟨w.heap.size, 1, none⟩ = some (.string sx) := o_x.cell 1
    have qx_2 : wd.cell? ⟨w.heap.size, 2, none⟩ = some (.string tx) := o_x.cell 2
    go_upto_region 6 with (fail)
    refine wp_reg_st [some 30, some 31, some 32, some 33, some 34, some 35, some 36, none, some 3] [isV ?v2_0, isV ?v2_1, (fun v w' => BigV w' v (a / b + 1)), (fun v w' => BigV w' v (1)), isV (.tuple #[.agg #[.bool nz, .string sz, .string tz], .int .i64 kz]), isV ?v2_5, isV ?v2_6, fun _ _ => False, fun _ _ => False] [anyV, anyV, anyV, anyV, anyV, anyV, anyV, anyV, isV ?w2_8] 7 [0, 1, 2, 3, 4, 5, 6] (fun _ => fun w' => Below w.heap.size w w' ∧ Own w' (w.heap.size + 1) 33 [.bool nz, .string sz, .string tz]) rfl (by kernel_rfl) rfl rfl (by decide) (by kernel_rfl) (by kernel_rfl) (fun _ _ _ _ h => h) ?k2 ?m2 ⟨?s2_0, ?s2_1, ?s2_2, ?s2_3, ?s2_4, ?s2_5, ?s2_6, ?s2_7, ?s2_8, trivial⟩ ?p2
    case s2_0 =>
      rw [if_neg (by decide)]
      constructor
      · rw [if_neg (by decide)]
        intro t9 w9 hT9 hV9 hO9 K9 hK9
        have o9_1 := hO9 1 _ (.inl (show List.contains _ _ = false from by kernel_rfl)) rfl
        clear hV9 hO9
        go_simp
        (refine hK9 _ _ (Grow.refl _) ?_; exact rfl)
      · rw [if_pos (by decide)]; trivial
    case s2_1 =>
      rw [if_neg (by decide)]
      constructor
      · rw [if_neg (by decide)]
        intro t9 w9 hT9 hV9 hO9 K9 hK9
        obtain ⟨x9_0, p9_0, q9_0⟩ := hV9 0 30 rfl rfl (of_decide_eq_true (by kernel_rfl))
        obtain rfl : x9_0 = ?v2_0 := q9_0
        clear hV9 hO9
        have d9_0 := grow_cell hT9 qx_0
        have d9_1 := grow_cell hT9 qx_1
        have d9_2 := grow_cell hT9 qx_2
        go_simp
        (refine hK9 _ _ (Grow.refl _) ?_; exact rfl)
      · rw [if_pos (by decide)]; trivial
    case s2_2 =>
      rw [if_neg (by decide)]
      constructor
      · rw [if_neg (by decide)]
        intro t9 w9 hT9 hV9 hO9 K9 hK9
        have o9_4 := hO9 4 _ (.inl (show List.contains _ _ = false from by kernel_rfl)) rfl
        clear hV9 hO9
        go_simp
        exact hK9 _ _ (Grow.refl _) (NQ.out.below hT9.below)
      · rw [if_pos (by decide)]; trivial
    case s2_3 =>
      rw [if_neg (by decide)]
      constructor
      · rw [if_neg (by decide)]
        intro t9 w9 hT9 hV9 hO9 K9 hK9
        clear hV9 hO9
        go_simp
        refine (of64_ref 1 (by decide) _).mono ?_
        rintro _ w8 ⟨v8, rfl, hv8, hb8⟩
        exact hK9 _ _ hb8 hv8
      · rw [if_pos (by decide)]; trivial
    case s2_4 =>
      rw [if_neg (by decide)]
      constructor
      · rw [if_neg (by decide)]
        intro t9 w9 hT9 hV9 hO9 K9 hK9
        obtain ⟨x9_1, p9_1, q9_1⟩ := hV9 1 31 rfl rfl (of_decide_eq_true (by kernel_rfl))
        obtain rfl : x9_1 = ?v2_1 := q9_1
        obtain ⟨x9_2, p9_2, q9_2⟩ := hV9 2 32 rfl rfl (of_decide_eq_true (by kernel_rfl))
        replace q9_2 : ((fun v w' => BigV w' v (a / b + 1))) x9_2 _ := q9_2
        obtain ⟨x9_3, p9_3, q9_3⟩ := hV9 3 33 rfl rfl (of_decide_eq_true (by kernel_rfl))
        replace q9_3 : ((fun v w' => BigV w' v (1))) x9_3 _ := q9_3
        clear hV9 hO9
        go_simp
        refine (lowest_ref _ _ _ (a / b + 1) (1) _ q9_2 q9_3 (by omega) (by omega) (by decide)).mono ?_
        rintro e w8 ⟨hl, hb8⟩
        have he := HEND.out _ (by rw [HQ.out]; exact hl.toRat (by decide))
        subst he
        exact hK9 _ _ hb8 rfl
      · rw [if_pos (by decide)]; trivial
    case s2_5 =>
      rw [if_neg (by decide)]
      constructor
      · rw [if_neg (by decide)]
        intro t9 w9 hT9 hV9 hO9 K9 hK9
        obtain ⟨x9_4, p9_4, q9_4⟩ := hV9 4 34 rfl rfl (of_decide_eq_true (by kernel_rfl))
        obtain rfl : x9_4 = (.tuple #[.agg #[.bool nz, .string sz, .string tz], .int .i64 kz]) := q9_4
        clear hV9 hO9
        go_simp
        (refine hK9 _ _ (Grow.refl _) ?_; exact rfl)
      · rw [if_pos (by decide)]; trivial
    case s2_6 =>
      rw [if_neg (by decide)]
      constructor
      · rw [if_neg (by decide)]
        intro t9 w9 hT9 hV9 hO9 K9 hK9
        obtain ⟨x9_4, p9_4, q9_4⟩ := hV9 4 34 rfl rfl (of_decide_eq_true (by kernel_rfl))
        obtain rfl : x9_4 = (.tuple #[.agg #[.bool nz, .string sz, .string tz], .int .i64 kz]) := q9_4
        clear hV9 hO9
        go_simp
        (refine hK9 _ _ (Grow.refl _) ?_; exact rfl)
      · rw [if_pos (by decide)]; trivial
    case s2_7 =>
      rw [if_pos (by decide)]
      intro t9 w9 hT9 hV9 hO9 K9 hK9
      obtain ⟨x9_5, p9_5, q9_5⟩ := hV9 5 35 (by decide) rfl (of_decide_eq_true (by kernel_rfl))
      obtain rfl : x9_5 = ?v2_5 := q9_5
      have o9_2 := hO9 2 _ (.inl (show List.contains _ _ = false from by kernel_rfl)) rfl
      clear hV9 hO9
      have og := o_r.below hT9.below o_r.lt
      have hg0 : w9.cell? ⟨w.heap.size + 1, 0, none⟩ = some (.bool false) := og.cell 0
      have hg1 : w9.cell? ⟨w.heap.size + 1, 1, none⟩ = some (.string ⟨#[]⟩) := og.cell 1
      have hg2 : w9.cell? ⟨w.heap.size + 1, 2, none⟩ = some (.string ⟨#[]⟩) := og.cell 2
      have hf0 := og.frozen 0
      have hf1 := og.frozen 1
      have hf2 := og.frozen 2
      have HE := Lib.hid (⟨Below.set3 (below6 hbw hT9.below) (by omega) _ _ _, og.set3 _ _ _⟩ : (fun w' => Below w.heap.size w w' ∧ Own w' (w.heap.size + 1) 33 [.bool nz, .string sz, .string tz]) ((((w9.setCell ⟨w.heap.size + 1, 0, none⟩ (.bool nz)).setCell ⟨w.heap.size + 1, 1, none⟩ (.string sz)).setCell ⟨w.heap.size + 1, 2, none⟩ (.string tz))))
      go_simp
      exact hK9 undef _ HE.out trivial
    case s2_8 =>
      rw [if_neg (by decide)]
      constructor
      · rw [if_pos (by rfl)]; trivial
      · rw [if_neg (by decide)]
        intro t9 w9 hV9 hO9 K9 hK9
        obtain ⟨x9_6, p9_6, q9_6⟩ := hV9 6 36 rfl rfl (of_decide_eq_true (by kernel_rfl))
        obtain ⟨_, q9_6⟩ := q9_6.pre (by decide)
        obtain rfl : x9_6 = ?v2_6 := q9_6
        clear hV9 hO9
        go_simp
        (refine hK9 _ ?_; exact rfl)
    case k2 =>
      intro i9 v9 w9 x9 h9 g9
      match i9, h9 with
      | 0, h9 => exact h9
      | 1, h9 => exact h9
      | 2, h9 => (replace h9 : (fun v w' => BigV w' v (a / b + 1)) v9 w9 := h9); exact BigV.below h9 g9
      | 3, h9 => (replace h9 : (fun v w' => BigV w' v (1)) v9 w9 := h9); exact BigV.below h9 g9
      | 4, h9 => exact h9
      | 5, h9 => exact h9
      | 6, h9 => exact h9
      | 7, h9 => exact h9
      | 8, h9 => exact h9
      | _ + 9, h9 => exact trivial
    case m2 =>
      intro i9 v9 w9 x9 ha9 hs9 h9
      match i9, ha9, hs9, h9 with
      | 0, ha9, hs9, h9 => exact absurd (by decide) ha9
      | 1, ha9, hs9, h9 => exact absurd (by decide) ha9
      | 2, ha9, hs9, h9 => exact absurd (by decide) ha9
      | 3, ha9, hs9, h9 => exact absurd (by decide) ha9
      | 4, ha9, hs9, h9 => exact absurd (by decide) ha9
      | 5, ha9, hs9, h9 => exact absurd (by decide) ha9
      | 6, ha9, hs9, h9 => exact absurd (by decide) ha9
      | 7, ha9, hs9, h9 => exact absurd rfl hs9
      | 8, ha9, hs9, h9 => exact False.elim h9
      | _ + 9, ha9, hs9, h9 => exact trivial
    intro u9 w9 hE9 hu9
    obtain ⟨_, r9_0⟩ := (hu9 0 (by decide)).pre (by decide)
    replace r9_0 : u9 0 = ?v2_0 := r9_0
    obtain ⟨_, r9_1⟩ := (hu9 1 (by decide)).pre (by decide)
    replace r9_1 : u9 1 = ?v2_1 := r9_1
    obtain ⟨_, r9_4⟩ := (hu9 4 (by decide)).pre (by decide)
    replace r9_4 : u9 4 = (.tuple #[.agg #[.bool nz, .string sz, .string tz], .int .i64 kz]) := r9_4
    obtain ⟨_, r9_5⟩ := (hu9 5 (by decide)).pre (by decide)
    replace r9_5 : u9 5 = ?v2_5 := r9_5
    obtain ⟨_, r9_6⟩ := (hu9 6 (by decide)).pre (by decide)
    replace r9_6 : u9 6 = ?v2_6 := r9_6
    have r9_8 : u9 8 = ?w2_8 := (hu9 8 (by decide)).late (by decide)
    clear hu9
    obtain ⟨sz9, oz⟩ := hE9
    simp only [putAll, Act.put, List.setIfInBounds_toArray, List.set_cons_succ, List.set_cons_zero, List.getD_cons_succ, List.getD_cons_zero, Nat.reduceAdd, Nat.zero_add]
    simp only [r9_0, r9_1, r9_4, r9_5, r9_6, r9_8]
    clear r9_0 r9_1 r9_4 r9_5 r9_6 r9_8
    go_wp2_with fail
    have z0 : w9.cell? ⟨w.heap.size + 1, 0, none⟩ = some (.bool nz) := oz.cell 0
    have z1 : w9.cell? ⟨w.heap.size + 1, 1, none⟩ = some (.string sz) := oz.cell 1
    have z2 : w9.cell? ⟨w.heap.size + 1, 2, none⟩ = some (.string tz) := oz.cell 2
    exact bodyPost_ret (v := .tuple #[.agg #[.bool nz, .string sz, .string tz], .int .i64 kz]) (by simp [results, Try.results38, go_sem, z0, z1, z2]) rfl ⟨HRES.out, sz9⟩
  · have HQ := Lib.hid (HZ.out.2 hn)
    cases nx with
    | false =>
      clear hn HZ
      have qx_0 : wd.cell? ⟨w.heap.size, 0, none⟩ = some (.bool false) := o_x.cell 0
      have qx_1 : wd.cell? ⟨w.heap.size, 1, none⟩ = some (.string sx) := o_x.cell 1
      have qx_2 : wd.cell? ⟨w.heap.size, 2, none⟩ = some (.string tx) := o_x.cell 2
      go_upto_region 6 with (fail)
      refine wp_reg_st [some 30, some 31, some 32, some 33, some 34, some 35, some 36, none, some 3] [isV ?v3_0, isV ?v3_1, (fun v w' => BigV w' v (a / b)), (fun v w' => BigV w' v (1)), isV (.tuple #[.agg #[.bool nz, .string sz, .string tz], .int .i64 kz]), isV ?v3_5, isV ?v3_6, fun _ _ => False, fun _ _ => False] [anyV, anyV, anyV, anyV, anyV, anyV, anyV, anyV, isV ?w3_8] 7 [0, 1, 2, 3, 4, 5, 6] (fun _ => fun w' => Below w.heap.size w w' ∧ Own w' (w.heap.size + 1) 33 [.bool nz, .string sz, .string tz]) rfl (by kernel_rfl) rfl rfl (by decide) (by kernel_rfl) (by kernel_rfl) (fun _ _ _ _ h => h) ?k3 ?m3 ⟨?s3_0, ?s3_1, ?s3_2, ?s3_3, ?s3_4, ?s3_5, ?s3_6, ?s3_7, ?s3_8, trivial⟩ ?p3
      case s3_0 =>
        rw [if_neg (by decide)]
        constructor
        · rw [if_neg (by decide)]
          intro t9 w9 hT9 hV9 hO9 K9 hK9
          have o9_1 := hO9 1 _ (.inl (show List.contains _ _ = false from by kernel_rfl)) rfl
          clear hV9 hO9
          go_simp
          (refine hK9 _ _ (Grow.refl _) ?_; exact rfl)
        · rw [if_pos (by decide)]; trivial
      case s3_1 =>
        rw [if_neg (by decide)]
        constructor
        · rw [if_neg (by decide)]
          intro t9 w9 hT9 hV9 hO9 K9 hK9
          obtain ⟨x9_0, p9_0, q9_0⟩ := hV9 0 30 rfl rfl (of_decide_eq_true (by kernel_rfl))
          obtain rfl : x9_0 = ?v3_0 := q9_0
          clear hV9 hO9
          have d9_0 := grow_cell hT9 qx_0
          have d9_1 := grow_cell hT9 qx_1
          have d9_2 := grow_cell hT9 qx_2
          go_simp
          (refine hK9 _ _ (Grow.refl _) ?_; exact rfl)
        · rw [if_pos (by decide)]; trivial
      case s3_2 =>
        rw [if_neg (by decide)]
        constructor
        · rw [if_neg (by decide)]
          intro t9 w9 hT9 hV9 hO9 K9 hK9
          have o9_4 := hO9 4 _ (.inl (show List.contains _ _ = false from by kernel_rfl)) rfl
          clear hV9 hO9
          go_simp
          exact hK9 _ _ (Grow.refl _) (NQ.out.below hT9.below)
        · rw [if_pos (by decide)]; trivial
      case s3_3 =>
        rw [if_neg (by decide)]
        constructor
        · rw [if_neg (by decide)]
          intro t9 w9 hT9 hV9 hO9 K9 hK9
          clear hV9 hO9
          go_simp
          refine (of64_ref 1 (by decide) _).mono ?_
          rintro _ w8 ⟨v8, rfl, hv8, hb8⟩
          exact hK9 _ _ hb8 hv8
        · rw [if_pos (by decide)]; trivial
      case s3_4 =>
        rw [if_neg (by decide)]
        constructor
        · rw [if_neg (by decide)]
          intro t9 w9 hT9 hV9 hO9 K9 hK9
          obtain ⟨x9_1, p9_1, q9_1⟩ := hV9 1 31 rfl rfl (of_decide_eq_true (by kernel_rfl))
          obtain rfl : x9_1 = ?v3_1 := q9_1
          obtain ⟨x9_2, p9_2, q9_2⟩ := hV9 2 32 rfl rfl (of_decide_eq_true (by kernel_rfl))
          replace q9_2 : ((fun v w' => BigV w' v (a / b))) x9_2 _ := q9_2
          obtain ⟨x9_3, p9_3, q9_3⟩ := hV9 3 33 rfl rfl (of_decide_eq_true (by kernel_rfl))
          replace q9_3 : ((fun v w' => BigV w' v (1))) x9_3 _ := q9_3
          clear hV9 hO9
          go_simp
          refine (lowest_ref _ _ _ (a / b) (1) _ q9_2 q9_3 (by omega) (by omega) (by decide)).mono ?_
          rintro e w8 ⟨hl, hb8⟩
          have he := HEND.out _ (by rw [HQ.out]; exact hl.toRat (by decide))
          subst he
          exact hK9 _ _ hb8 rfl
        · rw [if_pos (by decide)]; trivial
      case s3_5 =>
        rw [if_neg (by decide)]
        constructor
        · rw [if_neg (by decide)]
          intro t9 w9 hT9 hV9 hO9 K9 hK9
          obtain ⟨x9_4, p9_4, q9_4⟩ := hV9 4 34 rfl rfl (of_decide_eq_true (by kernel_rfl))
          obtain rfl : x9_4 = (.tuple #[.agg #[.bool nz, .string sz, .string tz], .int .i64 kz]) := q9_4
          clear hV9 hO9
          go_simp
          (refine hK9 _ _ (Grow.refl _) ?_; exact rfl)
        · rw [if_pos (by decide)]; trivial
      case s3_6 =>
        rw [if_neg (by decide)]
        constructor
        · rw [if_neg (by decide)]
          intro t9 w9 hT9 hV9 hO9 K9 hK9
          obtain ⟨x9_4, p9_4, q9_4⟩ := hV9 4 34 rfl rfl (of_decide_eq_true (by kernel_rfl))
          obtain rfl : x9_4 = (.tuple #[.agg #[.bool nz, .string sz, .string tz], .int .i64 kz]) := q9_4
          clear hV9 hO9
          go_simp
          (refine hK9 _ _ (Grow.refl _) ?_; exact rfl)
        · rw [if_pos (by decide)]; trivial
      case s3_7 =>
        rw [if_pos (by decide)]
        intro t9 w9 hT9 hV9 hO9 K9 hK9
        obtain ⟨x9_5, p9_5, q9_5⟩ := hV9 5 35 (by decide) rfl (of_decide_eq_true (by kernel_rfl))
        obtain rfl : x9_5 = ?v3_5 := q9_5
        have o9_2 := hO9 2 _ (.inl (show List.contains _ _ = false from by kernel_rfl)) rfl
        clear hV9 hO9
        have og := o_r.below hT9.below o_r.lt
        have hg0 : w9.cell? ⟨w.heap.size + 1, 0, none⟩ = some (.bool false) := og.cell 0
        have hg1 : w9.cell? ⟨w.heap.size + 1, 1, none⟩ = some (.string ⟨#[]⟩) := og.cell 1
        have hg2 : w9.cell? ⟨w.heap.size + 1, 2, none⟩ = some (.string ⟨#[]⟩) := og.cell 2
        have hf0 := og.frozen 0
        have hf1 := og.frozen 1
        have hf2 := og.frozen 2
        have HE := Lib.hid (⟨Below.set3 (below6 hbw hT9.below) (by omega) _ _ _, og.set3 _ _ _⟩ : (fun w' => Below w.heap.size w w' ∧ Own w' (w.heap.size + 1) 33 [.bool nz, .string sz, .string tz]) ((((w9.setCell ⟨w.heap.size + 1, 0, none⟩ (.bool nz)).setCell ⟨w.heap.size + 1, 1, none⟩ (.string sz)).setCell ⟨w.heap.size + 1, 2, none⟩ (.string tz))))
        go_simp
        exact hK9 undef _ HE.out trivial
      case s3_8 =>
        rw [if_neg (by decide)]
        constructor
        · rw [if_pos (by rfl)]; trivial
        · rw [if_neg (by decide)]
          intro t9 w9 hV9 hO9 K9 hK9
          obtain ⟨x9_6, p9_6, q9_6⟩ := hV9 6 36 rfl rfl (of_decide_eq_true (by kernel_rfl))
          obtain ⟨_, q9_6⟩ := q9_6.pre (by decide)
          obtain rfl : x9_6 = ?v3_6 := q9_6
          clear hV9 hO9
          go_simp
          (refine hK9 _ ?_; exact rfl)
      case k3 =>
        intro i9 v9 w9 x9 h9 g9
        match i9, h9 with
        | 0, h9 => exact h9
        | 1, h9 => exact h9
        | 2, h9 => (replace h9 : (fun v w' => BigV w' v (a / b)) v9 w9 := h9); exact BigV.below h9 g9
        | 3, h9 => (replace h9 : (fun v w' => BigV w' v (1)) v9 w9 := h9); exact BigV.below h9 g9
        | 4, h9 => exact h9
        | 5, h9 => exact h9
        | 6, h9 => exact h9
        | 7, h9 => exact h9
        | 8, h9 => exact h9
        | _ + 9, h9 => exact trivial
      case m3 =>
        intro i9 v9 w9 x9 ha9 hs9 h9
        match i9, ha9, hs9, h9 with
        | 0, ha9, hs9, h9 => exact absurd (by decide) ha9
        | 1, ha9, hs9, h9 => exact absurd (by decide) ha9
        | 2, ha9, hs9, h9 => exact absurd (by decide) ha9
        | 3, ha9, hs9, h9 => exact absurd (by decide) ha9
        | 4, ha9, hs9, h9 => exact absurd (by decide) ha9
        | 5, ha9, hs9, h9 => exact absurd (by decide) ha9
        | 6, ha9, hs9, h9 => exact absurd (by decide) ha9
        | 7, ha9, hs9, h9 => exact absurd rfl hs9
        | 8, ha9, hs9, h9 => exact False.elim h9
        | _ + 9, ha9, hs9, h9 => exact trivial
      intro u9 w9 hE9 hu9
      obtain ⟨_, r9_0⟩ := (hu9 0 (by decide)).pre (by decide)
      replace r9_0 : u9 0 = ?v3_0 := r9_0
      obtain ⟨_, r9_1⟩ := (hu9 1 (by decide)).pre (by decide)
      replace r9_1 : u9 1 = ?v3_1 := r9_1
      obtain ⟨_, r9_4⟩ := (hu9 4 (by decide)).pre (by decide)
      replace r9_4 : u9 4 = (.tuple #[.agg #[.bool nz, .string sz, .string tz], .int .i64 kz]) := r9_4
      obtain ⟨_, r9_5⟩ := (hu9 5 (by decide)).pre (by decide)
      replace r9_5 : u9 5 = ?v3_5 := r9_5
      obtain ⟨_, r9_6⟩ := (hu9 6 (by decide)).pre (by decide)
      replace r9_6 : u9 6 = ?v3_6 := r9_6
      have r9_8 : u9 8 = ?w3_8 := (hu9 8 (by decide)).late (by decide)
      clear hu9
      obtain ⟨sz9, oz⟩ := hE9
      simp only [putAll, Act.put, List.setIfInBounds_toArray, List.set_cons_succ, List.set_cons_zero, List.getD_cons_succ, List.getD_cons_zero, Nat.reduceAdd, Nat.zero_add]
      simp only [r9_0, r9_1, r9_4, r9_5, r9_6, r9_8]
      clear r9_0 r9_1 r9_4 r9_5 r9_6 r9_8
      go_wp2_with fail
      have z0 : w9.cell? ⟨w.heap.size + 1, 0, none⟩ = some (.bool nz) := oz.cell 0
      have z1 : w9.cell? ⟨w.heap.size + 1, 1, none⟩ = some (.string sz) := oz.cell 1
      have z2 : w9.cell? ⟨w.heap.size + 1, 2, none⟩ = some (.string tz) := oz.cell 2
      exact bodyPost_ret (v := .tuple #[.agg #[.bool nz, .string sz, .string tz], .int .i64 kz]) (by simp [results, Try.results38, go_sem, z0, z1, z2]) rfl ⟨HRES.out, sz9⟩
    | true =>
      have hr0 : (dk (a % b)).length = 0 := by
        rcases Nat.eq_zero_or_pos (a % b) with e | e
        · rw [e]; rfl
        · exact absurd ⟨rfl, e⟩ hn
      rw [hr0]
      clear hn hr0 HZ
      have qx_0 : wd.cell? ⟨w.heap.size, 0, none⟩ = some (.bool true) := o_x.cell 0
      have qx_1 : wd.cell? ⟨w.heap.size, 1, none⟩ = some (.string sx) := o_x.cell 1
      have qx_2 : wd.cell? ⟨w.heap.size, 2, none⟩ = some (.string tx) := o_x.cell 2
      go_upto_region 6 with (fail)
      refine wp_reg_st [some 30, some 31, some 32, some 33, some 34, some 35, some 36, none, some 3] [isV ?v4_0, isV ?v4_1, (fun v w' => BigV w' v (a / b)), (fun v w' => BigV w' v (1)), isV (.tuple #[.agg #[.bool nz, .string sz, .string tz], .int .i64 kz]), isV ?v4_5, isV ?v4_6, fun _ _ => False, fun _ _ => False] [anyV, anyV, anyV, anyV, anyV, anyV, anyV, anyV, isV ?w4_8] 7 [0, 1, 2, 3, 4, 5, 6] (fun _ => fun w' => Below w.heap.size w w' ∧ Own w' (w.heap.size + 1) 33 [.bool nz, .string sz, .string tz]) rfl (by kernel_rfl) rfl rfl (by decide) (by kernel_rfl) (by kernel_rfl) (fun _ _ _ _ h => h) ?k4 ?m4 ⟨?s4_0, ?s4_1, ?s4_2, ?s4_3, ?s4_4, ?s4_5, ?s4_6, ?s4_7, ?s4_8, trivial⟩ ?p4
      case s4_0 =>
        rw [if_neg (by decide)]
        constructor
        · rw [if_neg (by decide)]
          intro t9 w9 hT9 hV9 hO9 K9 hK9
          have o9_1 := hO9 1 _ (.inl (show List.contains _ _ = false from by kernel_rfl)) rfl
          clear hV9 hO9
          go_simp
          (refine hK9 _ _ (Grow.refl _) ?_; exact rfl)
        · rw [if_pos (by decide)]; trivial
      case s4_1 =>
        rw [if_neg (by decide)]
        constructor
        · rw [if_neg (by decide)]
          intro t9 w9 hT9 hV9 hO9 K9 hK9
          obtain ⟨x9_0, p9_0, q9_0⟩ := hV9 0 30 rfl rfl (of_decide_eq_true (by kernel_rfl))
          obtain rfl : x9_0 = ?v4_0 := q9_0
          clear hV9 hO9
          have d9_0 := grow_cell hT9 qx_0
          have d9_1 := grow_cell hT9 qx_1
          have d9_2 := grow_cell hT9 qx_2
          go_simp
          (refine hK9 _ _ (Grow.refl _) ?_; exact rfl)
        · rw [if_pos (by decide)]; trivial
      case s4_2 =>
        rw [if_neg (by decide)]
        constructor
        · rw [if_neg (by decide)]
          intro t9 w9 hT9 hV9 hO9 K9 hK9
          have o9_4 := hO9 4 _ (.inl (show List.contains _ _ = false from by kernel_rfl)) rfl
          clear hV9 hO9
          go_simp
          exact hK9 _ _ (Grow.refl _) (NQ.out.below hT9.below)
        · rw [if_pos (by decide)]; trivial
      case s4_3 =>
        rw [if_neg (by decide)]
        constructor
        · rw [if_neg (by decide)]
          intro t9 w9 hT9 hV9 hO9 K9 hK9
          clear hV9 hO9
          go_simp
          refine (of64_ref 1 (by decide) _).mono ?_
          rintro _ w8 ⟨v8, rfl, hv8, hb8⟩
          exact hK9 _ _ hb8 hv8
        · rw [if_pos (by decide)]; trivial
      case s4_4 =>
        rw [if_neg (by decide)]
        constructor
        · rw [if_neg (by decide)]
          intro t9 w9 hT9 hV9 hO9 K9 hK9
          obtain ⟨x9_1, p9_1, q9_1⟩ := hV9 1 31 rfl rfl (of_decide_eq_true (by kernel_rfl))
          obtain rfl : x9_1 = ?v4_1 := q9_1
          obtain ⟨x9_2, p9_2, q9_2⟩ := hV9 2 32 rfl rfl (of_decide_eq_true (by kernel_rfl))
          replace q9_2 : ((fun v w' => BigV w' v (a / b))) x9_2 _ := q9_2
          obtain ⟨x9_3, p9_3, q9_3⟩ := hV9 3 33 rfl rfl (of_decide_eq_true (by kernel_rfl))
          replace q9_3 : ((fun v w' => BigV w' v (1))) x9_3 _ := q9_3
          clear hV9 hO9
          go_simp
          refine (lowest_ref _ _ _ (a / b) (1) _ q9_2 q9_3 (by omega) (by omega) (by decide)).mono ?_
          rintro e w8 ⟨hl, hb8⟩
          have he := HEND.out _ (by rw [HQ.out]; exact hl.toRat (by decide))
          subst he
          exact hK9 _ _ hb8 rfl
        · rw [if_pos (by decide)]; trivial
      case s4_5 =>
        rw [if_neg (by decide)]
        constructor
        · rw [if_neg (by decide)]
          intro t9 w9 hT9 hV9 hO9 K9 hK9
          obtain ⟨x9_4, p9_4, q9_4⟩ := hV9 4 34 rfl rfl (of_decide_eq_true (by kernel_rfl))
          obtain rfl : x9_4 = (.tuple #[.agg #[.bool nz, .string sz, .string tz], .int .i64 kz]) := q9_4
          clear hV9 hO9
          go_simp
          (refine hK9 _ _ (Grow.refl _) ?_; exact rfl)
        · rw [if_pos (by decide)]; trivial
      case s4_6 =>
        rw [if_neg (by decide)]
        constructor
        · rw [if_neg (by decide)]
          intro t9 w9 hT9 hV9 hO9 K9 hK9
          obtain ⟨x9_4, p9_4, q9_4⟩ := hV9 4 34 rfl rfl (of_decide_eq_true (by kernel_rfl))
          obtain rfl : x9_4 = (.tuple #[.agg #[.bool nz, .string sz, .string tz], .int .i64 kz]) := q9_4
          clear hV9 hO9
          go_simp
          (refine hK9 _ _ (Grow.refl _) ?_; exact rfl)
        · rw [if_pos (by decide)]; trivial
      case s4_7 =>
        rw [if_pos (by decide)]
        intro t9 w9 hT9 hV9 hO9 K9 hK9
        obtain ⟨x9_5, p9_5, q9_5⟩ := hV9 5 35 (by decide) rfl (of_decide_eq_true (by kernel_rfl))
        obtain rfl : x9_5 = ?v4_5 := q9_5
        have o9_2 := hO9 2 _ (.inl (show List.contains _ _ = false from by kernel_rfl)) rfl
        clear hV9 hO9
        have og := o_r.below hT9.below o_r.lt
        have hg0 : w9.cell? ⟨w.heap.size + 1, 0, none⟩ = some (.bool false) := og.cell 0
        have hg1 : w9.cell? ⟨w.heap.size + 1, 1, none⟩ = some (.string ⟨#[]⟩) := og.cell 1
        have hg2 : w9.cell? ⟨w.heap.size + 1, 2, none⟩ = some (.string ⟨#[]⟩) := og.cell 2
        have hf0 := og.frozen 0
        have hf1 := og.frozen 1
        have hf2 := og.frozen 2
        have HE := Lib.hid (⟨Below.set3 (below6 hbw hT9.below) (by omega) _ _ _, og.set3 _ _ _⟩ : (fun w' => Below w.heap.size w w' ∧ Own w' (w.heap.size + 1) 33 [.bool nz, .string sz, .string tz]) ((((w9.setCell ⟨w.heap.size + 1, 0, none⟩ (.bool nz)).setCell ⟨w.heap.size + 1, 1, none⟩ (.string sz)).setCell ⟨w.heap.size + 1, 2, none⟩ (.string tz))))
        go_simp
        exact hK9 undef _ HE.out trivial
      case s4_8 =>
        rw [if_neg (by decide)]
        constructor
        · rw [if_pos (by rfl)]; trivial
        · rw [if_neg (by decide)]
          intro t9 w9 hV9 hO9 K9 hK9
          obtain ⟨x9_6, p9_6, q9_6⟩ := hV9 6 36 rfl rfl (of_decide_eq_true (by kernel_rfl))
          obtain ⟨_, q9_6⟩ := q9_6.pre (by decide)
          obtain rfl : x9_6 = ?v4_6 := q9_6
          clear hV9 hO9
          go_simp
          (refine hK9 _ ?_; exact rfl)
      case k4 =>
        intro i9 v9 w9 x9 h9 g9
        match i9, h9 with
        | 0, h9 => exact h9
        | 1, h9 => exact h9
        | 2, h9 => (replace h9 : (fun v w' => BigV w' v (a / b)) v9 w9 := h9); exact BigV.below h9 g9
        | 3, h9 => (replace h9 : (fun v w' => BigV w' v (1)) v9 w9 := h9); exact BigV.below h9 g9
        | 4, h9 => exact h9
        | 5, h9 => exact h9
        | 6, h9 => exact h9
        | 7, h9 => exact h9
        | 8, h9 => exact h9
        | _ + 9, h9 => exact trivial
      case m4 =>
        intro i9 v9 w9 x9 ha9 hs9 h9
        match i9, ha9, hs9, h9 with
        | 0, ha9, hs9, h9 => exact absurd (by decide) ha9
        | 1, ha9, hs9, h9 => exact absurd (by decide) ha9
        | 2, ha9, hs9, h9 => exact absurd (by decide) ha9
        | 3, ha9, hs9, h9 => exact absurd (by decide) ha9
        | 4, ha9, hs9, h9 => exact absurd (by decide) ha9
        | 5, ha9, hs9, h9 => exact absurd (by decide) ha9
        | 6, ha9, hs9, h9 => exact absurd (by decide) ha9
        | 7, ha9, hs9, h9 => exact absurd rfl hs9
        | 8, ha9, hs9, h9 => exact False.elim h9
        | _ + 9, ha9, hs9, h9 => exact trivial
      intro u9 w9 hE9 hu9
      obtain ⟨_, r9_0⟩ := (hu9 0 (by decide)).pre (by decide)
      replace r9_0 : u9 0 = ?v4_0 := r9_0
      obtain ⟨_, r9_1⟩ := (hu9 1 (by decide)).pre (by decide)
      replace r9_1 : u9 1 = ?v4_1 := r9_1
      obtain ⟨_, r9_4⟩ := (hu9 4 (by decide)).pre (by decide)
      replace r9_4 : u9 4 = (.tuple #[.agg #[.bool nz, .string sz, .string tz], .int .i64 kz]) := r9_4
      obtain ⟨_, r9_5⟩ := (hu9 5 (by decide)).pre (by decide)
      replace r9_5 : u9 5 = ?v4_5 := r9_5
      obtain ⟨_, r9_6⟩ := (hu9 6 (by decide)).pre (by decide)
      replace r9_6 : u9 6 = ?v4_6 := r9_6
      have r9_8 : u9 8 = ?w4_8 := (hu9 8 (by decide)).late (by decide)
      clear hu9
      obtain ⟨sz9, oz⟩ := hE9
      simp only [putAll, Act.put, List.setIfInBounds_toArray, List.set_cons_succ, List.set_cons_zero, List.getD_cons_succ, List.getD_cons_zero, Nat.reduceAdd, Nat.zero_add]
      simp only [r9_0, r9_1, r9_4, r9_5, r9_6, r9_8]
      clear r9_0 r9_1 r9_4 r9_5 r9_6 r9_8
      go_wp2_with fail
      have z0 : w9.cell? ⟨w.heap.size + 1, 0, none⟩ = some (.bool nz) := oz.cell 0
      have z1 : w9.cell? ⟨w.heap.size + 1, 1, none⟩ = some (.string sz) := oz.cell 1
      have z2 : w9.cell? ⟨w.heap.size + 1, 2, none⟩ = some (.string tz) := oz.cell 2
      exact bodyPost_ret (v := .tuple #[.agg #[.bool nz, .string sz, .string tz], .int .i64 kz]) (by simp [results, Try.results38, go_sem, z0, z1, z2]) rfl ⟨HRES.out, sz9⟩
theorem floorr_yes {x : Rat} (hx : OkR x) (w : World) : Calls Try.prog 38 #[RV x] w fun e w' => RatRes ((x.floor : Int) : Rat) e ∧ Below w.heap.size w w' :=
  floorr_core _ _ _ x.num.natAbs x.den _ (fun w => isratior_yes w hx) (fun w => big_S _ w hx.1) (fun w => big_S _ w hx.2) (floor_parts x) (den_pos x) hx.1.dk hx.2.dk w
end Go.Proofs.Ytofijnhkoadfjaa
