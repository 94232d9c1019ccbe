/- The program's Of. -/
import Derived.Test.YtopfcfbiaadfeaaDoorId
import Derived.Test.YtopfcfbiaadfeaaDoorNk
namespace Go.Proofs.YtopfcfbiaadfeaaDoor
set_option linter.unusedSimpArgs false
set_option linter.unusedVariables false
set_option linter.unusedSectionVars false
open Go.RowKit Dg

set_option maxRecDepth 100000 in
set_option maxHeartbeats 4000000 in
theorem of_core (neg : Bool) (a b : Nat) (h1 : OkN a) (h2 : OkN b) (hb : 0 < b) (w : World) :
    Calls Tryd.prog 44 #[.bool neg, .string (S a), .string (S b)] w fun e w' => RatRes (rat neg a b) e ∧ Below w.heap.size w w' := by
  have HB := Lib.hid (fun w => both_yes a b w h1 h2)
  have HD := Lib.hid hb
  have HL := Lib.hid (dw_len_pos hb)
  have L1 := Lib.hid h1.dw
  have L2 := Lib.hid h2.dw
  obtain ⟨nz, sz, tz, kz, hend, hres⟩ := ratRes_one (rat neg a b)
  have HEND := Lib.hid hend
  have HRES := Lib.hid hres
  clear hend hres hb h1 h2
  generalize S a = sa at *
  generalize S b = sb at *
  obtain ⟨o_r, hbw⟩ := new1 w [.bool false, .string ⟨#[]⟩, .string ⟨#[]⟩] 29
  go_enter Tryd.func44, Tryd.ntmps44
  go_upto_region 1 with (fail)
  generalize (w.alloc (.cells #[.bool false, .string ⟨#[]⟩, .string ⟨#[]⟩] 29)) = wb at o_r hbw ⊢
  go_wp2_with fail
  refine (HB.out _).mono ?_
  rintro e w1 ⟨v1, v2, rfl, hv1, hv2, hb1⟩
  replace o_r := o_r.below hb1 o_r.lt
  replace hbw := below6 hbw hb1
  clear hb1
  have X1 := Lib.hid hv1
  have X2 := Lib.hid hv2
  obtain ⟨A1, c1, rfl, -⟩ := hv1
  obtain ⟨A2, c2, rfl, -⟩ := hv2
  have b0 : (((dw b).length : Int) == 0) = false := beqI_false (by have := HL.out; omega)
  go_wp2_with fail
  refine (lowest_any neg _ _ a b _ X1.out X2.out (by have := L1.out; omega) (by have := L2.out; omega) HD.out).mono ?_
  rintro e w9 ⟨hl, hb9⟩
  have he := HEND.out _ (hl.toRat HD.out)
  subst he
  replace o_r := o_r.below hb9 o_r.lt
  replace hbw := below6 hbw hb9
  clear hb9 hl
  have qr_0 : w9.cell? ⟨w.heap.size, 0, none⟩ = some (.bool false) := o_r.cell 0
  have qr_1 : w9.cell? ⟨w.heap.size, 1, none⟩ = some (.string ⟨#[]⟩) := o_r.cell 1
  have qr_2 : w9.cell? ⟨w.heap.size, 2, none⟩ = some (.string ⟨#[]⟩) := o_r.cell 2
  have fr_0 := o_r.frozen 0
  have fr_1 := o_r.frozen 1
  have fr_2 := o_r.frozen 2
  have oz := o_r.set3 (.bool nz) (.string sz) (.string tz)
  have sz9 := Below.set3 hbw (g := w.heap.size) (by omega) (.bool nz) (.string sz) (.string tz)
  go_wp2_with fail
  generalize (((w9.setCell ⟨w.heap.size, 0, none⟩ (.bool nz)).setCell ⟨w.heap.size, 1, none⟩ (.string sz)).setCell ⟨w.heap.size, 2, none⟩ (.string tz)) = wz at oz sz9 ⊢
  have z0 : wz.cell? ⟨w.heap.size, 0, none⟩ = some (.bool nz) := oz.cell 0
  have z1 : wz.cell? ⟨w.heap.size, 1, none⟩ = some (.string sz) := oz.cell 1
  have z2 : wz.cell? ⟨w.heap.size, 2, none⟩ = some (.string tz) := oz.cell 2
  exact bodyPost_ret (v := .tuple #[.agg #[.bool nz, .string sz, .string tz], .int .i64 kz]) (by simp [results, Tryd.results44, go_sem, z0, z1, z2]) rfl ⟨HRES.out, sz9⟩
set_option maxRecDepth 100000 in
set_option maxHeartbeats 4000000 in
theorem of_zero (neg : Bool) (a : Nat) (h1 : OkN a) (w : World) :
    Calls Tryd.prog 44 #[.bool neg, .string (S a), .string (S 0)] w fun e w' => e = .returned (.tuple #[.agg #[.bool false, .string ⟨#[]⟩, .string ⟨#[]⟩], .int .i64 25]) ∧ Below w.heap.size w w' := by
  have HB := Lib.hid (fun w => both_yes a 0 w h1 (okn_small (by decide)))
  clear h1
  generalize S a = sa at *
  generalize S 0 = sb at *
  obtain ⟨o_r, hbw⟩ := new1 w [.bool false, .string ⟨#[]⟩, .string ⟨#[]⟩] 29
  go_enter Tryd.func44, Tryd.ntmps44
  go_upto_region 1 with (fail)
  generalize (w.alloc (.cells #[.bool false, .string ⟨#[]⟩, .string ⟨#[]⟩] 29)) = wb at o_r hbw ⊢
  go_wp2_with fail
  refine (HB.out _).mono ?_
  rintro e w1 ⟨v1, v2, rfl, hv1, hv2, hb1⟩
  replace o_r := o_r.below hb1 o_r.lt
  replace hbw := below6 hbw hb1
  clear hb1
  obtain ⟨A1, c1, rfl, -⟩ := hv1
  obtain ⟨A2, c2, rfl, -⟩ := hv2
  have e0 : (dw 0).length = 0 := rfl
  rw [e0]
  clear e0
  have qr_0 : w1.cell? ⟨w.heap.size, 0, none⟩ = some (.bool false) := o_r.cell 0
  have qr_1 : w1.cell? ⟨w.heap.size, 1, none⟩ = some (.string ⟨#[]⟩) := o_r.cell 1
  have qr_2 : w1.cell? ⟨w.heap.size, 2, none⟩ = some (.string ⟨#[]⟩) := o_r.cell 2
  have fr_0 := o_r.frozen 0
  have fr_1 := o_r.frozen 1
  have fr_2 := o_r.frozen 2
  have oz := o_r.set3 (.bool false) (.string ⟨#[]⟩) (.string ⟨#[]⟩)
  have sz9 := Below.set3 hbw (g := w.heap.size) (by omega) (.bool false) (.string ⟨#[]⟩) (.string ⟨#[]⟩)
  go_wp2_with fail
  generalize (((w1.setCell ⟨w.heap.size, 0, none⟩ (.bool false)).setCell ⟨w.heap.size, 1, none⟩ (.string ⟨#[]⟩)).setCell ⟨w.heap.size, 2, none⟩ (.string ⟨#[]⟩)) = wz at oz sz9 ⊢
  have z0 : wz.cell? ⟨w.heap.size, 0, none⟩ = some (.bool false) := oz.cell 0
  have z1 : wz.cell? ⟨w.heap.size, 1, none⟩ = some (.string ⟨#[]⟩) := oz.cell 1
  have z2 : wz.cell? ⟨w.heap.size, 2, none⟩ = some (.string ⟨#[]⟩) := oz.cell 2
  exact bodyPost_ret (v := .tuple #[.agg #[.bool false, .string ⟨#[]⟩, .string ⟨#[]⟩], .int .i64 25]) (by simp [results, Tryd.results44, go_sem, z0, z1, z2]) rfl ⟨rfl, sz9⟩
set_option maxRecDepth 100000 in
set_option maxHeartbeats 4000000 in
theorem of_no (neg : Bool) (s t : ByteArray) (hs : s.size ≤ maxLen) (ht : t.size ≤ maxLen) (h : ¬ (VLD s ∧ VLD t)) (w : World) :
    Calls Tryd.prog 44 #[.bool neg, .string s, .string t] w fun e w' => e = .returned (.tuple #[.agg #[.bool false, .string ⟨#[]⟩, .string ⟨#[]⟩], .int .i64 1]) ∧ Below w.heap.size w w' := by
  have HB := Lib.hid (fun w => both_no s t w hs ht h)
  clear hs ht h
  obtain ⟨o_r, hbw⟩ := new1 w [.bool false, .string ⟨#[]⟩, .string ⟨#[]⟩] 29
  go_enter Tryd.func44, Tryd.ntmps44
  go_upto_region 1 with (fail)
  generalize (w.alloc (.cells #[.bool false, .string ⟨#[]⟩, .string ⟨#[]⟩] 29)) = wb at o_r hbw ⊢
  go_wp2_with fail
  refine (HB.out _).mono ?_
  rintro e w1 ⟨rfl, rfl⟩
  have qr_0 : wb.cell? ⟨w.heap.size, 0, none⟩ = some (.bool false) := o_r.cell 0
  have qr_1 : wb.cell? ⟨w.heap.size, 1, none⟩ = some (.string ⟨#[]⟩) := o_r.cell 1
  have qr_2 : wb.cell? ⟨w.heap.size, 2, none⟩ = some (.string ⟨#[]⟩) := o_r.cell 2
  have fr_0 := o_r.frozen 0
  have fr_1 := o_r.frozen 1
  have fr_2 := o_r.frozen 2
  have oz := o_r.set3 (.bool false) (.string ⟨#[]⟩) (.string ⟨#[]⟩)
  have sz9 := Below.set3 hbw (g := w.heap.size) (by omega) (.bool false) (.string ⟨#[]⟩) (.string ⟨#[]⟩)
  go_wp2_with fail
  generalize (((wb.setCell ⟨w.heap.size, 0, none⟩ (.bool false)).setCell ⟨w.heap.size, 1, none⟩ (.string ⟨#[]⟩)).setCell ⟨w.heap.size, 2, none⟩ (.string ⟨#[]⟩)) = wz at oz sz9 ⊢
  have z0 : wz.cell? ⟨w.heap.size, 0, none⟩ = some (.bool false) := oz.cell 0
  have z1 : wz.cell? ⟨w.heap.size, 1, none⟩ = some (.string ⟨#[]⟩) := oz.cell 1
  have z2 : wz.cell? ⟨w.heap.size, 2, none⟩ = some (.string ⟨#[]⟩) := oz.cell 2
  exact bodyPost_ret (v := .tuple #[.agg #[.bool false, .string ⟨#[]⟩, .string ⟨#[]⟩], .int .i64 1]) (by simp [results, Tryd.results44, go_sem, z0, z1, z2]) rfl ⟨rfl, sz9⟩
end Go.Proofs.YtopfcfbiaadfeaaDoor
