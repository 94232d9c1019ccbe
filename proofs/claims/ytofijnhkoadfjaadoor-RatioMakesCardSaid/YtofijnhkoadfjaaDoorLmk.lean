/- The law RatioMakes as a walk. -/
import Derived.Test.YtofijnhkoadfjaaDoorIt
namespace Go.Proofs.YtofijnhkoadfjaaDoor
set_option linter.unusedSimpArgs false
set_option linter.unusedVariables false
set_option linter.unusedSectionVars false
open Go.RowKit Dg

set_option maxRecDepth 100000 in
set_option maxHeartbeats 4000000 in
theorem make_zero (num : Int) (w : World) : Calls Tryd.prog 6 #[.int .i64 num, .int .i64 0] w fun e w' => e = .returned (.tuple #[.agg #[.bool false, .string ⟨#[]⟩, .string ⟨#[]⟩], .int .i64 25]) ∧ Below w.heap.size w w' := by
  obtain ⟨o_r, hbw⟩ := new1 w [.bool false, .string ⟨#[]⟩, .string ⟨#[]⟩] 23
  go_enter Tryd.func6, Tryd.ntmps6
  go_upto_region 1 with (fail)
  generalize (w.alloc (.cells #[.bool false, .string ⟨#[]⟩, .string ⟨#[]⟩] 23)) = wb at o_r hbw ⊢
  have qr_0 : wb.cell? ⟨w.heap.size, 0, none⟩ = some (.bool false) := o_r.cell 0
  have qr_1 : wb.cell? ⟨w.heap.size, 1, none⟩ = some (.string ⟨#[]⟩) := o_r.cell 1
  have qr_2 : wb.cell? ⟨w.heap.size, 2, none⟩ = some (.string ⟨#[]⟩) := o_r.cell 2
  have fr_0 := o_r.frozen 0
  have fr_1 := o_r.frozen 1
  have fr_2 := o_r.frozen 2
  have oz := o_r.set3 (.bool false) (.string ⟨#[]⟩) (.string ⟨#[]⟩)
  have sz9 := Below.set3 hbw (g := w.heap.size) (by omega) (.bool false) (.string ⟨#[]⟩) (.string ⟨#[]⟩)
  go_wp2_with fail
  generalize (((wb.setCell ⟨w.heap.size, 0, none⟩ (.bool false)).setCell ⟨w.heap.size, 1, none⟩ (.string ⟨#[]⟩)).setCell ⟨w.heap.size, 2, none⟩ (.string ⟨#[]⟩)) = wz at oz sz9 ⊢
  have z0 : wz.cell? ⟨w.heap.size, 0, none⟩ = some (.bool false) := oz.cell 0
  have z1 : wz.cell? ⟨w.heap.size, 1, none⟩ = some (.string ⟨#[]⟩) := oz.cell 1
  have z2 : wz.cell? ⟨w.heap.size, 2, none⟩ = some (.string ⟨#[]⟩) := oz.cell 2
  exact bodyPost_ret (v := .tuple #[.agg #[.bool false, .string ⟨#[]⟩, .string ⟨#[]⟩], .int .i64 25]) (by simp [results, Tryd.results6, go_sem, z0, z1, z2]) rfl ⟨rfl, sz9⟩
set_option maxRecDepth 100000 in
set_option maxHeartbeats 4000000 in
theorem maker_zero (num : Int) (w : World) : Calls Tryd.prog 7 #[.int .i64 num, .int .i64 0] w fun e w' => e = .returned (.tuple #[.agg #[.bool false, .string ⟨#[]⟩, .string ⟨#[]⟩], .int .i64 25]) ∧ Below w.heap.size w w' := by
  obtain ⟨o_r, hbw⟩ := new1 w [.bool false, .string ⟨#[]⟩, .string ⟨#[]⟩] 23
  go_enter Tryd.func7, Tryd.ntmps7
  go_upto_region 1 with (fail)
  generalize (w.alloc (.cells #[.bool false, .string ⟨#[]⟩, .string ⟨#[]⟩] 23)) = wb at o_r hbw ⊢
  have qr_0 : wb.cell? ⟨w.heap.size, 0, none⟩ = some (.bool false) := o_r.cell 0
  have qr_1 : wb.cell? ⟨w.heap.size, 1, none⟩ = some (.string ⟨#[]⟩) := o_r.cell 1
  have qr_2 : wb.cell? ⟨w.heap.size, 2, none⟩ = some (.string ⟨#[]⟩) := o_r.cell 2
  have fr_0 := o_r.frozen 0
  have fr_1 := o_r.frozen 1
  have fr_2 := o_r.frozen 2
  have oz := o_r.set3 (.bool false) (.string ⟨#[]⟩) (.string ⟨#[]⟩)
  have sz9 := Below.set3 hbw (g := w.heap.size) (by omega) (.bool false) (.string ⟨#[]⟩) (.string ⟨#[]⟩)
  go_wp2_with fail
  generalize (((wb.setCell ⟨w.heap.size, 0, none⟩ (.bool false)).setCell ⟨w.heap.size, 1, none⟩ (.string ⟨#[]⟩)).setCell ⟨w.heap.size, 2, none⟩ (.string ⟨#[]⟩)) = wz at oz sz9 ⊢
  have z0 : wz.cell? ⟨w.heap.size, 0, none⟩ = some (.bool false) := oz.cell 0
  have z1 : wz.cell? ⟨w.heap.size, 1, none⟩ = some (.string ⟨#[]⟩) := oz.cell 1
  have z2 : wz.cell? ⟨w.heap.size, 2, none⟩ = some (.string ⟨#[]⟩) := oz.cell 2
  exact bodyPost_ret (v := .tuple #[.agg #[.bool false, .string ⟨#[]⟩, .string ⟨#[]⟩], .int .i64 25]) (by simp [results, Tryd.results7, go_sem, z0, z1, z2]) rfl ⟨rfl, sz9⟩
theorem make2 (num den : Int) (h1 : -9223372036854775808 ≤ num) (h2 : num ≤ 9223372036854775807) (h3 : -9223372036854775808 ≤ den) (h4 : den ≤ 9223372036854775807) : ∃ (n : Bool) (s t : ByteArray) (k : Int),
    RetV 6 #[.int .i64 num, .int .i64 den] (.tuple #[.agg #[.bool n, .string s, .string t], .int .i64 k]) ∧ RetV 7 #[.int .i64 num, .int .i64 den] (.tuple #[.agg #[.bool n, .string s, .string t], .int .i64 k]) := by
  by_cases hd : den = 0
  · subst hd
    exact ⟨_, _, _, _, fun w => make_zero num w, fun w => maker_zero num w⟩
  · have hd0 : 0 < den.natAbs := by omega
    obtain ⟨n, s, t, k, hend, -⟩ := ratRes_one (rat (decide (num < 0) != decide (den < 0)) num.natAbs den.natAbs)
    exact ⟨n, s, t, k, fun w => (make_any num den w h1 h2 h3 h4 hd).mono fun e w' ⟨a, b⟩ => ⟨hend e (a.toRat hd0), b⟩, fun w => (maker_any num den w h1 h2 h3 h4 hd).mono fun e w' ⟨a, b⟩ => ⟨hend e a, b⟩⟩
theorem int2 (num : Int) (h2 : num ≤ 9223372036854775807) : ∃ (s : ByteArray) (k : Int), (∀ w, Tab w → Calls Tryd.prog 8 #[.int .i64 num] w fun e w' => e = .returned (.tuple #[.string s, .int .i64 k]) ∧ Below w.heap.size w w') ∧ RetV 9 #[.int .i64 num] (.tuple #[.string s, .int .i64 k]) := by
  by_cases hn : num < 0
  · exact ⟨_, _, fun w _ => fromint_no num hn w, fun w => fromintr_no num hn w⟩
  · obtain ⟨k, rfl⟩ : ∃ k : Nat, num = k := ⟨num.toNat, by omega⟩
    exact ⟨_, _, fun w h => fromint_yes k (by omega) w h, fun w => fromintr_yes k (by omega) w⟩
set_option maxRecDepth 100000 in
set_option maxHeartbeats 4000000 in
theorem law_makes (num den : Int) (w : World) (h1 : -9223372036854775808 ≤ num) (h2 : num ≤ 9223372036854775807) (h3 : -9223372036854775808 ≤ den) (h4 : den ≤ 9223372036854775807) (h0 : Tab w) :
    Calls Tryd.prog 3 #[.int .i64 num, .int .i64 den] w (Holds w) := by
  obtain ⟨na, sa, ta, ka, hm1, hm2⟩ := make2 num den h1 h2 h3 h4
  obtain ⟨sb, kb, hf1, hf2⟩ := int2 num h2
  have HM1 := Lib.hid hm1
  have HM2 := Lib.hid hm2
  have HF1 := Lib.hid hf1
  have HF2 := Lib.hid hf2
  have H0 := Lib.hid h0
  have hbw := Below.refl w.heap.size w
  clear hm1 hm2 hf1 hf2 h0 h1 h2 h3 h4
  go_enter Tryd.func3, Tryd.ntmps3
  go_wp2_with fail
  refine (HM1.out _).mono ?_
  rintro e w1 ⟨rfl, hb1⟩
  replace hbw := below6 hbw hb1
  clear hb1
  obtain ⟨o_a, hz2⟩ := new1 w1 [.bool na, .string sa, .string ta] 23
  replace hbw := below6 hbw hz2
  clear hz2
  go_wp2_with fail
  generalize (w1.alloc (.cells #[.bool na, .string sa, .string ta] 23)) = wa3 at o_a hbw ⊢
  generalize w1.heap.size = g3 at o_a ⊢
  refine (HM2.out _).mono ?_
  rintro e w4 ⟨rfl, hb4⟩
  replace o_a := o_a.below hb4 o_a.lt
  replace hbw := below6 hbw hb4
  clear hb4
  obtain ⟨o_b, hz5⟩ := new1 w4 [.bool na, .string sa, .string ta] 23
  replace o_a := o_a.alloc (.cells #[.bool na, .string sa, .string ta] 23)
  replace hbw := below6 hbw hz5
  clear hz5
  go_wp2_with fail
  generalize (w4.alloc (.cells #[.bool na, .string sa, .string ta] 23)) = wa6 at o_a o_b hbw ⊢
  generalize w4.heap.size = g6 at o_b ⊢
  refine (HF1.out _ (H0.out.below hbw)).mono ?_
  rintro e w7 ⟨rfl, hb7⟩
  replace o_a := o_a.below hb7 o_a.lt
  replace o_b := o_b.below hb7 o_b.lt
  replace hbw := below6 hbw hb7
  clear hb7
  go_wp2_with fail
  refine (HF2.out _).mono ?_
  rintro e w8 ⟨rfl, hb8⟩
  replace o_a := o_a.below hb8 o_a.lt
  replace o_b := o_b.below hb8 o_b.lt
  replace hbw := below6 hbw hb8
  clear hb8
  have qa_0 : w8.cell? ⟨g3, 0, none⟩ = some (.bool na) := o_a.cell 0
  have qa_1 : w8.cell? ⟨g3, 1, none⟩ = some (.string sa) := o_a.cell 1
  have qa_2 : w8.cell? ⟨g3, 2, none⟩ = some (.string ta) := o_a.cell 2
  have qb_0 : w8.cell? ⟨g6, 0, none⟩ = some (.bool na) := o_b.cell 0
  have qb_1 : w8.cell? ⟨g6, 1, none⟩ = some (.string sa) := o_b.cell 1
  have qb_2 : w8.cell? ⟨g6, 2, none⟩ = some (.string ta) := o_b.cell 2
  go_wp2_with fail
  clear qa_0 qa_1 qa_2 qb_0 qb_1 qb_2
  refine (known_any _).mono ?_
  rintro e w9 ⟨rfl, hb9⟩
  go_wp2
  go_ret
  exact ⟨rfl, below6 hbw hb9⟩
end Go.Proofs.YtofijnhkoadfjaaDoor
