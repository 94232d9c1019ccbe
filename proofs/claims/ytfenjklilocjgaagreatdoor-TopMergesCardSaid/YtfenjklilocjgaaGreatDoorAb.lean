/- Parts of the proof: Ab. No condition of its own. -/
import Derived.Test.YtfenjklilocjgaaGreatDoorAp
set_option linter.unusedSimpArgs false
set_option linter.unusedVariables false
set_option linter.unusedSectionVars false
namespace Go.Proofs.YtfenjklilocjgaaGreatDoor
set_option linter.unusedSimpArgs false
set_option linter.unusedVariables false
set_option linter.unusedSectionVars false
open Go.RowKit Dg

theorem ST.below {kb : Option Nat} {B g nt nx nr no : Nat} {xs rs os : List Value} {b : Bool} {w w' : World} (h : ST kb B g nt nx nr no xs rs os b w) (hb : Below w.heap.size w w') : ST kb B g nt nx nr no xs rs os b w' := by
  obtain ⟨A, T, X, R, O, ts, h1⟩ := h
  exact ⟨_, _, _, _, _, _, h1.below hb⟩
theorem ST.size {kb : Option Nat} {B g nt nx nr no : Nat} {xs rs os : List Value} {b : Bool} {w : World} (h : ST kb B g nt nx nr no xs rs os b w) : B ≤ w.heap.size := by
  obtain ⟨A, T, X, R, O, ts, h1⟩ := h
  exact h1.size
theorem attr_info : (Tryz.prog.info? 64).map (fun i => (i.zero, i.size, i.bytes)) = some (some (.agg #[.string ⟨#[]⟩, .bool false]), 2, 24) := by kernel_rfl
set_option maxRecDepth 100000 in
set_option maxHeartbeats 1000000 in
theorem parse_doc (s : ByteArray) (hs : s = ⟨#[60, 116, 101, 120, 116, 32, 105, 100, 61, 34, 116, 34, 62, 10, 60, 115, 62, 10, 97, 10, 60, 47, 115, 62, 10, 98, 10, 60, 47, 116, 101, 120, 116, 62, 10]⟩) (ga ca : Nat) (hca : 1 ≤ ca) (w : World) (hr : Rd w (some ⟨ga, 0, none⟩) [.string ⟨#[119, 111, 114, 100]⟩, .bool false]) (hm : MLen w) : Calls Tryz.prog 22 #[.string s, .slice (some ⟨ga, 0, none⟩) 1 ca] w fun e w' => ∃ cv, e = .returned (.tuple #[cv, .agg #[.int .i64 0, .int .i64 0], .int .i64 0]) ∧ Doc cv w' ∧ Below w.heap.size w w' := by
  have HC0 := Lib.hid (show Lib.cut (ByteArray.extract s 0 35).data.toList [10] = ((⟨#[60, 116, 101, 120, 116, 32, 105, 100, 61, 34, 116, 34, 62]⟩ : ByteArray).data.toList, (⟨#[60, 115, 62, 10, 97, 10, 60, 47, 115, 62, 10, 98, 10, 60, 47, 116, 101, 120, 116, 62, 10]⟩ : ByteArray).data.toList, true) by rw [hs]; exact cut_0)
  have HC1 := Lib.hid (show Lib.cut (ByteArray.extract s 14 35).data.toList [10] = ((⟨#[60, 115, 62]⟩ : ByteArray).data.toList, (⟨#[97, 10, 60, 47, 115, 62, 10, 98, 10, 60, 47, 116, 101, 120, 116, 62, 10]⟩ : ByteArray).data.toList, true) by rw [hs]; exact cut_1)
  have HC2 := Lib.hid (show Lib.cut (ByteArray.extract s 18 35).data.toList [10] = ((⟨#[97]⟩ : ByteArray).data.toList, (⟨#[60, 47, 115, 62, 10, 98, 10, 60, 47, 116, 101, 120, 116, 62, 10]⟩ : ByteArray).data.toList, true) by rw [hs]; exact cut_2)
  have HC3 := Lib.hid (show Lib.cut (ByteArray.extract s 20 35).data.toList [10] = ((⟨#[60, 47, 115, 62]⟩ : ByteArray).data.toList, (⟨#[98, 10, 60, 47, 116, 101, 120, 116, 62, 10]⟩ : ByteArray).data.toList, true) by rw [hs]; exact cut_3)
  have HC4 := Lib.hid (show Lib.cut (ByteArray.extract s 25 35).data.toList [10] = ((⟨#[98]⟩ : ByteArray).data.toList, (⟨#[60, 47, 116, 101, 120, 116, 62, 10]⟩ : ByteArray).data.toList, true) by rw [hs]; exact cut_4)
  have HC5 := Lib.hid (show Lib.cut (ByteArray.extract s 27 35).data.toList [10] = ((⟨#[60, 47, 116, 101, 120, 116, 62]⟩ : ByteArray).data.toList, (⟨#[]⟩ : ByteArray).data.toList, true) by rw [hs]; exact cut_5)
  have hsz : s.size = 35 := by rw [hs]; rfl
  clear hs
  obtain ⟨i0, hi0, hz0, hz1, hz2⟩ := info_parts attr_info
  have h63 : 0 + 1 ≤ maxLen := by unfold maxLen; omega
  obtain ⟨o_4, o_5, hbw⟩ := new2 w [.slice none 0 0, .slice none 0 0, .slice none 0 0, .slice none 0 0, .slice none 0 0, .slice none 0 0, .slice none 0 0] [.int .i64 0, .int .i64 0] 30 60
  replace hr := hr.below hbw
  go_enter Tryz.func22, Tryz.ntmps22
  go_upto_region 1 with (fail)
  generalize ((w.alloc (.cells #[.slice none 0 0, .slice none 0 0, .slice none 0 0, .slice none 0 0, .slice none 0 0, .slice none 0 0, .slice none 0 0] 30)).alloc (.cells #[.int .i64 0, .int .i64 0] 60)) = wb at o_4 o_5 hbw hr ⊢
  go_wp2_with fail
  refine (checkAttrs_ok ga ca hca _ hr).mono ?_
  rintro e w1 ⟨rfl, hb⟩
  replace o_4 := o_4.below hb o_4.lt
  replace o_5 := o_5.below hb o_5.lt
  replace hr := hr.below hb
  replace hbw := below6 hbw hb
  clear hb
  have HOW := Lib.hid (World.ownsRow_nil w1 w1.heap.size 64 2)
  have HRC : Hid (∀ j u, [.string ⟨#[119, 111, 114, 100]⟩, .bool false][j]? = some u → w1.cell? ((⟨ga, 0, none⟩ : Addr).add j) = some u) := fun j u hu => by rw [Addr.add_lit]; simpa using hr.c9 j hu
  go_wp2_with (at_builtin; refine wpList_append_own_at _ rfl (.const (.slice none 0 0)) (.tmp 23) 22 rfl w1.heap.size 64 i0 _ 2 24 Tryz.underlying22 hi0 hz0 hz1 hz2 rfl (by decide) _ 0 [] rfl HOW.out ⟨ga, 0, none⟩ 1 ca [.string ⟨#[119, 111, 114, 100]⟩, .bool false] rfl rfl HRC.out (by simp [Value.oneCell']) h63 (by omega) (Nat.le_refl _) ?_)
  intro v' w2 hown' hgrow _ hat
  have hb2 : Below w1.heap.size w1 w2 := (Below.refl w1.heap.size w1).grown hgrow (Nat.le_refl _) (own_lt (World.ownsRow_nil w1 w1.heap.size 64 2))
  have hB4 : w.heap.size + 1 < w1.heap.size := o_5.lt
  have hB1 : w1.heap.size ≤ w2.heap.size := hb2.size
  replace o_4 := o_4.below hb2 o_4.lt
  replace o_5 := o_5.below hb2 o_5.lt
  replace hbw := below6 hbw hb2
  obtain ⟨gA, cA, rfl, -, -⟩ := hown'.form (by decide)
  clear hgrow hat hb2 HOW HRC hr
  obtain ⟨o_g, hb3⟩ := new1 w2 [.slice (some ⟨gA, 0, none⟩) 1 cA, .slice none 0 0, .slice none 0 0, .slice none 0 0, .slice none 0 0, .slice none 0 0, .slice none 0 0, .slice none 0 0, .bool false] 93
  have hS : ST none w1.heap.size w2.heap.size 0 0 0 0 [] [] [] false _ := ⟨_, _, _, _, _, _, hB1, o_g, own_below1 hown' hb3, World.ownsRow_nil _ _ _ _, World.ownsRow_nil _ _ _ _, World.ownsRow_nil _ _ _ _, World.ownsRow_nil _ _ _ _, fun k hk => (by cases hk), fun k e => (by cases e), fun v hv => (by cases hv)⟩
  replace o_4 := o_4.below hb3 o_4.lt
  replace o_5 := o_5.below hb3 o_5.lt
  replace hbw := below6 hbw hb3
  clear hb3 hown' o_g
  go_upto_region 7 with (fail)
  generalize (w2.alloc (.cells #[.slice (some ⟨gA, 0, none⟩) 1 cA, .slice none 0 0, .slice none 0 0, .slice none 0 0, .slice none 0 0, .slice none 0 0, .slice none 0 0, .slice none 0 0, .bool false] 93)) = wr0 at hS o_4 o_5 hbw ⊢
  generalize w2.heap.size = g at hS ⊢
  generalize w1.heap.size = B at hS hB4 ⊢
  clear hB1
  refine wp_loop_rounds 7 ?_
  rw [rounds_succ]
  have hm0 := hm.below hbw
  have hw0 : IntKind.i64.wrap (0 + (13 + 1)) = 14 := by decide
  go_wp2_with fail
  obtain ⟨ml0, hml0⟩ := hm0
  refine (cut_line (line := ⟨#[60, 116, 101, 120, 116, 32, 105, 100, 61, 34, 116, 34, 62]⟩) (rest := ⟨#[60, 115, 62, 10, 97, 10, 60, 47, 115, 62, 10, 98, 10, 60, 47, 116, 101, 120, 116, 62, 10]⟩) ml0 _ (by rw [ByteArray.size_extract]; omega) hml0 HC0.out).mono ?_
  rintro e wc0 ⟨rfl, hbc⟩
  clear hml0 HC0
  replace hS := hS.below hbc
  replace o_4 := o_4.below hbc o_4.lt
  replace o_5 := o_5.below hbc o_5.lt
  replace hbw := below6 hbw hbc
  clear hbc
  have hm0 := hm.below hbw
  go_wp2_with fail
  refine (line1 _ hS).mono ?_
  rintro e wd0 ⟨rfl, hS', hbd⟩
  clear hS hm0
  replace o_4 := o_4.below hbd (by omega)
  replace o_5 := o_5.below hbd (by omega)
  replace hbw := hbw.trans (hbd.mono (by omega))
  obtain ⟨o_f, hbf⟩ := new1 wd0 [.int .i64 0, .int .i64 0] 97
  have hS := hS'.below hbf
  clear hS' hbd
  replace o_4 := o_4.below hbf o_4.lt
  replace o_5 := o_5.below hbf o_5.lt
  replace hbw := below6 hbw hbf
  clear hbf
  go_upto_region 10 with (fail)
  generalize (wd0.alloc (.cells #[.int .i64 0, .int .i64 0] 97)) = we0 at hS o_4 o_5 o_f hbw ⊢
  have qf0 : we0.cell? ⟨wd0.heap.size, 0, none⟩ = some (.int .i64 0) := o_f.cell 0
  have qf1 : we0.cell? ⟨wd0.heap.size, 1, none⟩ = some (.int .i64 0) := o_f.cell 1
  go_wp2_with fail
  clear qf0 qf1 o_f hw0
  rw [rounds_succ]
  have hm1 := hm.below hbw
  have hw1 : IntKind.i64.wrap (14 + (3 + 1)) = 18 := by decide
  go_wp2_with fail
  obtain ⟨ml1, hml1⟩ := hm1
  refine (cut_line (line := ⟨#[60, 115, 62]⟩) (rest := ⟨#[97, 10, 60, 47, 115, 62, 10, 98, 10, 60, 47, 116, 101, 120, 116, 62, 10]⟩) ml1 _ (by rw [ByteArray.size_extract]; omega) hml1 HC1.out).mono ?_
  rintro e wc1 ⟨rfl, hbc⟩
  clear hml1 HC1
  replace hS := hS.below hbc
  replace o_4 := o_4.below hbc o_4.lt
  replace o_5 := o_5.below hbc o_5.lt
  replace hbw := below6 hbw hbc
  clear hbc
  have hm1 := hm.below hbw
  go_wp2_with fail
  refine (line2 _ hS).mono ?_
  rintro e wd1 ⟨rfl, hS', hbd⟩
  clear hS hm1
  replace o_4 := o_4.below hbd (by omega)
  replace o_5 := o_5.below hbd (by omega)
  replace hbw := hbw.trans (hbd.mono (by omega))
  obtain ⟨o_f, hbf⟩ := new1 wd1 [.int .i64 0, .int .i64 0] 97
  have hS := hS'.below hbf
  clear hS' hbd
  replace o_4 := o_4.below hbf o_4.lt
  replace o_5 := o_5.below hbf o_5.lt
  replace hbw := below6 hbw hbf
  clear hbf
  go_upto_region 10 with (fail)
  generalize (wd1.alloc (.cells #[.int .i64 0, .int .i64 0] 97)) = we1 at hS o_4 o_5 o_f hbw ⊢
  have qf0 : we1.cell? ⟨wd1.heap.size, 0, none⟩ = some (.int .i64 0) := o_f.cell 0
  have qf1 : we1.cell? ⟨wd1.heap.size, 1, none⟩ = some (.int .i64 0) := o_f.cell 1
  go_wp2_with fail
  clear qf0 qf1 o_f hw1
  rw [rounds_succ]
  have hm2 := hm.below hbw
  have hw2 : IntKind.i64.wrap (18 + (1 + 1)) = 20 := by decide
  go_wp2_with fail
  obtain ⟨ml2, hml2⟩ := hm2
  refine (cut_line (line := ⟨#[97]⟩) (rest := ⟨#[60, 47, 115, 62, 10, 98, 10, 60, 47, 116, 101, 120, 116, 62, 10]⟩) ml2 _ (by rw [ByteArray.size_extract]; omega) hml2 HC2.out).mono ?_
  rintro e wc2 ⟨rfl, hbc⟩
  clear hml2 HC2
  replace hS := hS.below hbc
  replace o_4 := o_4.below hbc o_4.lt
  replace o_5 := o_5.below hbc o_5.lt
  replace hbw := below6 hbw hbc
  clear hbc
  have hm2 := hm.below hbw
  go_wp2_with fail
  refine (line3 _ hm2 hS).mono ?_
  rintro e wd2 ⟨rfl, hS', hbd⟩
  clear hS hm2
  replace o_4 := o_4.below hbd (by omega)
  replace o_5 := o_5.below hbd (by omega)
  replace hbw := hbw.trans (hbd.mono (by omega))
  obtain ⟨o_f, hbf⟩ := new1 wd2 [.int .i64 0, .int .i64 0] 97
  have hS := hS'.below hbf
  clear hS' hbd
  replace o_4 := o_4.below hbf o_4.lt
  replace o_5 := o_5.below hbf o_5.lt
  replace hbw := below6 hbw hbf
  clear hbf
  go_upto_region 10 with (fail)
  generalize (wd2.alloc (.cells #[.int .i64 0, .int .i64 0] 97)) = we2 at hS o_4 o_5 o_f hbw ⊢
  have qf0 : we2.cell? ⟨wd2.heap.size, 0, none⟩ = some (.int .i64 0) := o_f.cell 0
  have qf1 : we2.cell? ⟨wd2.heap.size, 1, none⟩ = some (.int .i64 0) := o_f.cell 1
  go_wp2_with fail
  clear qf0 qf1 o_f hw2
  rw [rounds_succ]
  have hm3 := hm.below hbw
  have hw3 : IntKind.i64.wrap (20 + (4 + 1)) = 25 := by decide
  go_wp2_with fail
  obtain ⟨ml3, hml3⟩ := hm3
  refine (cut_line (line := ⟨#[60, 47, 115, 62]⟩) (rest := ⟨#[98, 10, 60, 47, 116, 101, 120, 116, 62, 10]⟩) ml3 _ (by rw [ByteArray.size_extract]; omega) hml3 HC3.out).mono ?_
  rintro e wc3 ⟨rfl, hbc⟩
  clear hml3 HC3
  replace hS := hS.below hbc
  replace o_4 := o_4.below hbc o_4.lt
  replace o_5 := o_5.below hbc o_5.lt
  replace hbw := below6 hbw hbc
  clear hbc
  have hm3 := hm.below hbw
  go_wp2_with fail
  refine (line4 _ hS).mono ?_
  rintro e wd3 ⟨rfl, hS', hbd⟩
  clear hS hm3
  replace o_4 := o_4.below hbd (by omega)
  replace o_5 := o_5.below hbd (by omega)
  replace hbw := hbw.trans (hbd.mono (by omega))
  obtain ⟨o_f, hbf⟩ := new1 wd3 [.int .i64 0, .int .i64 0] 97
  have hS := hS'.below hbf
  clear hS' hbd
  replace o_4 := o_4.below hbf o_4.lt
  replace o_5 := o_5.below hbf o_5.lt
  replace hbw := below6 hbw hbf
  clear hbf
  go_upto_region 10 with (fail)
  generalize (wd3.alloc (.cells #[.int .i64 0, .int .i64 0] 97)) = we3 at hS o_4 o_5 o_f hbw ⊢
  have qf0 : we3.cell? ⟨wd3.heap.size, 0, none⟩ = some (.int .i64 0) := o_f.cell 0
  have qf1 : we3.cell? ⟨wd3.heap.size, 1, none⟩ = some (.int .i64 0) := o_f.cell 1
  go_wp2_with fail
  clear qf0 qf1 o_f hw3
  rw [rounds_succ]
  have hm4 := hm.below hbw
  have hw4 : IntKind.i64.wrap (25 + (1 + 1)) = 27 := by decide
  go_wp2_with fail
  obtain ⟨ml4, hml4⟩ := hm4
  refine (cut_line (line := ⟨#[98]⟩) (rest := ⟨#[60, 47, 116, 101, 120, 116, 62, 10]⟩) ml4 _ (by rw [ByteArray.size_extract]; omega) hml4 HC4.out).mono ?_
  rintro e wc4 ⟨rfl, hbc⟩
  clear hml4 HC4
  replace hS := hS.below hbc
  replace o_4 := o_4.below hbc o_4.lt
  replace o_5 := o_5.below hbc o_5.lt
  replace hbw := below6 hbw hbc
  clear hbc
  have hm4 := hm.below hbw
  go_wp2_with fail
  refine (line5 _ hm4 hS).mono ?_
  rintro e wd4 ⟨rfl, hS', hbd⟩
  clear hS hm4
  replace o_4 := o_4.below hbd (by omega)
  replace o_5 := o_5.below hbd (by omega)
  replace hbw := hbw.trans (hbd.mono (by omega))
  obtain ⟨o_f, hbf⟩ := new1 wd4 [.int .i64 0, .int .i64 0] 97
  have hS := hS'.below hbf
  clear hS' hbd
  replace o_4 := o_4.below hbf o_4.lt
  replace o_5 := o_5.below hbf o_5.lt
  replace hbw := below6 hbw hbf
  clear hbf
  go_upto_region 10 with (fail)
  generalize (wd4.alloc (.cells #[.int .i64 0, .int .i64 0] 97)) = we4 at hS o_4 o_5 o_f hbw ⊢
  have qf0 : we4.cell? ⟨wd4.heap.size, 0, none⟩ = some (.int .i64 0) := o_f.cell 0
  have qf1 : we4.cell? ⟨wd4.heap.size, 1, none⟩ = some (.int .i64 0) := o_f.cell 1
  go_wp2_with fail
  clear qf0 qf1 o_f hw4
  rw [rounds_succ]
  have hm5 := hm.below hbw
  have hw5 : IntKind.i64.wrap (27 + (7 + 1)) = 35 := by decide
  go_wp2_with fail
  obtain ⟨ml5, hml5⟩ := hm5
  refine (cut_line (line := ⟨#[60, 47, 116, 101, 120, 116, 62]⟩) (rest := ⟨#[]⟩) ml5 _ (by rw [ByteArray.size_extract]; omega) hml5 HC5.out).mono ?_
  rintro e wc5 ⟨rfl, hbc⟩
  clear hml5 HC5
  replace hS := hS.below hbc
  replace o_4 := o_4.below hbc o_4.lt
  replace o_5 := o_5.below hbc o_5.lt
  replace hbw := below6 hbw hbc
  clear hbc
  have hm5 := hm.below hbw
  go_wp2_with fail
  refine (line6 _ hS).mono ?_
  rintro e wd5 ⟨rfl, hS', hbd⟩
  clear hS hm5
  replace o_4 := o_4.below hbd (by omega)
  replace o_5 := o_5.below hbd (by omega)
  replace hbw := hbw.trans (hbd.mono (by omega))
  obtain ⟨o_f, hbf⟩ := new1 wd5 [.int .i64 0, .int .i64 0] 97
  have hS := hS'.below hbf
  clear hS' hbd
  replace o_4 := o_4.below hbf o_4.lt
  replace o_5 := o_5.below hbf o_5.lt
  replace hbw := below6 hbw hbf
  clear hbf
  go_upto_region 10 with (fail)
  generalize (wd5.alloc (.cells #[.int .i64 0, .int .i64 0] 97)) = we5 at hS o_4 o_5 o_f hbw ⊢
  have qf0 : we5.cell? ⟨wd5.heap.size, 0, none⟩ = some (.int .i64 0) := o_f.cell 0
  have qf1 : we5.cell? ⟨wd5.heap.size, 1, none⟩ = some (.int .i64 0) := o_f.cell 1
  go_wp2_with fail
  clear qf0 qf1 o_f hw5
  obtain ⟨A, T, X, R, O, ts, h⟩ := hS
  obtain ⟨ka, ca', rfl, -, -⟩ := h.a.form (by decide)
  obtain ⟨kt, ct, rfl, -, -⟩ := h.t.form (by decide)
  obtain ⟨kx, cx, rfl, -, -⟩ := h.x.form (by decide)
  obtain ⟨kr, cr, rfl, -, -⟩ := h.r.form (by decide)
  have p8 : we5.cell? ⟨g, 8, none⟩ = some (.bool false) := h.own.cell 8
  have p3 : we5.cell? ⟨g, 3, none⟩ = some (.slice (some ⟨kr, 0, none⟩) 1 cr) := h.own.cell 3
  rw [rounds_succ]
  go_wp2_with fail
  refine (sortRegions_one kr cr _ (Rd.of_own h.r)).mono ?_
  rintro e w6 ⟨v, rfl, hv, hb6⟩
  obtain ⟨gv, cv, rfl, hgv, -⟩ := hv.form (by decide)
  have hgn := h.own.lt
  have hBn := h.size
  have hgB := h.gB
  replace h := h.below hb6
  replace o_4 := o_4.below hb6 o_4.lt
  replace o_5 := o_5.below hb6 o_5.lt
  replace hbw := below6 hbw hb6
  clear hb6 p8 p3
  generalize we5.heap.size = n0 at hv hgv hgn hBn ⊢
  have p3 : w6.cell? ⟨g, 3, none⟩ = some (.slice (some ⟨kr, 0, none⟩) 1 cr) := h.own.cell 3
  have f3 := h.own.frozen 3
  have hg4 : w.heap.size ≠ g := by omega
  have hg5 : w.heap.size + 1 ≠ g := by omega
  have og7 : Own (w6.setCell ⟨g, 3, none⟩ (.slice (some ⟨gv, 0, none⟩) 1 cv)) g 93 [.slice (some ⟨ka, 0, none⟩) 1 ca', .slice (some ⟨kt, 0, none⟩) 2 ct, .slice (some ⟨kx, 0, none⟩) 1 cx, .slice (some ⟨gv, 0, none⟩) 1 cv, .slice none 0 0, .slice none 0 0, .slice none 0 0, O, .bool false] := h.own.set_ 3 (.slice (some ⟨gv, 0, none⟩) 1 cv)
  have o47 := o_4.far (p := ⟨g, 3, none⟩) hg4 (.slice (some ⟨gv, 0, none⟩) 1 cv)
  have o57 := o_5.far (p := ⟨g, 3, none⟩) hg5 (.slice (some ⟨gv, 0, none⟩) 1 cv)
  have hc7 : Chg (fun k => k = g ∨ k < B) w6 (w6.setCell ⟨g, 3, none⟩ (.slice (some ⟨gv, 0, none⟩) 1 cv)) := (Chg.refl _ w6).setCell (p := ⟨g, 3, none⟩) (Or.inl rfl) _
  have hb7 := hbw.setCell (p := ⟨g, 3, none⟩) (by show w.heap.size ≤ g; omega) (.slice (some ⟨gv, 0, none⟩) 1 cv)
  go_upto_region 16 with (fail)
  clear p3 f3 hbw o_4 o_5
  generalize (w6.setCell ⟨g, 3, none⟩ (.slice (some ⟨gv, 0, none⟩) 1 cv)) = w7 at og7 o47 o57 hc7 hb7 ⊢
  have c0 : w7.cell? ⟨g, 0, none⟩ = some (.slice (some ⟨ka, 0, none⟩) 1 ca') := og7.cell 0
  have c1 : w7.cell? ⟨g, 1, none⟩ = some (.slice (some ⟨kt, 0, none⟩) 2 ct) := og7.cell 1
  have c2 : w7.cell? ⟨g, 2, none⟩ = some (.slice (some ⟨kx, 0, none⟩) 1 cx) := og7.cell 2
  have c3 : w7.cell? ⟨g, 3, none⟩ = some (.slice (some ⟨gv, 0, none⟩) 1 cv) := og7.cell 3
  have c4 : w7.cell? ⟨g, 4, none⟩ = some (.slice none 0 0) := og7.cell 4
  have c5 : w7.cell? ⟨g, 5, none⟩ = some (.slice none 0 0) := og7.cell 5
  have c6 : w7.cell? ⟨g, 6, none⟩ = some (.slice none 0 0) := og7.cell 6
  have d0 : w7.cell? ⟨w.heap.size, 0, none⟩ = some (.slice none 0 0) := o47.cell 0
  have fd0 := o47.frozen 0
  have d1 : w7.cell? ⟨w.heap.size, 1, none⟩ = some (.slice none 0 0) := o47.cell 1
  have fd1 := o47.frozen 1
  have d2 : w7.cell? ⟨w.heap.size, 2, none⟩ = some (.slice none 0 0) := o47.cell 2
  have fd2 := o47.frozen 2
  have d3 : w7.cell? ⟨w.heap.size, 3, none⟩ = some (.slice none 0 0) := o47.cell 3
  have fd3 := o47.frozen 3
  have d4 : w7.cell? ⟨w.heap.size, 4, none⟩ = some (.slice none 0 0) := o47.cell 4
  have fd4 := o47.frozen 4
  have d5 : w7.cell? ⟨w.heap.size, 5, none⟩ = some (.slice none 0 0) := o47.cell 5
  have fd5 := o47.frozen 5
  have d6 : w7.cell? ⟨w.heap.size, 6, none⟩ = some (.slice none 0 0) := o47.cell 6
  have fd6 := o47.frozen 6
  have e0 : w7.cell? ⟨w.heap.size + 1, 0, none⟩ = some (.int .i64 0) := o57.cell 0
  have fe0 := o57.frozen 0
  have e1 : w7.cell? ⟨w.heap.size + 1, 1, none⟩ = some (.int .i64 0) := o57.cell 1
  have fe1 := o57.frozen 1
  have h45 : w.heap.size ≠ w.heap.size + 1 := by omega
  have h54 : w.heap.size + 1 ≠ w.heap.size := by omega
  have h4B : (fun k => k = g ∨ k < B) w.heap.size := Or.inr (by omega)
  have h5B : (fun k => k = g ∨ k < B) (w.heap.size + 1) := Or.inr (by omega)
  have o48 : Own (((((((((w7.setCell ⟨w.heap.size, 0, none⟩ (.slice (some ⟨ka, 0, none⟩) 1 ca')).setCell ⟨w.heap.size, 1, none⟩ (.slice (some ⟨kt, 0, none⟩) 2 ct)).setCell ⟨w.heap.size, 2, none⟩ (.slice (some ⟨kx, 0, none⟩) 1 cx)).setCell ⟨w.heap.size, 3, none⟩ (.slice (some ⟨gv, 0, none⟩) 1 cv)).setCell ⟨w.heap.size, 4, none⟩ (.slice none 0 0)).setCell ⟨w.heap.size, 5, none⟩ (.slice none 0 0)).setCell ⟨w.heap.size, 6, none⟩ (.slice none 0 0)).setCell ⟨w.heap.size + 1, 0, none⟩ (.int .i64 0)).setCell ⟨w.heap.size + 1, 1, none⟩ (.int .i64 0)) w.heap.size 30 [.slice (some ⟨ka, 0, none⟩) 1 ca', .slice (some ⟨kt, 0, none⟩) 2 ct, .slice (some ⟨kx, 0, none⟩) 1 cx, .slice (some ⟨gv, 0, none⟩) 1 cv, .slice none 0 0, .slice none 0 0, .slice none 0 0] := (((((((((o47.set_ 0 (.slice (some ⟨ka, 0, none⟩) 1 ca')).set_ 1 (.slice (some ⟨kt, 0, none⟩) 2 ct)).set_ 2 (.slice (some ⟨kx, 0, none⟩) 1 cx)).set_ 3 (.slice (some ⟨gv, 0, none⟩) 1 cv)).set_ 4 (.slice none 0 0)).set_ 5 (.slice none 0 0)).set_ 6 (.slice none 0 0)).far (p := ⟨w.heap.size + 1, 0, none⟩) h45 (.int .i64 0)).far (p := ⟨w.heap.size + 1, 1, none⟩) h45 (.int .i64 0))
  have o58 : Own (((((((((w7.setCell ⟨w.heap.size, 0, none⟩ (.slice (some ⟨ka, 0, none⟩) 1 ca')).setCell ⟨w.heap.size, 1, none⟩ (.slice (some ⟨kt, 0, none⟩) 2 ct)).setCell ⟨w.heap.size, 2, none⟩ (.slice (some ⟨kx, 0, none⟩) 1 cx)).setCell ⟨w.heap.size, 3, none⟩ (.slice (some ⟨gv, 0, none⟩) 1 cv)).setCell ⟨w.heap.size, 4, none⟩ (.slice none 0 0)).setCell ⟨w.heap.size, 5, none⟩ (.slice none 0 0)).setCell ⟨w.heap.size, 6, none⟩ (.slice none 0 0)).setCell ⟨w.heap.size + 1, 0, none⟩ (.int .i64 0)).setCell ⟨w.heap.size + 1, 1, none⟩ (.int .i64 0)) (w.heap.size + 1) 60 [.int .i64 0, .int .i64 0] := (((((((((o57.far (p := ⟨w.heap.size, 0, none⟩) h54 (.slice (some ⟨ka, 0, none⟩) 1 ca')).far (p := ⟨w.heap.size, 1, none⟩) h54 (.slice (some ⟨kt, 0, none⟩) 2 ct)).far (p := ⟨w.heap.size, 2, none⟩) h54 (.slice (some ⟨kx, 0, none⟩) 1 cx)).far (p := ⟨w.heap.size, 3, none⟩) h54 (.slice (some ⟨gv, 0, none⟩) 1 cv)).far (p := ⟨w.heap.size, 4, none⟩) h54 (.slice none 0 0)).far (p := ⟨w.heap.size, 5, none⟩) h54 (.slice none 0 0)).far (p := ⟨w.heap.size, 6, none⟩) h54 (.slice none 0 0)).set_ 0 (.int .i64 0)).set_ 1 (.int .i64 0))
  have hb8 := (((((((((hb7.setCell (p := ⟨w.heap.size, 0, none⟩) (Nat.le_refl _) (.slice (some ⟨ka, 0, none⟩) 1 ca')).setCell (p := ⟨w.heap.size, 1, none⟩) (Nat.le_refl _) (.slice (some ⟨kt, 0, none⟩) 2 ct)).setCell (p := ⟨w.heap.size, 2, none⟩) (Nat.le_refl _) (.slice (some ⟨kx, 0, none⟩) 1 cx)).setCell (p := ⟨w.heap.size, 3, none⟩) (Nat.le_refl _) (.slice (some ⟨gv, 0, none⟩) 1 cv)).setCell (p := ⟨w.heap.size, 4, none⟩) (Nat.le_refl _) (.slice none 0 0)).setCell (p := ⟨w.heap.size, 5, none⟩) (Nat.le_refl _) (.slice none 0 0)).setCell (p := ⟨w.heap.size, 6, none⟩) (Nat.le_refl _) (.slice none 0 0)).setCell (p := ⟨w.heap.size + 1, 0, none⟩) (Nat.le_succ _) (.int .i64 0)).setCell (p := ⟨w.heap.size + 1, 1, none⟩) (Nat.le_succ _) (.int .i64 0))
  have hc8 := (((((((((hc7.setCell (p := ⟨w.heap.size, 0, none⟩) h4B (.slice (some ⟨ka, 0, none⟩) 1 ca')).setCell (p := ⟨w.heap.size, 1, none⟩) h4B (.slice (some ⟨kt, 0, none⟩) 2 ct)).setCell (p := ⟨w.heap.size, 2, none⟩) h4B (.slice (some ⟨kx, 0, none⟩) 1 cx)).setCell (p := ⟨w.heap.size, 3, none⟩) h4B (.slice (some ⟨gv, 0, none⟩) 1 cv)).setCell (p := ⟨w.heap.size, 4, none⟩) h4B (.slice none 0 0)).setCell (p := ⟨w.heap.size, 5, none⟩) h4B (.slice none 0 0)).setCell (p := ⟨w.heap.size, 6, none⟩) h4B (.slice none 0 0)).setCell (p := ⟨w.heap.size + 1, 0, none⟩) h5B (.int .i64 0)).setCell (p := ⟨w.heap.size + 1, 1, none⟩) h5B (.int .i64 0))
  go_wp2
  generalize (((((((((w7.setCell ⟨w.heap.size, 0, none⟩ (.slice (some ⟨ka, 0, none⟩) 1 ca')).setCell ⟨w.heap.size, 1, none⟩ (.slice (some ⟨kt, 0, none⟩) 2 ct)).setCell ⟨w.heap.size, 2, none⟩ (.slice (some ⟨kx, 0, none⟩) 1 cx)).setCell ⟨w.heap.size, 3, none⟩ (.slice (some ⟨gv, 0, none⟩) 1 cv)).setCell ⟨w.heap.size, 4, none⟩ (.slice none 0 0)).setCell ⟨w.heap.size, 5, none⟩ (.slice none 0 0)).setCell ⟨w.heap.size, 6, none⟩ (.slice none 0 0)).setCell ⟨w.heap.size + 1, 0, none⟩ (.int .i64 0)).setCell ⟨w.heap.size + 1, 1, none⟩ (.int .i64 0)) = wz at o48 o58 hb8 hc8 ⊢
  have z0 : wz.cell? ⟨w.heap.size, 0, none⟩ = some (.slice (some ⟨ka, 0, none⟩) 1 ca') := o48.cell 0
  have z1 : wz.cell? ⟨w.heap.size, 1, none⟩ = some (.slice (some ⟨kt, 0, none⟩) 2 ct) := o48.cell 1
  have z2 : wz.cell? ⟨w.heap.size, 2, none⟩ = some (.slice (some ⟨kx, 0, none⟩) 1 cx) := o48.cell 2
  have z3 : wz.cell? ⟨w.heap.size, 3, none⟩ = some (.slice (some ⟨gv, 0, none⟩) 1 cv) := o48.cell 3
  have z4 : wz.cell? ⟨w.heap.size, 4, none⟩ = some (.slice none 0 0) := o48.cell 4
  have z5 : wz.cell? ⟨w.heap.size, 5, none⟩ = some (.slice none 0 0) := o48.cell 5
  have z6 : wz.cell? ⟨w.heap.size, 6, none⟩ = some (.slice none 0 0) := o48.cell 6
  have y0 : wz.cell? ⟨w.heap.size + 1, 0, none⟩ = some (.int .i64 0) := o58.cell 0
  have y1 : wz.cell? ⟨w.heap.size + 1, 1, none⟩ = some (.int .i64 0) := o58.cell 1
  exact bodyPost_ret (v := .tuple #[.agg #[.slice (some ⟨ka, 0, none⟩) 1 ca', .slice (some ⟨kt, 0, none⟩) 2 ct, .slice (some ⟨kx, 0, none⟩) 1 cx, .slice (some ⟨gv, 0, none⟩) 1 cv, .slice none 0 0, .slice none 0 0, .slice none 0 0], .agg #[.int .i64 0, .int .i64 0], .int .i64 0]) (by simp [results, Tryz.results22, go_sem, z0, z1, z2, z3, z4, z5, z6, y0, y1]) rfl ⟨_, rfl, doc_of h hv hgn hBn hc8, hb8⟩
end Go.Proofs.YtfenjklilocjgaaGreatDoor
