/- Parts of the proof: Rd8. No condition of its own. -/
import Derived.Test.YtocknfhgjmaibaaGreatDoorRc8
import Derived.Test.YtocknfhgjmaibaaGreatDoorLk
set_option linter.unusedSimpArgs false
set_option linter.unusedVariables false
set_option linter.unusedSectionVars false
set_option maxRecDepth 100000
set_option maxHeartbeats 4000000
namespace Go.Proofs.YtocknfhgjmaibaaGreatDoor
open Go.RowKit Dg

theorem ms_no1 {a p q n : Nat}  (hv : VC a p q n) (h1 : ∀ e, QRes (prodN [a]) (prodN [p]) e → e = .returned (.tuple #[.agg #[.bool false, .string ⟨#[]⟩, .string ⟨#[]⟩], .int .i64 25])) (w : World) (ht : Tab w) :
    Calls Tryz.prog 14 #[.agg #[.int .i64 (a : Int), .int .i64 (p : Int), .int .i64 (q : Int), .int .i64 (n : Int)]] w fun e w' => e = .returned (.tuple #[.agg #[.bool false, .string ⟨#[]⟩, .string ⟨#[]⟩], .int .i64 25]) ∧ Below w.heap.size w w' := by
  have HV := Lib.hid hv; have H1 := Lib.hid h1; have T0 := Lib.hid ht; clear ht; clear hv h1; obtain ⟨o_c, o_r, hbw⟩ := new2 w [.int .i64 (a : Int), .int .i64 (p : Int), .int .i64 (q : Int), .int .i64 (n : Int)] [.bool false, .string ⟨#[]⟩, .string ⟨#[]⟩] 23 27
  go_enter Tryz.func14, Tryz.ntmps14
  go_upto_region 1 with (fail)
  generalize ((w.alloc (.cells #[.int .i64 (a : Int), .int .i64 (p : Int), .int .i64 (q : Int), .int .i64 (n : Int)] 23)).alloc (.cells #[.bool false, .string ⟨#[]⟩, .string ⟨#[]⟩] 27)) = wb at o_c o_r hbw ⊢; have Ea : Hid ([(a : Int)] = [a].map fun (x : Nat) => (x : Int)) := by
    have := HV.out.all; exact Lib.hid (by simp <;> omega)
  have Ma : Hid (Smalls [a]) := by
    have := HV.out.all; exact Lib.hid ⟨by simp, by simp <;> omega⟩
  have Ep : Hid ([(p : Int)] = [p].map fun (x : Nat) => (x : Int)) := by
    have := HV.out.all; exact Lib.hid (by simp <;> omega)
  have Mp : Hid (Smalls [p]) := by
    have := HV.out.all; exact Lib.hid ⟨by simp, by simp <;> omega⟩
  have Eq : Hid ([(q : Int)] = [q].map fun (x : Nat) => (x : Int)) := by
    have := HV.out.all; exact Lib.hid (by simp <;> omega)
  have Mq : Hid (Smalls [q]) := by
    have := HV.out.all; exact Lib.hid ⟨by simp, by simp <;> omega⟩
  obtain ⟨qc_0, qc_1, qc_2, qc_3⟩ := o_c.cells4; obtain ⟨qm0_0, qm0_1, qm0_2, qm0_3⟩ := (o_c.alloc (.cells #[.int .i64 ((a : Int))] 3)).cells4; obtain ⟨o_s0, o_s1, hz1⟩ := new2 wb [.int .i64 ((a : Int))] [.int .i64 ((p : Int))] 3 3; replace o_c := o_c.alloc (.cells #[.int .i64 ((a : Int))] 3); replace o_c := o_c.alloc (.cells #[.int .i64 ((p : Int))] 3); replace o_r := o_r.alloc (.cells #[.int .i64 ((a : Int))] 3); replace o_r := o_r.alloc (.cells #[.int .i64 ((p : Int))] 3); replace hbw := below6 hbw hz1; clear hz1
  go_wp2_with fail
  generalize ((wb.alloc (.cells #[.int .i64 ((a : Int))] 3)).alloc (.cells #[.int .i64 ((p : Int))] 3)) = wa2 at o_c o_r o_s0 o_s1 hbw ⊢; generalize wb.heap.size = g2 at o_s0 o_s1 ⊢; clear qc_0 qm0_0 qc_1 qm0_1 qc_2 qm0_2 qc_3 qm0_3; refine (quot_any HV.out (some ⟨g2, 0, none⟩) [(a : Int)] [a] 1 (some ⟨g2 + 1, 0, none⟩) [(p : Int)] [p] 1 _ o_s0.rd0 Ea.out (by simp) (by decide) Ma.out o_s1.rd0 Ep.out (by simp) (by decide) Mp.out (T0.out.below hbw)).mono ?_; rintro e w3 ⟨hq, hb9⟩; have he := H1.out _ hq; subst he; replace o_c := o_c.below hb9 o_c.lt; replace o_r := o_r.below hb9 o_r.lt; replace hbw := below6 hbw hb9; clear hb9 hq o_s0 o_s1; have lt_c := o_c.lt; have lt_r := o_r.lt; have hs_x := hbw.size; obtain ⟨o_x, hz4⟩ := new1 w3 [.bool false, .string ⟨#[]⟩, .string ⟨#[]⟩] 27; replace o_c := o_c.alloc (.cells #[.bool false, .string ⟨#[]⟩, .string ⟨#[]⟩] 27); replace o_r := o_r.alloc (.cells #[.bool false, .string ⟨#[]⟩, .string ⟨#[]⟩] 27)
  replace hbw := below6 hbw hz4; clear hz4
  go_upto_region 3 with (fail)
  generalize (w3.alloc (.cells #[.bool false, .string ⟨#[]⟩, .string ⟨#[]⟩] 27)) = wa5 at o_c o_r o_x hbw ⊢; generalize w3.heap.size = g5 at o_x hs_x lt_c lt_r ⊢; obtain ⟨qr_0, qr_1, qr_2⟩ := o_r.cells3; obtain ⟨fr_0, fr_1, fr_2⟩ := o_r.frozens3; have oz := o_r.set3 (.bool false) (.string ⟨#[]⟩) (.string ⟨#[]⟩); have sz9 := Below.set3 hbw (g := w.heap.size + 1) (by omega) (.bool false) (.string ⟨#[]⟩) (.string ⟨#[]⟩)
  go_wp2_with fail
  generalize (((wa5.setCell ⟨w.heap.size + 1, 0, none⟩ (.bool false)).setCell ⟨w.heap.size + 1, 1, none⟩ (.string ⟨#[]⟩)).setCell ⟨w.heap.size + 1, 2, none⟩ (.string ⟨#[]⟩)) = wz at oz sz9 ⊢; obtain ⟨z0, z1, z2⟩ := oz.cells3; exact bodyPost_ret (v := .tuple #[.agg #[.bool false, .string ⟨#[]⟩, .string ⟨#[]⟩], .int .i64 25]) (by simp [results, Tryz.results14, go_sem, z0, z1, z2]) rfl ⟨rfl, sz9⟩
theorem msr_no1 {a p q n : Nat} (ny : Bool) (sy ty : ByteArray) (ky : Int) (hv : VC a p q n) (h1 : ∀ e, QRes (prodN [a]) (prodN [p]) e → e = .returned (.tuple #[.agg #[.bool false, .string ⟨#[]⟩, .string ⟨#[]⟩], .int .i64 25])) (h2 : ∀ e, QRes (prodN [a]) (prodN [q]) e → e = .returned (.tuple #[.agg #[.bool ny, .string sy, .string ty], .int .i64 ky])) (w : World) :
    Calls Tryz.prog 15 #[.agg #[.int .i64 (a : Int), .int .i64 (p : Int), .int .i64 (q : Int), .int .i64 (n : Int)]] w fun e w' => e = .returned (.tuple #[.agg #[.bool false, .string ⟨#[]⟩, .string ⟨#[]⟩], .int .i64 25]) ∧ Below w.heap.size w w' := by
  have HV := Lib.hid hv; have H1 := Lib.hid h1; have H2 := Lib.hid h2; clear h2; clear hv h1; obtain ⟨o_c, o_r, hbw⟩ := new2 w [.int .i64 (a : Int), .int .i64 (p : Int), .int .i64 (q : Int), .int .i64 (n : Int)] [.bool false, .string ⟨#[]⟩, .string ⟨#[]⟩] 23 27
  go_enter Tryz.func15, Tryz.ntmps15
  go_upto_region 1 with (fail)
  generalize ((w.alloc (.cells #[.int .i64 (a : Int), .int .i64 (p : Int), .int .i64 (q : Int), .int .i64 (n : Int)] 23)).alloc (.cells #[.bool false, .string ⟨#[]⟩, .string ⟨#[]⟩] 27)) = wb at o_c o_r hbw ⊢; have Ea : Hid ([(a : Int)] = [a].map fun (x : Nat) => (x : Int)) := by
    have := HV.out.all; exact Lib.hid (by simp <;> omega)
  have Ma : Hid (Smalls [a]) := by
    have := HV.out.all; exact Lib.hid ⟨by simp, by simp <;> omega⟩
  have Ep : Hid ([(p : Int)] = [p].map fun (x : Nat) => (x : Int)) := by
    have := HV.out.all; exact Lib.hid (by simp <;> omega)
  have Mp : Hid (Smalls [p]) := by
    have := HV.out.all; exact Lib.hid ⟨by simp, by simp <;> omega⟩
  have Eq : Hid ([(q : Int)] = [q].map fun (x : Nat) => (x : Int)) := by
    have := HV.out.all; exact Lib.hid (by simp <;> omega)
  have Mq : Hid (Smalls [q]) := by
    have := HV.out.all; exact Lib.hid ⟨by simp, by simp <;> omega⟩
  obtain ⟨qc_0, qc_1, qc_2, qc_3⟩ := o_c.cells4
  go_wp2_with fail
  clear qc_0 qc_1 qc_2 qc_3; refine (rmv_yes HV.out _).mono ?_; rintro e w1 ⟨rfl, hb1⟩; replace o_c := o_c.below hb1 o_c.lt; replace o_r := o_r.below hb1 o_r.lt; replace hbw := below6 hbw hb1; clear hb1; obtain ⟨qc_0, qc_1, qc_2, qc_3⟩ := o_c.cells4
  go_upto_region 3 with (fail)
  obtain ⟨qc_0, qc_1, qc_2, qc_3⟩ := o_c.cells4; obtain ⟨qm0_0, qm0_1, qm0_2, qm0_3⟩ := (o_c.alloc (.cells #[.int .i64 ((a : Int))] 3)).cells4; obtain ⟨o_s0, o_s1, hz2⟩ := new2 w1 [.int .i64 ((a : Int))] [.int .i64 ((p : Int))] 3 3; replace o_c := o_c.alloc (.cells #[.int .i64 ((a : Int))] 3); replace o_c := o_c.alloc (.cells #[.int .i64 ((p : Int))] 3); replace o_r := o_r.alloc (.cells #[.int .i64 ((a : Int))] 3); replace o_r := o_r.alloc (.cells #[.int .i64 ((p : Int))] 3); replace hbw := below6 hbw hz2; clear hz2
  go_wp2_with fail
  generalize ((w1.alloc (.cells #[.int .i64 ((a : Int))] 3)).alloc (.cells #[.int .i64 ((p : Int))] 3)) = wa3 at o_c o_r o_s0 o_s1 hbw ⊢; generalize w1.heap.size = g3 at o_s0 o_s1 ⊢; clear qc_0 qm0_0 qc_1 qm0_1 qc_2 qm0_2 qc_3 qm0_3; refine (of38_ref (some ⟨g3, 0, none⟩) [(a : Int)] [a] 1 (some ⟨g3 + 1, 0, none⟩) [(p : Int)] [p] 1 _ o_s0.rd0 Ea.out (by simp) (by decide) Ma.out o_s1.rd0 Ep.out (by simp) (by decide) Mp.out).mono ?_; rintro e w4 ⟨hq, hb9⟩; have he := H1.out _ hq; subst he; replace o_c := o_c.below hb9 o_c.lt; replace o_r := o_r.below hb9 o_r.lt; replace hbw := below6 hbw hb9; clear hb9 hq o_s0 o_s1; have lt_c := o_c.lt; have lt_r := o_r.lt; have hs_x := hbw.size; obtain ⟨o_x, hz5⟩ := new1 w4 [.bool false, .string ⟨#[]⟩, .string ⟨#[]⟩] 27; replace o_c := o_c.alloc (.cells #[.bool false, .string ⟨#[]⟩, .string ⟨#[]⟩] 27); replace o_r := o_r.alloc (.cells #[.bool false, .string ⟨#[]⟩, .string ⟨#[]⟩] 27)
  replace hbw := below6 hbw hz5; clear hz5
  go_upto_region 4 with (fail)
  generalize (w4.alloc (.cells #[.bool false, .string ⟨#[]⟩, .string ⟨#[]⟩] 27)) = wa6 at o_c o_r o_x hbw ⊢; generalize w4.heap.size = g6 at o_x hs_x lt_c lt_r ⊢; obtain ⟨qc_0, qc_1, qc_2, qc_3⟩ := o_c.cells4; obtain ⟨qm0_0, qm0_1, qm0_2, qm0_3⟩ := (o_c.alloc (.cells #[.int .i64 ((a : Int))] 3)).cells4; have hs_s0 := hbw.size; obtain ⟨o_s0, o_s1, hz7⟩ := new2 wa6 [.int .i64 ((a : Int))] [.int .i64 ((q : Int))] 3 3; replace o_c := o_c.alloc (.cells #[.int .i64 ((a : Int))] 3); replace o_c := o_c.alloc (.cells #[.int .i64 ((q : Int))] 3); replace o_r := o_r.alloc (.cells #[.int .i64 ((a : Int))] 3); replace o_r := o_r.alloc (.cells #[.int .i64 ((q : Int))] 3); replace o_x := o_x.alloc (.cells #[.int .i64 ((a : Int))] 3); replace o_x := o_x.alloc (.cells #[.int .i64 ((q : Int))] 3); replace hbw := below6 hbw hz7; clear hz7
  go_wp2_with fail
  generalize ((wa6.alloc (.cells #[.int .i64 ((a : Int))] 3)).alloc (.cells #[.int .i64 ((q : Int))] 3)) = wa8 at o_c o_r o_x o_s0 o_s1 hbw ⊢; generalize wa6.heap.size = g8 at o_s0 o_s1 hs_s0 ⊢; clear qc_0 qm0_0 qc_1 qm0_1 qc_2 qm0_2 qc_3 qm0_3; refine (of38_ref (some ⟨g8, 0, none⟩) [(a : Int)] [a] 1 (some ⟨g8 + 1, 0, none⟩) [(q : Int)] [q] 1 _ o_s0.rd0 Ea.out (by simp) (by decide) Ma.out o_s1.rd0 Eq.out (by simp) (by decide) Mq.out).mono ?_; rintro e w9 ⟨hq, hb9⟩; have he := H2.out _ hq; subst he; replace o_c := o_c.below hb9 o_c.lt; replace o_r := o_r.below hb9 o_r.lt; replace o_x := o_x.below hb9 o_x.lt; replace hbw := below6 hbw hb9; clear hb9 hq o_s0 o_s1; have hs_y := hbw.size; obtain ⟨o_y, hz10⟩ := new1 w9 [.bool ny, .string sy, .string ty] 27; replace o_c := o_c.alloc (.cells #[.bool ny, .string sy, .string ty] 27); replace o_r := o_r.alloc (.cells #[.bool ny, .string sy, .string ty] 27)
  replace o_x := o_x.alloc (.cells #[.bool ny, .string sy, .string ty] 27); replace hbw := below6 hbw hz10; clear hz10
  go_upto_region 6 with (fail)
  generalize (w9.alloc (.cells #[.bool ny, .string sy, .string ty] 27)) = wa11 at o_c o_r o_x o_y hbw ⊢; generalize w9.heap.size = g11 at o_y hs_y ⊢; obtain ⟨qr_0, qr_1, qr_2⟩ := o_r.cells3; obtain ⟨fr_0, fr_1, fr_2⟩ := o_r.frozens3; have oz := o_r.set3 (.bool false) (.string ⟨#[]⟩) (.string ⟨#[]⟩); have sz9 := Below.set3 hbw (g := w.heap.size + 1) (by omega) (.bool false) (.string ⟨#[]⟩) (.string ⟨#[]⟩)
  go_wp2_with fail
  generalize (((wa11.setCell ⟨w.heap.size + 1, 0, none⟩ (.bool false)).setCell ⟨w.heap.size + 1, 1, none⟩ (.string ⟨#[]⟩)).setCell ⟨w.heap.size + 1, 2, none⟩ (.string ⟨#[]⟩)) = wz at oz sz9 ⊢; obtain ⟨z0, z1, z2⟩ := oz.cells3; exact bodyPost_ret (v := .tuple #[.agg #[.bool false, .string ⟨#[]⟩, .string ⟨#[]⟩], .int .i64 25]) (by simp [results, Tryz.results15, go_sem, z0, z1, z2]) rfl ⟨rfl, sz9⟩
theorem ms_no2 {a p q n : Nat} (nx : Bool) (sx tx : ByteArray) (hv : VC a p q n) (h1 : ∀ e, QRes (prodN [a]) (prodN [p]) e → e = .returned (.tuple #[.agg #[.bool nx, .string sx, .string tx], .int .i64 0])) (h2 : ∀ e, QRes (prodN [a]) (prodN [q]) e → e = .returned (.tuple #[.agg #[.bool false, .string ⟨#[]⟩, .string ⟨#[]⟩], .int .i64 25])) (w : World) (ht : Tab w) :
    Calls Tryz.prog 14 #[.agg #[.int .i64 (a : Int), .int .i64 (p : Int), .int .i64 (q : Int), .int .i64 (n : Int)]] w fun e w' => e = .returned (.tuple #[.agg #[.bool false, .string ⟨#[]⟩, .string ⟨#[]⟩], .int .i64 25]) ∧ Below w.heap.size w w' := by
  have HV := Lib.hid hv; have H1 := Lib.hid h1; have H2 := Lib.hid h2; clear h2; have T0 := Lib.hid ht; clear ht; clear hv h1; obtain ⟨o_c, o_r, hbw⟩ := new2 w [.int .i64 (a : Int), .int .i64 (p : Int), .int .i64 (q : Int), .int .i64 (n : Int)] [.bool false, .string ⟨#[]⟩, .string ⟨#[]⟩] 23 27
  go_enter Tryz.func14, Tryz.ntmps14
  go_upto_region 1 with (fail)
  generalize ((w.alloc (.cells #[.int .i64 (a : Int), .int .i64 (p : Int), .int .i64 (q : Int), .int .i64 (n : Int)] 23)).alloc (.cells #[.bool false, .string ⟨#[]⟩, .string ⟨#[]⟩] 27)) = wb at o_c o_r hbw ⊢; have Ea : Hid ([(a : Int)] = [a].map fun (x : Nat) => (x : Int)) := by
    have := HV.out.all; exact Lib.hid (by simp <;> omega)
  have Ma : Hid (Smalls [a]) := by
    have := HV.out.all; exact Lib.hid ⟨by simp, by simp <;> omega⟩
  have Ep : Hid ([(p : Int)] = [p].map fun (x : Nat) => (x : Int)) := by
    have := HV.out.all; exact Lib.hid (by simp <;> omega)
  have Mp : Hid (Smalls [p]) := by
    have := HV.out.all; exact Lib.hid ⟨by simp, by simp <;> omega⟩
  have Eq : Hid ([(q : Int)] = [q].map fun (x : Nat) => (x : Int)) := by
    have := HV.out.all; exact Lib.hid (by simp <;> omega)
  have Mq : Hid (Smalls [q]) := by
    have := HV.out.all; exact Lib.hid ⟨by simp, by simp <;> omega⟩
  obtain ⟨qc_0, qc_1, qc_2, qc_3⟩ := o_c.cells4; obtain ⟨qm0_0, qm0_1, qm0_2, qm0_3⟩ := (o_c.alloc (.cells #[.int .i64 ((a : Int))] 3)).cells4; obtain ⟨o_s0, o_s1, hz1⟩ := new2 wb [.int .i64 ((a : Int))] [.int .i64 ((p : Int))] 3 3; replace o_c := o_c.alloc (.cells #[.int .i64 ((a : Int))] 3); replace o_c := o_c.alloc (.cells #[.int .i64 ((p : Int))] 3); replace o_r := o_r.alloc (.cells #[.int .i64 ((a : Int))] 3); replace o_r := o_r.alloc (.cells #[.int .i64 ((p : Int))] 3); replace hbw := below6 hbw hz1; clear hz1
  go_wp2_with fail
  generalize ((wb.alloc (.cells #[.int .i64 ((a : Int))] 3)).alloc (.cells #[.int .i64 ((p : Int))] 3)) = wa2 at o_c o_r o_s0 o_s1 hbw ⊢; generalize wb.heap.size = g2 at o_s0 o_s1 ⊢; clear qc_0 qm0_0 qc_1 qm0_1 qc_2 qm0_2 qc_3 qm0_3; refine (quot_any HV.out (some ⟨g2, 0, none⟩) [(a : Int)] [a] 1 (some ⟨g2 + 1, 0, none⟩) [(p : Int)] [p] 1 _ o_s0.rd0 Ea.out (by simp) (by decide) Ma.out o_s1.rd0 Ep.out (by simp) (by decide) Mp.out (T0.out.below hbw)).mono ?_; rintro e w3 ⟨hq, hb9⟩; have he := H1.out _ hq; subst he; replace o_c := o_c.below hb9 o_c.lt; replace o_r := o_r.below hb9 o_r.lt; replace hbw := below6 hbw hb9; clear hb9 hq o_s0 o_s1; have lt_c := o_c.lt; have lt_r := o_r.lt; have hs_x := hbw.size; obtain ⟨o_x, hz4⟩ := new1 w3 [.bool nx, .string sx, .string tx] 27; replace o_c := o_c.alloc (.cells #[.bool nx, .string sx, .string tx] 27); replace o_r := o_r.alloc (.cells #[.bool nx, .string sx, .string tx] 27)
  replace hbw := below6 hbw hz4; clear hz4
  go_upto_region 4 with (fail)
  generalize (w3.alloc (.cells #[.bool nx, .string sx, .string tx] 27)) = wa5 at o_c o_r o_x hbw ⊢; generalize w3.heap.size = g5 at o_x hs_x lt_c lt_r ⊢; obtain ⟨qc_0, qc_1, qc_2, qc_3⟩ := o_c.cells4; obtain ⟨qm0_0, qm0_1, qm0_2, qm0_3⟩ := (o_c.alloc (.cells #[.int .i64 ((a : Int))] 3)).cells4; have hs_s0 := hbw.size; obtain ⟨o_s0, o_s1, hz6⟩ := new2 wa5 [.int .i64 ((a : Int))] [.int .i64 ((q : Int))] 3 3; replace o_c := o_c.alloc (.cells #[.int .i64 ((a : Int))] 3); replace o_c := o_c.alloc (.cells #[.int .i64 ((q : Int))] 3); replace o_r := o_r.alloc (.cells #[.int .i64 ((a : Int))] 3); replace o_r := o_r.alloc (.cells #[.int .i64 ((q : Int))] 3); replace o_x := o_x.alloc (.cells #[.int .i64 ((a : Int))] 3); replace o_x := o_x.alloc (.cells #[.int .i64 ((q : Int))] 3); replace hbw := below6 hbw hz6; clear hz6
  go_wp2_with fail
  generalize ((wa5.alloc (.cells #[.int .i64 ((a : Int))] 3)).alloc (.cells #[.int .i64 ((q : Int))] 3)) = wa7 at o_c o_r o_x o_s0 o_s1 hbw ⊢; generalize wa5.heap.size = g7 at o_s0 o_s1 hs_s0 ⊢; clear qc_0 qm0_0 qc_1 qm0_1 qc_2 qm0_2 qc_3 qm0_3; refine (quot_any HV.out (some ⟨g7, 0, none⟩) [(a : Int)] [a] 1 (some ⟨g7 + 1, 0, none⟩) [(q : Int)] [q] 1 _ o_s0.rd0 Ea.out (by simp) (by decide) Ma.out o_s1.rd0 Eq.out (by simp) (by decide) Mq.out (T0.out.below hbw)).mono ?_; rintro e w8 ⟨hq, hb9⟩; have he := H2.out _ hq; subst he; replace o_c := o_c.below hb9 o_c.lt; replace o_r := o_r.below hb9 o_r.lt; replace o_x := o_x.below hb9 o_x.lt; replace hbw := below6 hbw hb9; clear hb9 hq o_s0 o_s1; have hs_y := hbw.size; obtain ⟨o_y, hz9⟩ := new1 w8 [.bool false, .string ⟨#[]⟩, .string ⟨#[]⟩] 27; replace o_c := o_c.alloc (.cells #[.bool false, .string ⟨#[]⟩, .string ⟨#[]⟩] 27); replace o_r := o_r.alloc (.cells #[.bool false, .string ⟨#[]⟩, .string ⟨#[]⟩] 27)
  replace o_x := o_x.alloc (.cells #[.bool false, .string ⟨#[]⟩, .string ⟨#[]⟩] 27); replace hbw := below6 hbw hz9; clear hz9
  go_upto_region 6 with (fail)
  generalize (w8.alloc (.cells #[.bool false, .string ⟨#[]⟩, .string ⟨#[]⟩] 27)) = wa10 at o_c o_r o_x o_y hbw ⊢; generalize w8.heap.size = g10 at o_y hs_y ⊢; obtain ⟨qr_0, qr_1, qr_2⟩ := o_r.cells3; obtain ⟨fr_0, fr_1, fr_2⟩ := o_r.frozens3; have oz := o_r.set3 (.bool false) (.string ⟨#[]⟩) (.string ⟨#[]⟩); have sz9 := Below.set3 hbw (g := w.heap.size + 1) (by omega) (.bool false) (.string ⟨#[]⟩) (.string ⟨#[]⟩)
  go_wp2_with fail
  generalize (((wa10.setCell ⟨w.heap.size + 1, 0, none⟩ (.bool false)).setCell ⟨w.heap.size + 1, 1, none⟩ (.string ⟨#[]⟩)).setCell ⟨w.heap.size + 1, 2, none⟩ (.string ⟨#[]⟩)) = wz at oz sz9 ⊢; obtain ⟨z0, z1, z2⟩ := oz.cells3; exact bodyPost_ret (v := .tuple #[.agg #[.bool false, .string ⟨#[]⟩, .string ⟨#[]⟩], .int .i64 25]) (by simp [results, Tryz.results14, go_sem, z0, z1, z2]) rfl ⟨rfl, sz9⟩
theorem msr_no2 {a p q n : Nat} (nx : Bool) (sx tx : ByteArray) (hv : VC a p q n) (h1 : ∀ e, QRes (prodN [a]) (prodN [p]) e → e = .returned (.tuple #[.agg #[.bool nx, .string sx, .string tx], .int .i64 0])) (h2 : ∀ e, QRes (prodN [a]) (prodN [q]) e → e = .returned (.tuple #[.agg #[.bool false, .string ⟨#[]⟩, .string ⟨#[]⟩], .int .i64 25])) (w : World) :
    Calls Tryz.prog 15 #[.agg #[.int .i64 (a : Int), .int .i64 (p : Int), .int .i64 (q : Int), .int .i64 (n : Int)]] w fun e w' => e = .returned (.tuple #[.agg #[.bool false, .string ⟨#[]⟩, .string ⟨#[]⟩], .int .i64 25]) ∧ Below w.heap.size w w' := by
  have HV := Lib.hid hv; have H1 := Lib.hid h1; have H2 := Lib.hid h2; clear h2; clear hv h1; obtain ⟨o_c, o_r, hbw⟩ := new2 w [.int .i64 (a : Int), .int .i64 (p : Int), .int .i64 (q : Int), .int .i64 (n : Int)] [.bool false, .string ⟨#[]⟩, .string ⟨#[]⟩] 23 27
  go_enter Tryz.func15, Tryz.ntmps15
  go_upto_region 1 with (fail)
  generalize ((w.alloc (.cells #[.int .i64 (a : Int), .int .i64 (p : Int), .int .i64 (q : Int), .int .i64 (n : Int)] 23)).alloc (.cells #[.bool false, .string ⟨#[]⟩, .string ⟨#[]⟩] 27)) = wb at o_c o_r hbw ⊢; have Ea : Hid ([(a : Int)] = [a].map fun (x : Nat) => (x : Int)) := by
    have := HV.out.all; exact Lib.hid (by simp <;> omega)
  have Ma : Hid (Smalls [a]) := by
    have := HV.out.all; exact Lib.hid ⟨by simp, by simp <;> omega⟩
  have Ep : Hid ([(p : Int)] = [p].map fun (x : Nat) => (x : Int)) := by
    have := HV.out.all; exact Lib.hid (by simp <;> omega)
  have Mp : Hid (Smalls [p]) := by
    have := HV.out.all; exact Lib.hid ⟨by simp, by simp <;> omega⟩
  have Eq : Hid ([(q : Int)] = [q].map fun (x : Nat) => (x : Int)) := by
    have := HV.out.all; exact Lib.hid (by simp <;> omega)
  have Mq : Hid (Smalls [q]) := by
    have := HV.out.all; exact Lib.hid ⟨by simp, by simp <;> omega⟩
  obtain ⟨qc_0, qc_1, qc_2, qc_3⟩ := o_c.cells4
  go_wp2_with fail
  clear qc_0 qc_1 qc_2 qc_3; refine (rmv_yes HV.out _).mono ?_; rintro e w1 ⟨rfl, hb1⟩; replace o_c := o_c.below hb1 o_c.lt; replace o_r := o_r.below hb1 o_r.lt; replace hbw := below6 hbw hb1; clear hb1; obtain ⟨qc_0, qc_1, qc_2, qc_3⟩ := o_c.cells4
  go_upto_region 3 with (fail)
  obtain ⟨qc_0, qc_1, qc_2, qc_3⟩ := o_c.cells4; obtain ⟨qm0_0, qm0_1, qm0_2, qm0_3⟩ := (o_c.alloc (.cells #[.int .i64 ((a : Int))] 3)).cells4; obtain ⟨o_s0, o_s1, hz2⟩ := new2 w1 [.int .i64 ((a : Int))] [.int .i64 ((p : Int))] 3 3; replace o_c := o_c.alloc (.cells #[.int .i64 ((a : Int))] 3); replace o_c := o_c.alloc (.cells #[.int .i64 ((p : Int))] 3); replace o_r := o_r.alloc (.cells #[.int .i64 ((a : Int))] 3); replace o_r := o_r.alloc (.cells #[.int .i64 ((p : Int))] 3); replace hbw := below6 hbw hz2; clear hz2
  go_wp2_with fail
  generalize ((w1.alloc (.cells #[.int .i64 ((a : Int))] 3)).alloc (.cells #[.int .i64 ((p : Int))] 3)) = wa3 at o_c o_r o_s0 o_s1 hbw ⊢; generalize w1.heap.size = g3 at o_s0 o_s1 ⊢; clear qc_0 qm0_0 qc_1 qm0_1 qc_2 qm0_2 qc_3 qm0_3; refine (of38_ref (some ⟨g3, 0, none⟩) [(a : Int)] [a] 1 (some ⟨g3 + 1, 0, none⟩) [(p : Int)] [p] 1 _ o_s0.rd0 Ea.out (by simp) (by decide) Ma.out o_s1.rd0 Ep.out (by simp) (by decide) Mp.out).mono ?_; rintro e w4 ⟨hq, hb9⟩; have he := H1.out _ hq; subst he; replace o_c := o_c.below hb9 o_c.lt; replace o_r := o_r.below hb9 o_r.lt; replace hbw := below6 hbw hb9; clear hb9 hq o_s0 o_s1; have lt_c := o_c.lt; have lt_r := o_r.lt; have hs_x := hbw.size; obtain ⟨o_x, hz5⟩ := new1 w4 [.bool nx, .string sx, .string tx] 27; replace o_c := o_c.alloc (.cells #[.bool nx, .string sx, .string tx] 27); replace o_r := o_r.alloc (.cells #[.bool nx, .string sx, .string tx] 27)
  replace hbw := below6 hbw hz5; clear hz5
  go_upto_region 4 with (fail)
  generalize (w4.alloc (.cells #[.bool nx, .string sx, .string tx] 27)) = wa6 at o_c o_r o_x hbw ⊢; generalize w4.heap.size = g6 at o_x hs_x lt_c lt_r ⊢; obtain ⟨qc_0, qc_1, qc_2, qc_3⟩ := o_c.cells4; obtain ⟨qm0_0, qm0_1, qm0_2, qm0_3⟩ := (o_c.alloc (.cells #[.int .i64 ((a : Int))] 3)).cells4; have hs_s0 := hbw.size; obtain ⟨o_s0, o_s1, hz7⟩ := new2 wa6 [.int .i64 ((a : Int))] [.int .i64 ((q : Int))] 3 3; replace o_c := o_c.alloc (.cells #[.int .i64 ((a : Int))] 3); replace o_c := o_c.alloc (.cells #[.int .i64 ((q : Int))] 3); replace o_r := o_r.alloc (.cells #[.int .i64 ((a : Int))] 3); replace o_r := o_r.alloc (.cells #[.int .i64 ((q : Int))] 3); replace o_x := o_x.alloc (.cells #[.int .i64 ((a : Int))] 3); replace o_x := o_x.alloc (.cells #[.int .i64 ((q : Int))] 3); replace hbw := below6 hbw hz7; clear hz7
  go_wp2_with fail
  generalize ((wa6.alloc (.cells #[.int .i64 ((a : Int))] 3)).alloc (.cells #[.int .i64 ((q : Int))] 3)) = wa8 at o_c o_r o_x o_s0 o_s1 hbw ⊢; generalize wa6.heap.size = g8 at o_s0 o_s1 hs_s0 ⊢; clear qc_0 qm0_0 qc_1 qm0_1 qc_2 qm0_2 qc_3 qm0_3; refine (of38_ref (some ⟨g8, 0, none⟩) [(a : Int)] [a] 1 (some ⟨g8 + 1, 0, none⟩) [(q : Int)] [q] 1 _ o_s0.rd0 Ea.out (by simp) (by decide) Ma.out o_s1.rd0 Eq.out (by simp) (by decide) Mq.out).mono ?_; rintro e w9 ⟨hq, hb9⟩; have he := H2.out _ hq; subst he; replace o_c := o_c.below hb9 o_c.lt; replace o_r := o_r.below hb9 o_r.lt; replace o_x := o_x.below hb9 o_x.lt; replace hbw := below6 hbw hb9; clear hb9 hq o_s0 o_s1; have hs_y := hbw.size; obtain ⟨o_y, hz10⟩ := new1 w9 [.bool false, .string ⟨#[]⟩, .string ⟨#[]⟩] 27; replace o_c := o_c.alloc (.cells #[.bool false, .string ⟨#[]⟩, .string ⟨#[]⟩] 27); replace o_r := o_r.alloc (.cells #[.bool false, .string ⟨#[]⟩, .string ⟨#[]⟩] 27)
  replace o_x := o_x.alloc (.cells #[.bool false, .string ⟨#[]⟩, .string ⟨#[]⟩] 27); replace hbw := below6 hbw hz10; clear hz10
  go_upto_region 6 with (fail)
  generalize (w9.alloc (.cells #[.bool false, .string ⟨#[]⟩, .string ⟨#[]⟩] 27)) = wa11 at o_c o_r o_x o_y hbw ⊢; generalize w9.heap.size = g11 at o_y hs_y ⊢; obtain ⟨qr_0, qr_1, qr_2⟩ := o_r.cells3; obtain ⟨fr_0, fr_1, fr_2⟩ := o_r.frozens3; have oz := o_r.set3 (.bool false) (.string ⟨#[]⟩) (.string ⟨#[]⟩); have sz9 := Below.set3 hbw (g := w.heap.size + 1) (by omega) (.bool false) (.string ⟨#[]⟩) (.string ⟨#[]⟩)
  go_wp2_with fail
  generalize (((wa11.setCell ⟨w.heap.size + 1, 0, none⟩ (.bool false)).setCell ⟨w.heap.size + 1, 1, none⟩ (.string ⟨#[]⟩)).setCell ⟨w.heap.size + 1, 2, none⟩ (.string ⟨#[]⟩)) = wz at oz sz9 ⊢; obtain ⟨z0, z1, z2⟩ := oz.cells3; exact bodyPost_ret (v := .tuple #[.agg #[.bool false, .string ⟨#[]⟩, .string ⟨#[]⟩], .int .i64 25]) (by simp [results, Tryz.results15, go_sem, z0, z1, z2]) rfl ⟨rfl, sz9⟩
theorem ms_cmp {a p q n : Nat} (nx : Bool) (sx tx : ByteArray) (ny : Bool) (sy ty : ByteArray) (nu : Bool) (su tu : ByteArray) (z : Int) (hv : VC a p q n) (h1 : ∀ e, QRes (prodN [a]) (prodN [p]) e → e = .returned (.tuple #[.agg #[.bool nx, .string sx, .string tx], .int .i64 0])) (h2 : ∀ e, QRes (prodN [a]) (prodN [q]) e → e = .returned (.tuple #[.agg #[.bool ny, .string sy, .string ty], .int .i64 0])) (hc : RetV 30 #[.agg #[.bool ny, .string sy, .string ty], .agg #[.bool nx, .string sx, .string tx]] (.int .i64 z)) (hz : (z < 0 → ny = nu ∧ sy = su ∧ ty = tu) ∧ (0 ≤ z → nx = nu ∧ sx = su ∧ tx = tu)) (w : World) (ht : Tab w) :
    Calls Tryz.prog 14 #[.agg #[.int .i64 (a : Int), .int .i64 (p : Int), .int .i64 (q : Int), .int .i64 (n : Int)]] w fun e w' => e = .returned (.tuple #[.agg #[.bool nu, .string su, .string tu], .int .i64 0]) ∧ Below w.heap.size w w' := by
  have HV := Lib.hid hv; have H1 := Lib.hid h1; have H2 := Lib.hid h2; clear h2; have HC := Lib.hid hc; have HZ := Lib.hid hz; clear hc hz; have T0 := Lib.hid ht; clear ht; clear hv h1; obtain ⟨o_c, o_r, hbw⟩ := new2 w [.int .i64 (a : Int), .int .i64 (p : Int), .int .i64 (q : Int), .int .i64 (n : Int)] [.bool false, .string ⟨#[]⟩, .string ⟨#[]⟩] 23 27
  go_enter Tryz.func14, Tryz.ntmps14
  go_upto_region 1 with (fail)
  generalize ((w.alloc (.cells #[.int .i64 (a : Int), .int .i64 (p : Int), .int .i64 (q : Int), .int .i64 (n : Int)] 23)).alloc (.cells #[.bool false, .string ⟨#[]⟩, .string ⟨#[]⟩] 27)) = wb at o_c o_r hbw ⊢; have Ea : Hid ([(a : Int)] = [a].map fun (x : Nat) => (x : Int)) := by
    have := HV.out.all; exact Lib.hid (by simp <;> omega)
  have Ma : Hid (Smalls [a]) := by
    have := HV.out.all; exact Lib.hid ⟨by simp, by simp <;> omega⟩
  have Ep : Hid ([(p : Int)] = [p].map fun (x : Nat) => (x : Int)) := by
    have := HV.out.all; exact Lib.hid (by simp <;> omega)
  have Mp : Hid (Smalls [p]) := by
    have := HV.out.all; exact Lib.hid ⟨by simp, by simp <;> omega⟩
  have Eq : Hid ([(q : Int)] = [q].map fun (x : Nat) => (x : Int)) := by
    have := HV.out.all; exact Lib.hid (by simp <;> omega)
  have Mq : Hid (Smalls [q]) := by
    have := HV.out.all; exact Lib.hid ⟨by simp, by simp <;> omega⟩
  obtain ⟨qc_0, qc_1, qc_2, qc_3⟩ := o_c.cells4; obtain ⟨qm0_0, qm0_1, qm0_2, qm0_3⟩ := (o_c.alloc (.cells #[.int .i64 ((a : Int))] 3)).cells4; obtain ⟨o_s0, o_s1, hz1⟩ := new2 wb [.int .i64 ((a : Int))] [.int .i64 ((p : Int))] 3 3; replace o_c := o_c.alloc (.cells #[.int .i64 ((a : Int))] 3); replace o_c := o_c.alloc (.cells #[.int .i64 ((p : Int))] 3); replace o_r := o_r.alloc (.cells #[.int .i64 ((a : Int))] 3); replace o_r := o_r.alloc (.cells #[.int .i64 ((p : Int))] 3); replace hbw := below6 hbw hz1; clear hz1
  go_wp2_with fail
  generalize ((wb.alloc (.cells #[.int .i64 ((a : Int))] 3)).alloc (.cells #[.int .i64 ((p : Int))] 3)) = wa2 at o_c o_r o_s0 o_s1 hbw ⊢; generalize wb.heap.size = g2 at o_s0 o_s1 ⊢; clear qc_0 qm0_0 qc_1 qm0_1 qc_2 qm0_2 qc_3 qm0_3; refine (quot_any HV.out (some ⟨g2, 0, none⟩) [(a : Int)] [a] 1 (some ⟨g2 + 1, 0, none⟩) [(p : Int)] [p] 1 _ o_s0.rd0 Ea.out (by simp) (by decide) Ma.out o_s1.rd0 Ep.out (by simp) (by decide) Mp.out (T0.out.below hbw)).mono ?_; rintro e w3 ⟨hq, hb9⟩; have he := H1.out _ hq; subst he; replace o_c := o_c.below hb9 o_c.lt; replace o_r := o_r.below hb9 o_r.lt; replace hbw := below6 hbw hb9; clear hb9 hq o_s0 o_s1; have lt_c := o_c.lt; have lt_r := o_r.lt; have hs_x := hbw.size; obtain ⟨o_x, hz4⟩ := new1 w3 [.bool nx, .string sx, .string tx] 27; replace o_c := o_c.alloc (.cells #[.bool nx, .string sx, .string tx] 27); replace o_r := o_r.alloc (.cells #[.bool nx, .string sx, .string tx] 27)
  replace hbw := below6 hbw hz4; clear hz4
  go_upto_region 4 with (fail)
  generalize (w3.alloc (.cells #[.bool nx, .string sx, .string tx] 27)) = wa5 at o_c o_r o_x hbw ⊢; generalize w3.heap.size = g5 at o_x hs_x lt_c lt_r ⊢; obtain ⟨qc_0, qc_1, qc_2, qc_3⟩ := o_c.cells4; obtain ⟨qm0_0, qm0_1, qm0_2, qm0_3⟩ := (o_c.alloc (.cells #[.int .i64 ((a : Int))] 3)).cells4; have hs_s0 := hbw.size; obtain ⟨o_s0, o_s1, hz6⟩ := new2 wa5 [.int .i64 ((a : Int))] [.int .i64 ((q : Int))] 3 3; replace o_c := o_c.alloc (.cells #[.int .i64 ((a : Int))] 3); replace o_c := o_c.alloc (.cells #[.int .i64 ((q : Int))] 3); replace o_r := o_r.alloc (.cells #[.int .i64 ((a : Int))] 3); replace o_r := o_r.alloc (.cells #[.int .i64 ((q : Int))] 3); replace o_x := o_x.alloc (.cells #[.int .i64 ((a : Int))] 3); replace o_x := o_x.alloc (.cells #[.int .i64 ((q : Int))] 3); replace hbw := below6 hbw hz6; clear hz6
  go_wp2_with fail
  generalize ((wa5.alloc (.cells #[.int .i64 ((a : Int))] 3)).alloc (.cells #[.int .i64 ((q : Int))] 3)) = wa7 at o_c o_r o_x o_s0 o_s1 hbw ⊢; generalize wa5.heap.size = g7 at o_s0 o_s1 hs_s0 ⊢; clear qc_0 qm0_0 qc_1 qm0_1 qc_2 qm0_2 qc_3 qm0_3; refine (quot_any HV.out (some ⟨g7, 0, none⟩) [(a : Int)] [a] 1 (some ⟨g7 + 1, 0, none⟩) [(q : Int)] [q] 1 _ o_s0.rd0 Ea.out (by simp) (by decide) Ma.out o_s1.rd0 Eq.out (by simp) (by decide) Mq.out (T0.out.below hbw)).mono ?_; rintro e w8 ⟨hq, hb9⟩; have he := H2.out _ hq; subst he; replace o_c := o_c.below hb9 o_c.lt; replace o_r := o_r.below hb9 o_r.lt; replace o_x := o_x.below hb9 o_x.lt; replace hbw := below6 hbw hb9; clear hb9 hq o_s0 o_s1; have hs_y := hbw.size; obtain ⟨o_y, hz9⟩ := new1 w8 [.bool ny, .string sy, .string ty] 27; replace o_c := o_c.alloc (.cells #[.bool ny, .string sy, .string ty] 27); replace o_r := o_r.alloc (.cells #[.bool ny, .string sy, .string ty] 27)
  replace o_x := o_x.alloc (.cells #[.bool ny, .string sy, .string ty] 27); replace hbw := below6 hbw hz9; clear hz9
  go_upto_region 7 with (fail)
  generalize (w8.alloc (.cells #[.bool ny, .string sy, .string ty] 27)) = wa10 at o_c o_r o_x o_y hbw ⊢; generalize w8.heap.size = g10 at o_y hs_y ⊢; obtain ⟨qy_0, qy_1, qy_2⟩ := o_y.cells3; obtain ⟨qx_0, qx_1, qx_2⟩ := o_x.cells3
  go_wp2_with fail
  clear qy_0 qy_1 qy_2 qx_0 qx_1 qx_2; refine (HC.out _).mono ?_; rintro e w11 ⟨rfl, hb11⟩; replace o_c := o_c.below hb11 o_c.lt; replace o_r := o_r.below hb11 o_r.lt; replace o_x := o_x.below hb11 o_x.lt; replace o_y := o_y.below hb11 o_y.lt; replace hbw := below6 hbw hb11; clear hb11
  rcases Decidable.em (z < 0) with hlt | hge
  · obtain ⟨rfl, rfl, rfl⟩ := HZ.out.1 hlt; have d1 : decide (z < 0) = true := decide_eq_true hlt; obtain ⟨qy_0, qy_1, qy_2⟩ := o_y.cells3; obtain ⟨qx_0, qx_1, qx_2⟩ := o_x.cells3; obtain ⟨fx_0, fx_1, fx_2⟩ := o_x.frozens3; have ox := o_x.set3 (.bool ny) (.string sy) (.string ty); have sx9 := Below.set3 hbw (g := g5) (by omega) (.bool ny) (.string sy) (.string ty); have nr : w.heap.size + 1 ≠ g5 := by omega
    have or9 := o_r.far3 nr (.bool ny) (.string sy) (.string ty)
    go_upto_region 9 with (fail)
    generalize (((w11.setCell ⟨g5, 0, none⟩ (.bool ny)).setCell ⟨g5, 1, none⟩ (.string sy)).setCell ⟨g5, 2, none⟩ (.string ty)) = wv at ox sx9 or9 ⊢; clear o_x o_y o_c o_r hbw qy_0 qx_0 fx_0 qy_1 qx_1 fx_1 qy_2 qx_2 fx_2; have o_x := ox; have o_r := or9; have hbw := sx9; clear ox or9 sx9; obtain ⟨qx_0, qx_1, qx_2⟩ := o_x.cells3; obtain ⟨qr_0, qr_1, qr_2⟩ := o_r.cells3; obtain ⟨fr_0, fr_1, fr_2⟩ := o_r.frozens3; have oz := o_r.set3 (.bool ny) (.string sy) (.string ty); have sz9 := Below.set3 hbw (g := w.heap.size + 1) (by omega) (.bool ny) (.string sy) (.string ty)
    go_wp2_with fail
    generalize (((wv.setCell ⟨w.heap.size + 1, 0, none⟩ (.bool ny)).setCell ⟨w.heap.size + 1, 1, none⟩ (.string sy)).setCell ⟨w.heap.size + 1, 2, none⟩ (.string ty)) = wz at oz sz9 ⊢; obtain ⟨z0, z1, z2⟩ := oz.cells3; exact bodyPost_ret (v := .tuple #[.agg #[.bool ny, .string sy, .string ty], .int .i64 0]) (by simp [results, Tryz.results14, go_sem, z0, z1, z2]) rfl ⟨rfl, sz9⟩
  · obtain ⟨rfl, rfl, rfl⟩ := HZ.out.2 (by omega); have d1 : decide (z < 0) = false := decide_eq_false hge; obtain ⟨qx_0, qx_1, qx_2⟩ := o_x.cells3; obtain ⟨qr_0, qr_1, qr_2⟩ := o_r.cells3; obtain ⟨fr_0, fr_1, fr_2⟩ := o_r.frozens3; have oz := o_r.set3 (.bool nx) (.string sx) (.string tx); have sz9 := Below.set3 hbw (g := w.heap.size + 1) (by omega) (.bool nx) (.string sx) (.string tx)
    go_wp2_with fail
    generalize (((w11.setCell ⟨w.heap.size + 1, 0, none⟩ (.bool nx)).setCell ⟨w.heap.size + 1, 1, none⟩ (.string sx)).setCell ⟨w.heap.size + 1, 2, none⟩ (.string tx)) = wz at oz sz9 ⊢; obtain ⟨z0, z1, z2⟩ := oz.cells3; exact bodyPost_ret (v := .tuple #[.agg #[.bool nx, .string sx, .string tx], .int .i64 0]) (by simp [results, Tryz.results14, go_sem, z0, z1, z2]) rfl ⟨rfl, sz9⟩
theorem msr_cmp {a p q n : Nat} (nx : Bool) (sx tx : ByteArray) (ny : Bool) (sy ty : ByteArray) (nu : Bool) (su tu : ByteArray) (z : Int) (hv : VC a p q n) (h1 : ∀ e, QRes (prodN [a]) (prodN [p]) e → e = .returned (.tuple #[.agg #[.bool nx, .string sx, .string tx], .int .i64 0])) (h2 : ∀ e, QRes (prodN [a]) (prodN [q]) e → e = .returned (.tuple #[.agg #[.bool ny, .string sy, .string ty], .int .i64 0])) (hc : RetV 31 #[.agg #[.bool ny, .string sy, .string ty], .agg #[.bool nx, .string sx, .string tx]] (.int .i64 z)) (hz : (z < 0 → ny = nu ∧ sy = su ∧ ty = tu) ∧ (0 ≤ z → nx = nu ∧ sx = su ∧ tx = tu)) (w : World) :
    Calls Tryz.prog 15 #[.agg #[.int .i64 (a : Int), .int .i64 (p : Int), .int .i64 (q : Int), .int .i64 (n : Int)]] w fun e w' => e = .returned (.tuple #[.agg #[.bool nu, .string su, .string tu], .int .i64 0]) ∧ Below w.heap.size w w' := by
  have HV := Lib.hid hv; have H1 := Lib.hid h1; have H2 := Lib.hid h2; clear h2; have HC := Lib.hid hc; have HZ := Lib.hid hz; clear hc hz; clear hv h1; obtain ⟨o_c, o_r, hbw⟩ := new2 w [.int .i64 (a : Int), .int .i64 (p : Int), .int .i64 (q : Int), .int .i64 (n : Int)] [.bool false, .string ⟨#[]⟩, .string ⟨#[]⟩] 23 27
  go_enter Tryz.func15, Tryz.ntmps15
  go_upto_region 1 with (fail)
  generalize ((w.alloc (.cells #[.int .i64 (a : Int), .int .i64 (p : Int), .int .i64 (q : Int), .int .i64 (n : Int)] 23)).alloc (.cells #[.bool false, .string ⟨#[]⟩, .string ⟨#[]⟩] 27)) = wb at o_c o_r hbw ⊢; have Ea : Hid ([(a : Int)] = [a].map fun (x : Nat) => (x : Int)) := by
    have := HV.out.all; exact Lib.hid (by simp <;> omega)
  have Ma : Hid (Smalls [a]) := by
    have := HV.out.all; exact Lib.hid ⟨by simp, by simp <;> omega⟩
  have Ep : Hid ([(p : Int)] = [p].map fun (x : Nat) => (x : Int)) := by
    have := HV.out.all; exact Lib.hid (by simp <;> omega)
  have Mp : Hid (Smalls [p]) := by
    have := HV.out.all; exact Lib.hid ⟨by simp, by simp <;> omega⟩
  have Eq : Hid ([(q : Int)] = [q].map fun (x : Nat) => (x : Int)) := by
    have := HV.out.all; exact Lib.hid (by simp <;> omega)
  have Mq : Hid (Smalls [q]) := by
    have := HV.out.all; exact Lib.hid ⟨by simp, by simp <;> omega⟩
  obtain ⟨qc_0, qc_1, qc_2, qc_3⟩ := o_c.cells4
  go_wp2_with fail
  clear qc_0 qc_1 qc_2 qc_3; refine (rmv_yes HV.out _).mono ?_; rintro e w1 ⟨rfl, hb1⟩; replace o_c := o_c.below hb1 o_c.lt; replace o_r := o_r.below hb1 o_r.lt; replace hbw := below6 hbw hb1; clear hb1; obtain ⟨qc_0, qc_1, qc_2, qc_3⟩ := o_c.cells4
  go_upto_region 3 with (fail)
  obtain ⟨qc_0, qc_1, qc_2, qc_3⟩ := o_c.cells4; obtain ⟨qm0_0, qm0_1, qm0_2, qm0_3⟩ := (o_c.alloc (.cells #[.int .i64 ((a : Int))] 3)).cells4; obtain ⟨o_s0, o_s1, hz2⟩ := new2 w1 [.int .i64 ((a : Int))] [.int .i64 ((p : Int))] 3 3; replace o_c := o_c.alloc (.cells #[.int .i64 ((a : Int))] 3); replace o_c := o_c.alloc (.cells #[.int .i64 ((p : Int))] 3); replace o_r := o_r.alloc (.cells #[.int .i64 ((a : Int))] 3); replace o_r := o_r.alloc (.cells #[.int .i64 ((p : Int))] 3); replace hbw := below6 hbw hz2; clear hz2
  go_wp2_with fail
  generalize ((w1.alloc (.cells #[.int .i64 ((a : Int))] 3)).alloc (.cells #[.int .i64 ((p : Int))] 3)) = wa3 at o_c o_r o_s0 o_s1 hbw ⊢; generalize w1.heap.size = g3 at o_s0 o_s1 ⊢; clear qc_0 qm0_0 qc_1 qm0_1 qc_2 qm0_2 qc_3 qm0_3; refine (of38_ref (some ⟨g3, 0, none⟩) [(a : Int)] [a] 1 (some ⟨g3 + 1, 0, none⟩) [(p : Int)] [p] 1 _ o_s0.rd0 Ea.out (by simp) (by decide) Ma.out o_s1.rd0 Ep.out (by simp) (by decide) Mp.out).mono ?_; rintro e w4 ⟨hq, hb9⟩; have he := H1.out _ hq; subst he; replace o_c := o_c.below hb9 o_c.lt; replace o_r := o_r.below hb9 o_r.lt; replace hbw := below6 hbw hb9; clear hb9 hq o_s0 o_s1; have lt_c := o_c.lt; have lt_r := o_r.lt; have hs_x := hbw.size; obtain ⟨o_x, hz5⟩ := new1 w4 [.bool nx, .string sx, .string tx] 27; replace o_c := o_c.alloc (.cells #[.bool nx, .string sx, .string tx] 27); replace o_r := o_r.alloc (.cells #[.bool nx, .string sx, .string tx] 27)
  replace hbw := below6 hbw hz5; clear hz5
  go_upto_region 4 with (fail)
  generalize (w4.alloc (.cells #[.bool nx, .string sx, .string tx] 27)) = wa6 at o_c o_r o_x hbw ⊢; generalize w4.heap.size = g6 at o_x hs_x lt_c lt_r ⊢; obtain ⟨qc_0, qc_1, qc_2, qc_3⟩ := o_c.cells4; obtain ⟨qm0_0, qm0_1, qm0_2, qm0_3⟩ := (o_c.alloc (.cells #[.int .i64 ((a : Int))] 3)).cells4; have hs_s0 := hbw.size; obtain ⟨o_s0, o_s1, hz7⟩ := new2 wa6 [.int .i64 ((a : Int))] [.int .i64 ((q : Int))] 3 3; replace o_c := o_c.alloc (.cells #[.int .i64 ((a : Int))] 3); replace o_c := o_c.alloc (.cells #[.int .i64 ((q : Int))] 3); replace o_r := o_r.alloc (.cells #[.int .i64 ((a : Int))] 3); replace o_r := o_r.alloc (.cells #[.int .i64 ((q : Int))] 3); replace o_x := o_x.alloc (.cells #[.int .i64 ((a : Int))] 3); replace o_x := o_x.alloc (.cells #[.int .i64 ((q : Int))] 3); replace hbw := below6 hbw hz7; clear hz7
  go_wp2_with fail
  generalize ((wa6.alloc (.cells #[.int .i64 ((a : Int))] 3)).alloc (.cells #[.int .i64 ((q : Int))] 3)) = wa8 at o_c o_r o_x o_s0 o_s1 hbw ⊢; generalize wa6.heap.size = g8 at o_s0 o_s1 hs_s0 ⊢; clear qc_0 qm0_0 qc_1 qm0_1 qc_2 qm0_2 qc_3 qm0_3; refine (of38_ref (some ⟨g8, 0, none⟩) [(a : Int)] [a] 1 (some ⟨g8 + 1, 0, none⟩) [(q : Int)] [q] 1 _ o_s0.rd0 Ea.out (by simp) (by decide) Ma.out o_s1.rd0 Eq.out (by simp) (by decide) Mq.out).mono ?_; rintro e w9 ⟨hq, hb9⟩; have he := H2.out _ hq; subst he; replace o_c := o_c.below hb9 o_c.lt; replace o_r := o_r.below hb9 o_r.lt; replace o_x := o_x.below hb9 o_x.lt; replace hbw := below6 hbw hb9; clear hb9 hq o_s0 o_s1; have hs_y := hbw.size; obtain ⟨o_y, hz10⟩ := new1 w9 [.bool ny, .string sy, .string ty] 27; replace o_c := o_c.alloc (.cells #[.bool ny, .string sy, .string ty] 27); replace o_r := o_r.alloc (.cells #[.bool ny, .string sy, .string ty] 27)
  replace o_x := o_x.alloc (.cells #[.bool ny, .string sy, .string ty] 27); replace hbw := below6 hbw hz10; clear hz10
  go_upto_region 7 with (fail)
  generalize (w9.alloc (.cells #[.bool ny, .string sy, .string ty] 27)) = wa11 at o_c o_r o_x o_y hbw ⊢; generalize w9.heap.size = g11 at o_y hs_y ⊢; obtain ⟨qy_0, qy_1, qy_2⟩ := o_y.cells3; obtain ⟨qx_0, qx_1, qx_2⟩ := o_x.cells3
  go_wp2_with fail
  clear qy_0 qy_1 qy_2 qx_0 qx_1 qx_2; refine (HC.out _).mono ?_; rintro e w12 ⟨rfl, hb12⟩; replace o_c := o_c.below hb12 o_c.lt; replace o_r := o_r.below hb12 o_r.lt; replace o_x := o_x.below hb12 o_x.lt; replace o_y := o_y.below hb12 o_y.lt; replace hbw := below6 hbw hb12; clear hb12
  rcases Decidable.em (z < 0) with hlt | hge
  · obtain ⟨rfl, rfl, rfl⟩ := HZ.out.1 hlt; have d1 : decide (z < 0) = true := decide_eq_true hlt; obtain ⟨qy_0, qy_1, qy_2⟩ := o_y.cells3; obtain ⟨qx_0, qx_1, qx_2⟩ := o_x.cells3; obtain ⟨fx_0, fx_1, fx_2⟩ := o_x.frozens3; have ox := o_x.set3 (.bool ny) (.string sy) (.string ty); have sx9 := Below.set3 hbw (g := g6) (by omega) (.bool ny) (.string sy) (.string ty); have nr : w.heap.size + 1 ≠ g6 := by omega
    have or9 := o_r.far3 nr (.bool ny) (.string sy) (.string ty)
    go_upto_region 9 with (fail)
    generalize (((w12.setCell ⟨g6, 0, none⟩ (.bool ny)).setCell ⟨g6, 1, none⟩ (.string sy)).setCell ⟨g6, 2, none⟩ (.string ty)) = wv at ox sx9 or9 ⊢; clear o_x o_y o_c o_r hbw qy_0 qx_0 fx_0 qy_1 qx_1 fx_1 qy_2 qx_2 fx_2; have o_x := ox; have o_r := or9; have hbw := sx9; clear ox or9 sx9; obtain ⟨qx_0, qx_1, qx_2⟩ := o_x.cells3; obtain ⟨qr_0, qr_1, qr_2⟩ := o_r.cells3; obtain ⟨fr_0, fr_1, fr_2⟩ := o_r.frozens3; have oz := o_r.set3 (.bool ny) (.string sy) (.string ty); have sz9 := Below.set3 hbw (g := w.heap.size + 1) (by omega) (.bool ny) (.string sy) (.string ty)
    go_wp2_with fail
    generalize (((wv.setCell ⟨w.heap.size + 1, 0, none⟩ (.bool ny)).setCell ⟨w.heap.size + 1, 1, none⟩ (.string sy)).setCell ⟨w.heap.size + 1, 2, none⟩ (.string ty)) = wz at oz sz9 ⊢; obtain ⟨z0, z1, z2⟩ := oz.cells3; exact bodyPost_ret (v := .tuple #[.agg #[.bool ny, .string sy, .string ty], .int .i64 0]) (by simp [results, Tryz.results15, go_sem, z0, z1, z2]) rfl ⟨rfl, sz9⟩
  · obtain ⟨rfl, rfl, rfl⟩ := HZ.out.2 (by omega); have d1 : decide (z < 0) = false := decide_eq_false hge; obtain ⟨qx_0, qx_1, qx_2⟩ := o_x.cells3; obtain ⟨qr_0, qr_1, qr_2⟩ := o_r.cells3; obtain ⟨fr_0, fr_1, fr_2⟩ := o_r.frozens3; have oz := o_r.set3 (.bool nx) (.string sx) (.string tx); have sz9 := Below.set3 hbw (g := w.heap.size + 1) (by omega) (.bool nx) (.string sx) (.string tx)
    go_wp2_with fail
    generalize (((w12.setCell ⟨w.heap.size + 1, 0, none⟩ (.bool nx)).setCell ⟨w.heap.size + 1, 1, none⟩ (.string sx)).setCell ⟨w.heap.size + 1, 2, none⟩ (.string tx)) = wz at oz sz9 ⊢; obtain ⟨z0, z1, z2⟩ := oz.cells3; exact bodyPost_ret (v := .tuple #[.agg #[.bool nx, .string sx, .string tx], .int .i64 0]) (by simp [results, Tryz.results15, go_sem, z0, z1, z2]) rfl ⟨rfl, sz9⟩
theorem tsq_yes {a p q n : Nat} (hv : VC a p q n) (w : World) (ht : Tab w) :
    Calls Tryz.prog 18 #[.agg #[.int .i64 (a : Int), .int .i64 (p : Int), .int .i64 (q : Int), .int .i64 (n : Int)]] w fun e w' => QRes (prodN [((n : Int) * (a : Int) - (p : Int) * (q : Int)).natAbs, ((n : Int) * (a : Int) - (p : Int) * (q : Int)).natAbs]) (prodN [a, n, n]) e ∧ Below w.heap.size w w' := by
  have HV := Lib.hid hv; have T0 := Lib.hid ht; obtain ⟨nz, sz, tz, kz, hend, hres⟩ := qres_one (prodN [((n : Int) * (a : Int) - (p : Int) * (q : Int)).natAbs, ((n : Int) * (a : Int) - (p : Int) * (q : Int)).natAbs]) (prodN [a, n, n]); have HEND := Lib.hid hend; have HRES := Lib.hid hres; clear ht hend hres; obtain ⟨o_c, o_r, hbw⟩ := new2 w [.int .i64 (a : Int), .int .i64 (p : Int), .int .i64 (q : Int), .int .i64 (n : Int)] [.bool false, .string ⟨#[]⟩, .string ⟨#[]⟩] 23 27
  go_enter Tryz.func18, Tryz.ntmps18
  go_upto_region 1 with (fail)
  generalize ((w.alloc (.cells #[.int .i64 (a : Int), .int .i64 (p : Int), .int .i64 (q : Int), .int .i64 (n : Int)] 23)).alloc (.cells #[.bool false, .string ⟨#[]⟩, .string ⟨#[]⟩] 27)) = wb at o_c o_r hbw ⊢; have b1 := mul_two62 (x := (a : Int)) (y := (n : Int)) (by omega) (by have := hv.all; omega) (by omega) (by have := hv.all; omega); have b2 := mul_two62 (x := (p : Int)) (y := (q : Int)) (by omega) (by have := hv.all; omega) (by omega) (by have := hv.all; omega); have b3 := Int.mul_comm (n : Int) (a : Int); have y2 : IntKind.i64.wrap ((a : Int) * (n : Int)) = (a : Int) * (n : Int) := IntWalk.i64_in _ (by omega); have y3 : IntKind.i64.wrap ((p : Int) * (q : Int)) = (p : Int) * (q : Int) := IntWalk.i64_in _ (by omega); have y4 : IntKind.i64.wrap (((a : Int) * (n : Int) - (p : Int) * (q : Int))) = ((n : Int) * (a : Int) - (p : Int) * (q : Int)) := by rw [IntWalk.i64_in _ (by omega)]; omega
  have HX : Hid (((n : Int) * (a : Int) - (p : Int) * (q : Int)).natAbs ≤ 4611686018427387904) := Lib.hid (by omega); have y5 : IntKind.i64.wrap (-((n : Int) * (a : Int) - (p : Int) * (q : Int))) = -((n : Int) * (a : Int) - (p : Int) * (q : Int)) := IntWalk.i64_in _ (by omega); clear b1 b2 b3 hv; obtain ⟨qc_0, qc_1, qc_2, qc_3⟩ := o_c.cells4
  go_wp2_with fail
  clear qc_0 qc_1 qc_2 qc_3; refine (mvalid_yes HV.out _).mono ?_; rintro e w1 ⟨rfl, hb1⟩; replace o_c := o_c.below hb1 o_c.lt; replace o_r := o_r.below hb1 o_r.lt; replace hbw := below6 hbw hb1; clear hb1; obtain ⟨qc_0, qc_1, qc_2, qc_3⟩ := o_c.cells4
  go_upto_region 5 with (fail)
  have E1 : Hid ([max ((n : Int) * (a : Int) - (p : Int) * (q : Int)) (-((n : Int) * (a : Int) - (p : Int) * (q : Int))), max ((n : Int) * (a : Int) - (p : Int) * (q : Int)) (-((n : Int) * (a : Int) - (p : Int) * (q : Int)))] = [((n : Int) * (a : Int) - (p : Int) * (q : Int)).natAbs, ((n : Int) * (a : Int) - (p : Int) * (q : Int)).natAbs].map fun (x : Nat) => (x : Int)) := by
    have := HV.out.all; exact Lib.hid (by simp <;> omega)
  have M1 : Hid (Smalls [((n : Int) * (a : Int) - (p : Int) * (q : Int)).natAbs, ((n : Int) * (a : Int) - (p : Int) * (q : Int)).natAbs]) := by
    have := HV.out.all; have := HX.out
    exact Lib.hid ⟨by simp, by simp <;> omega⟩
  have E2 : Hid ([(a : Int), (n : Int), (n : Int)] = [a, n, n].map fun (x : Nat) => (x : Int)) := by
    have := HV.out.all; exact Lib.hid (by simp <;> omega)
  have M2 : Hid (Smalls [a, n, n]) := by
    have := HV.out.all; have := HX.out
    exact Lib.hid ⟨by simp, by simp <;> omega⟩
  obtain ⟨qc_0, qc_1, qc_2, qc_3⟩ := o_c.cells4; obtain ⟨qm0_0, qm0_1, qm0_2, qm0_3⟩ := (o_c.alloc (.cells #[.int .i64 (max ((n : Int) * (a : Int) - (p : Int) * (q : Int)) (-((n : Int) * (a : Int) - (p : Int) * (q : Int)))), .int .i64 (max ((n : Int) * (a : Int) - (p : Int) * (q : Int)) (-((n : Int) * (a : Int) - (p : Int) * (q : Int))))] 3)).cells4; obtain ⟨o_s0, o_s1, hz2⟩ := new2 w1 [.int .i64 (max ((n : Int) * (a : Int) - (p : Int) * (q : Int)) (-((n : Int) * (a : Int) - (p : Int) * (q : Int)))), .int .i64 (max ((n : Int) * (a : Int) - (p : Int) * (q : Int)) (-((n : Int) * (a : Int) - (p : Int) * (q : Int))))] [.int .i64 ((a : Int)), .int .i64 ((n : Int)), .int .i64 ((n : Int))] 3 3; replace o_c := o_c.alloc (.cells #[.int .i64 (max ((n : Int) * (a : Int) - (p : Int) * (q : Int)) (-((n : Int) * (a : Int) - (p : Int) * (q : Int)))), .int .i64 (max ((n : Int) * (a : Int) - (p : Int) * (q : Int)) (-((n : Int) * (a : Int) - (p : Int) * (q : Int))))] 3)
  replace o_c := o_c.alloc (.cells #[.int .i64 ((a : Int)), .int .i64 ((n : Int)), .int .i64 ((n : Int))] 3); replace o_r := o_r.alloc (.cells #[.int .i64 (max ((n : Int) * (a : Int) - (p : Int) * (q : Int)) (-((n : Int) * (a : Int) - (p : Int) * (q : Int)))), .int .i64 (max ((n : Int) * (a : Int) - (p : Int) * (q : Int)) (-((n : Int) * (a : Int) - (p : Int) * (q : Int))))] 3); replace o_r := o_r.alloc (.cells #[.int .i64 ((a : Int)), .int .i64 ((n : Int)), .int .i64 ((n : Int))] 3); replace hbw := below6 hbw hz2; clear hz2
  go_wp2_with fail
  generalize ((w1.alloc (.cells #[.int .i64 (max ((n : Int) * (a : Int) - (p : Int) * (q : Int)) (-((n : Int) * (a : Int) - (p : Int) * (q : Int)))), .int .i64 (max ((n : Int) * (a : Int) - (p : Int) * (q : Int)) (-((n : Int) * (a : Int) - (p : Int) * (q : Int))))] 3)).alloc (.cells #[.int .i64 ((a : Int)), .int .i64 ((n : Int)), .int .i64 ((n : Int))] 3)) = wa3 at o_c o_r o_s0 o_s1 hbw ⊢; generalize w1.heap.size = g3 at o_s0 o_s1 ⊢; refine (quot_any HV.out (some ⟨g3, 0, none⟩) [max ((n : Int) * (a : Int) - (p : Int) * (q : Int)) (-((n : Int) * (a : Int) - (p : Int) * (q : Int))), max ((n : Int) * (a : Int) - (p : Int) * (q : Int)) (-((n : Int) * (a : Int) - (p : Int) * (q : Int)))] [((n : Int) * (a : Int) - (p : Int) * (q : Int)).natAbs, ((n : Int) * (a : Int) - (p : Int) * (q : Int)).natAbs] 2 (some ⟨g3 + 1, 0, none⟩) [(a : Int), (n : Int), (n : Int)] [a, n, n] 3 _ o_s0.rd0 E1.out (by simp) (by decide) M1.out o_s1.rd0 E2.out (by simp) (by decide) M2.out (T0.out.below hbw)).mono ?_
  rintro e w9 ⟨hq, hb9⟩; have he := HEND.out _ hq; subst he; replace o_c := o_c.below hb9 o_c.lt; replace o_r := o_r.below hb9 o_r.lt; replace hbw := below6 hbw hb9; clear hb9 hq o_s0 o_s1; obtain ⟨qr_0, qr_1, qr_2⟩ := o_r.cells3; obtain ⟨fr_0, fr_1, fr_2⟩ := o_r.frozens3; have oz := o_r.set3 (.bool nz) (.string sz) (.string tz); have sz9 := Below.set3 hbw (g := w.heap.size + 1) (by omega) (.bool nz) (.string sz) (.string tz)
  go_wp2_with fail
  generalize (((w9.setCell ⟨w.heap.size + 1, 0, none⟩ (.bool nz)).setCell ⟨w.heap.size + 1, 1, none⟩ (.string sz)).setCell ⟨w.heap.size + 1, 2, none⟩ (.string tz)) = wz at oz sz9 ⊢; obtain ⟨z0, z1, z2⟩ := oz.cells3; exact bodyPost_ret (v := .tuple #[.agg #[.bool nz, .string sz, .string tz], .int .i64 kz]) (by simp [results, Tryz.results18, go_sem, z0, z1, z2]) rfl ⟨HRES.out, sz9⟩
theorem tsr_zero {p q n : Nat} (hv : VC 0 p q n) (w : World) :
    Calls Tryz.prog 19 #[.agg #[.int .i64 0, .int .i64 (p : Int), .int .i64 (q : Int), .int .i64 (n : Int)]] w fun e w' => e = .returned (.tuple #[.agg #[.bool false, .string ⟨#[]⟩, .string ⟨#[]⟩], .int .i64 25]) ∧ Below w.heap.size w w' := by
  have HV := Lib.hid hv; clear hv; obtain ⟨o_c, o_r, hbw⟩ := new2 w [.int .i64 0, .int .i64 (p : Int), .int .i64 (q : Int), .int .i64 (n : Int)] [.bool false, .string ⟨#[]⟩, .string ⟨#[]⟩] 23 27
  go_enter Tryz.func19, Tryz.ntmps19
  go_upto_region 1 with (fail)
  generalize ((w.alloc (.cells #[.int .i64 0, .int .i64 (p : Int), .int .i64 (q : Int), .int .i64 (n : Int)] 23)).alloc (.cells #[.bool false, .string ⟨#[]⟩, .string ⟨#[]⟩] 27)) = wb at o_c o_r hbw ⊢; obtain ⟨qc_0, qc_1, qc_2, qc_3⟩ := o_c.cells4
  go_wp2_with fail
  clear qc_0 qc_1 qc_2 qc_3; refine (rmv_yes HV.out _).mono ?_; rintro e w1 ⟨rfl, hb1⟩; replace o_c := o_c.below hb1 o_c.lt; replace o_r := o_r.below hb1 o_r.lt; replace hbw := below6 hbw hb1; clear hb1; obtain ⟨qc_0, qc_1, qc_2, qc_3⟩ := o_c.cells4
  go_upto_region 4 with (fail)
  obtain ⟨qr_0, qr_1, qr_2⟩ := o_r.cells3; obtain ⟨fr_0, fr_1, fr_2⟩ := o_r.frozens3; have oz := o_r.set3 (.bool false) (.string ⟨#[]⟩) (.string ⟨#[]⟩); have sz9 := Below.set3 hbw (g := w.heap.size + 1) (by omega) (.bool false) (.string ⟨#[]⟩) (.string ⟨#[]⟩)
  go_wp2_with fail
  generalize (((w1.setCell ⟨w.heap.size + 1, 0, none⟩ (.bool false)).setCell ⟨w.heap.size + 1, 1, none⟩ (.string ⟨#[]⟩)).setCell ⟨w.heap.size + 1, 2, none⟩ (.string ⟨#[]⟩)) = wz at oz sz9 ⊢; obtain ⟨z0, z1, z2⟩ := oz.cells3; exact bodyPost_ret (v := .tuple #[.agg #[.bool false, .string ⟨#[]⟩, .string ⟨#[]⟩], .int .i64 25]) (by simp [results, Tryz.results19, go_sem, z0, z1, z2]) rfl ⟨rfl, sz9⟩
theorem tsr_core {a p q n : Nat} (nx : Bool) (sx tx : ByteArray) (nh : Bool) (sh th : ByteArray) (nd : Bool) (sd td : ByteArray) (ne : Bool) (se te : ByteArray) (nu : Bool) (su tu : ByteArray) (hv : VC a p q n) (ha : 0 < a) (h1 : ∀ e, QRes (prodN [p, q]) (prodN [n]) e → e = .returned (.tuple #[.agg #[.bool nx, .string sx, .string tx], .int .i64 0]))
    (hm : RetV 39 #[.int .i64 (a : Int), .int .i64 1] (.tuple #[.agg #[.bool nh, .string sh, .string th], .int .i64 0])) (hs : RetV 40 #[.agg #[.bool nh, .string sh, .string th], .agg #[.bool nx, .string sx, .string tx]] (.tuple #[.agg #[.bool nd, .string sd, .string td], .int .i64 0])) (hu : RetV 41 #[.agg #[.bool nd, .string sd, .string td], .agg #[.bool nd, .string sd, .string td]] (.tuple #[.agg #[.bool ne, .string se, .string te], .int .i64 0])) (hq : RetV 42 #[.agg #[.bool ne, .string se, .string te], .agg #[.bool nh, .string sh, .string th]] (.tuple #[.agg #[.bool nu, .string su, .string tu], .int .i64 0])) (w : World) :
    Calls Tryz.prog 19 #[.agg #[.int .i64 (a : Int), .int .i64 (p : Int), .int .i64 (q : Int), .int .i64 (n : Int)]] w fun e w' => e = .returned (.tuple #[.agg #[.bool nu, .string su, .string tu], .int .i64 0]) ∧ Below w.heap.size w w' := by
  have HV := Lib.hid hv; have HA0 := Lib.hid ha; have H1 := Lib.hid h1; have HMK := Lib.hid hm; have HSU := Lib.hid hs; have HMU := Lib.hid hu; have HQU := Lib.hid hq; clear hv ha h1 hm hs hu hq; obtain ⟨o_c, o_r, hbw⟩ := new2 w [.int .i64 (a : Int), .int .i64 (p : Int), .int .i64 (q : Int), .int .i64 (n : Int)] [.bool false, .string ⟨#[]⟩, .string ⟨#[]⟩] 23 27
  go_enter Tryz.func19, Tryz.ntmps19
  go_upto_region 1 with (fail)
  generalize ((w.alloc (.cells #[.int .i64 (a : Int), .int .i64 (p : Int), .int .i64 (q : Int), .int .i64 (n : Int)] 23)).alloc (.cells #[.bool false, .string ⟨#[]⟩, .string ⟨#[]⟩] 27)) = wb at o_c o_r hbw ⊢; obtain ⟨qc_0, qc_1, qc_2, qc_3⟩ := o_c.cells4
  go_wp2_with fail
  clear qc_0 qc_1 qc_2 qc_3; refine (rmv_yes HV.out _).mono ?_; rintro e w1 ⟨rfl, hb1⟩; replace o_c := o_c.below hb1 o_c.lt; replace o_r := o_r.below hb1 o_r.lt; replace hbw := below6 hbw hb1; clear hb1; obtain ⟨qc_0, qc_1, qc_2, qc_3⟩ := o_c.cells4; have ha0 : decide ((a : Int) = 0) = false := decide_eq_false (by have := HA0.out; omega); have ha1 : decide (a = 0) = false := decide_eq_false (by have := HA0.out; omega); have ha2 : ((a : Int) == 0) = false := beq_eq_false_iff_ne.2 (by have := HA0.out; omega); have ha3 : (a == 0) = false := beq_eq_false_iff_ne.2 (by have := HA0.out; omega)
  go_wp2_with fail
  refine (expected_ref HV.out _).mono ?_; rintro e w9 ⟨hq, hb9⟩; have he := H1.out _ hq; subst he; replace o_c := o_c.below hb9 o_c.lt; replace o_r := o_r.below hb9 o_r.lt; replace hbw := below6 hbw hb9; clear hb9 hq qc_0 qc_1 qc_2 qc_3; obtain ⟨o_x, hz2⟩ := new1 w9 [.bool nx, .string sx, .string tx] 27; replace o_c := o_c.alloc (.cells #[.bool nx, .string sx, .string tx] 27); replace o_r := o_r.alloc (.cells #[.bool nx, .string sx, .string tx] 27); replace hbw := below6 hbw hz2; clear hz2
  go_upto_region 6 with (fail)
  generalize (w9.alloc (.cells #[.bool nx, .string sx, .string tx] 27)) = wa3 at o_c o_r o_x hbw ⊢; generalize w9.heap.size = g3 at o_x ⊢; obtain ⟨qc_0, qc_1, qc_2, qc_3⟩ := o_c.cells4
  go_wp2_with fail
  clear qc_0 qc_1 qc_2 qc_3; refine (HMK.out _).mono ?_; rintro e w4 ⟨rfl, hb4⟩; replace o_c := o_c.below hb4 o_c.lt; replace o_r := o_r.below hb4 o_r.lt; replace o_x := o_x.below hb4 o_x.lt; replace hbw := below6 hbw hb4; clear hb4; obtain ⟨o_o, hz5⟩ := new1 w4 [.bool nh, .string sh, .string th] 27; replace o_c := o_c.alloc (.cells #[.bool nh, .string sh, .string th] 27); replace o_r := o_r.alloc (.cells #[.bool nh, .string sh, .string th] 27); replace o_x := o_x.alloc (.cells #[.bool nh, .string sh, .string th] 27); replace hbw := below6 hbw hz5; clear hz5
  go_upto_region 7 with (fail)
  generalize (w4.alloc (.cells #[.bool nh, .string sh, .string th] 27)) = wa6 at o_c o_r o_x o_o hbw ⊢; generalize w4.heap.size = g6 at o_o ⊢; obtain ⟨qo_0, qo_1, qo_2⟩ := o_o.cells3; obtain ⟨qx_0, qx_1, qx_2⟩ := o_x.cells3
  go_wp2_with fail
  clear qo_0 qo_1 qo_2 qx_0 qx_1 qx_2; refine (HSU.out _).mono ?_; rintro e w7 ⟨rfl, hb7⟩; replace o_c := o_c.below hb7 o_c.lt; replace o_r := o_r.below hb7 o_r.lt; replace o_x := o_x.below hb7 o_x.lt; replace o_o := o_o.below hb7 o_o.lt; replace hbw := below6 hbw hb7; clear hb7; have lt_c := o_c.lt; have lt_r := o_r.lt; have lt_x := o_x.lt; have lt_o := o_o.lt; have hs_d := hbw.size; obtain ⟨o_d, hz8⟩ := new1 w7 [.bool nd, .string sd, .string td] 27; replace o_c := o_c.alloc (.cells #[.bool nd, .string sd, .string td] 27); replace o_r := o_r.alloc (.cells #[.bool nd, .string sd, .string td] 27); replace o_x := o_x.alloc (.cells #[.bool nd, .string sd, .string td] 27); replace o_o := o_o.alloc (.cells #[.bool nd, .string sd, .string td] 27); replace hbw := below6 hbw hz8; clear hz8
  go_upto_region 8 with (fail)
  generalize (w7.alloc (.cells #[.bool nd, .string sd, .string td] 27)) = wa9 at o_c o_r o_x o_o o_d hbw ⊢; generalize w7.heap.size = g9 at o_d hs_d lt_c lt_r lt_x lt_o ⊢; obtain ⟨qd_0, qd_1, qd_2⟩ := o_d.cells3
  go_wp2_with fail
  clear qd_0 qd_1 qd_2; refine (HMU.out _).mono ?_; rintro e w10 ⟨rfl, hb10⟩; replace o_c := o_c.below hb10 o_c.lt; replace o_r := o_r.below hb10 o_r.lt; replace o_x := o_x.below hb10 o_x.lt; replace o_o := o_o.below hb10 o_o.lt; replace o_d := o_d.below hb10 o_d.lt; replace hbw := below6 hbw hb10; clear hb10; obtain ⟨qd_0, qd_1, qd_2⟩ := o_d.cells3; obtain ⟨fd_0, fd_1, fd_2⟩ := o_d.frozens3; have ox := o_d.set3 (.bool ne) (.string se) (.string te); have sx9 := Below.set3 hbw (g := g9) (by omega) (.bool ne) (.string se) (.string te); have nr : w.heap.size + 1 ≠ g9 := by omega
  have or9 := o_r.far3 nr (.bool ne) (.string se) (.string te); have no : g6 ≠ g9 := by omega
  have oo9 := o_o.far3 no (.bool ne) (.string se) (.string te)
  go_upto_region 9 with (fail)
  generalize (((w10.setCell ⟨g9, 0, none⟩ (.bool ne)).setCell ⟨g9, 1, none⟩ (.string se)).setCell ⟨g9, 2, none⟩ (.string te)) = wv at ox sx9 or9 oo9 ⊢; clear o_x o_o o_c o_r o_d hbw qd_0 fd_0 qd_1 fd_1 qd_2 fd_2; have o_d := ox; have o_r := or9; have o_o := oo9; have hbw := sx9; clear ox or9 sx9 oo9; obtain ⟨qd_0, qd_1, qd_2⟩ := o_d.cells3; obtain ⟨qo_0, qo_1, qo_2⟩ := o_o.cells3
  go_wp2_with fail
  clear qd_0 qd_1 qd_2 qo_0 qo_1 qo_2; refine (HQU.out _).mono ?_; rintro e w11 ⟨rfl, hb11⟩; replace o_r := o_r.below hb11 o_r.lt; replace o_d := o_d.below hb11 o_d.lt; replace o_o := o_o.below hb11 o_o.lt; replace hbw := below6 hbw hb11; clear hb11; obtain ⟨qr_0, qr_1, qr_2⟩ := o_r.cells3; obtain ⟨fr_0, fr_1, fr_2⟩ := o_r.frozens3; have oz := o_r.set3 (.bool nu) (.string su) (.string tu); have sz9 := Below.set3 hbw (g := w.heap.size + 1) (by omega) (.bool nu) (.string su) (.string tu)
  go_wp2_with fail
  generalize (((w11.setCell ⟨w.heap.size + 1, 0, none⟩ (.bool nu)).setCell ⟨w.heap.size + 1, 1, none⟩ (.string su)).setCell ⟨w.heap.size + 1, 2, none⟩ (.string tu)) = wz at oz sz9 ⊢; obtain ⟨z0, z1, z2⟩ := oz.cells3; exact bodyPost_ret (v := .tuple #[.agg #[.bool nu, .string su, .string tu], .int .i64 0]) (by simp [results, Tryz.results19, go_sem, z0, z1, z2]) rfl ⟨rfl, sz9⟩
end Go.Proofs.YtocknfhgjmaibaaGreatDoor
