/- Parts of the proof: Rd8. No condition of its own. -/
import Derived.Test.YtffldjghdcfpiaaGreatDoorRc8
import Derived.Test.YtffldjghdcfpiaaGreatDoorLk
set_option linter.unusedSimpArgs false
set_option linter.unusedVariables false
set_option linter.unusedSectionVars false
set_option maxRecDepth 100000
set_option maxHeartbeats 4000000
namespace Go.Proofs.YtffldjghdcfpiaaGreatDoor
open Go.RowKit Dg

theorem ms_no1 {a p q n : Nat}  (hv : VC a p q n) (h1 : ∀ e, QRes (prodN [a]) (prodN [p]) e → e = .returned (.tuple #[.agg #[.bool false, .string ⟨#[]⟩, .string ⟨#[]⟩], .int .i64 25])) (w : World) (ht : Tab w) :
    Calls Tryz.prog 10 #[.agg #[.int .i64 (a : Int), .int .i64 (p : Int), .int .i64 (q : Int), .int .i64 (n : Int)]] w fun e w' => e = .returned (.tuple #[.agg #[.bool false, .string ⟨#[]⟩, .string ⟨#[]⟩], .int .i64 25]) ∧ Below w.heap.size w w' := by
  have HV := Lib.hid hv; have H1 := Lib.hid h1; have T0 := Lib.hid ht; clear ht; clear hv h1; obtain ⟨o_c, o_r, hbw⟩ := new2 w [.int .i64 (a : Int), .int .i64 (p : Int), .int .i64 (q : Int), .int .i64 (n : Int)] [.bool false, .string ⟨#[]⟩, .string ⟨#[]⟩] 23 26
  go_enter Tryz.func10, Tryz.ntmps10
  go_upto_region 1 with (fail)
  generalize ((w.alloc (.cells #[.int .i64 (a : Int), .int .i64 (p : Int), .int .i64 (q : Int), .int .i64 (n : Int)] 23)).alloc (.cells #[.bool false, .string ⟨#[]⟩, .string ⟨#[]⟩] 26)) = wb at o_c o_r hbw ⊢; have Ea : Hid ([(a : Int)] = [a].map fun (x : Nat) => (x : Int)) := by
    have := HV.out.all; exact Lib.hid (by simp <;> omega)
  have Ma : Hid (Smalls [a]) := by
    have := HV.out.all; exact Lib.hid ⟨by simp, by simp <;> omega⟩
  have Ep : Hid ([(p : Int)] = [p].map fun (x : Nat) => (x : Int)) := by
    have := HV.out.all; exact Lib.hid (by simp <;> omega)
  have Mp : Hid (Smalls [p]) := by
    have := HV.out.all; exact Lib.hid ⟨by simp, by simp <;> omega⟩
  have Eq : Hid ([(q : Int)] = [q].map fun (x : Nat) => (x : Int)) := by
    have := HV.out.all; exact Lib.hid (by simp <;> omega)
  have Mq : Hid (Smalls [q]) := by
    have := HV.out.all; exact Lib.hid ⟨by simp, by simp <;> omega⟩
  obtain ⟨qc_0, qc_1, qc_2, qc_3⟩ := o_c.cells4; obtain ⟨qm0_0, qm0_1, qm0_2, qm0_3⟩ := (o_c.alloc (.cells #[.int .i64 ((a : Int))] 3)).cells4; obtain ⟨o_s0, o_s1, hz1⟩ := new2 wb [.int .i64 ((a : Int))] [.int .i64 ((p : Int))] 3 3; replace o_c := o_c.alloc (.cells #[.int .i64 ((a : Int))] 3); replace o_c := o_c.alloc (.cells #[.int .i64 ((p : Int))] 3); replace o_r := o_r.alloc (.cells #[.int .i64 ((a : Int))] 3); replace o_r := o_r.alloc (.cells #[.int .i64 ((p : Int))] 3); replace hbw := below6 hbw hz1; clear hz1
  go_wp2_with fail
  generalize ((wb.alloc (.cells #[.int .i64 ((a : Int))] 3)).alloc (.cells #[.int .i64 ((p : Int))] 3)) = wa2 at o_c o_r o_s0 o_s1 hbw ⊢; generalize wb.heap.size = g2 at o_s0 o_s1 ⊢; clear qc_0 qm0_0 qc_1 qm0_1 qc_2 qm0_2 qc_3 qm0_3; refine (quot_any HV.out (some ⟨g2, 0, none⟩) [(a : Int)] [a] 1 (some ⟨g2 + 1, 0, none⟩) [(p : Int)] [p] 1 _ o_s0.rd0 Ea.out (by simp) (by decide) Ma.out o_s1.rd0 Ep.out (by simp) (by decide) Mp.out (T0.out.below hbw)).mono ?_; rintro e w3 ⟨hq, hb9⟩; have he := H1.out _ hq; subst he; replace o_c := o_c.below hb9 o_c.lt; replace o_r := o_r.below hb9 o_r.lt; replace hbw := below6 hbw hb9; clear hb9 hq o_s0 o_s1; have lt_c := o_c.lt; have lt_r := o_r.lt; have hs_x := hbw.size; obtain ⟨o_x, hz4⟩ := new1 w3 [.bool false, .string ⟨#[]⟩, .string ⟨#[]⟩] 26; replace o_c := o_c.alloc (.cells #[.bool false, .string ⟨#[]⟩, .string ⟨#[]⟩] 26); replace o_r := o_r.alloc (.cells #[.bool false, .string ⟨#[]⟩, .string ⟨#[]⟩] 26)
  replace hbw := below6 hbw hz4; clear hz4
  go_upto_region 3 with (fail)
  generalize (w3.alloc (.cells #[.bool false, .string ⟨#[]⟩, .string ⟨#[]⟩] 26)) = wa5 at o_c o_r o_x hbw ⊢; generalize w3.heap.size = g5 at o_x hs_x lt_c lt_r ⊢; obtain ⟨qr_0, qr_1, qr_2⟩ := o_r.cells3; obtain ⟨fr_0, fr_1, fr_2⟩ := o_r.frozens3; have oz := o_r.set3 (.bool false) (.string ⟨#[]⟩) (.string ⟨#[]⟩); have sz9 := Below.set3 hbw (g := w.heap.size + 1) (by omega) (.bool false) (.string ⟨#[]⟩) (.string ⟨#[]⟩)
  go_wp2_with fail
  generalize (((wa5.setCell ⟨w.heap.size + 1, 0, none⟩ (.bool false)).setCell ⟨w.heap.size + 1, 1, none⟩ (.string ⟨#[]⟩)).setCell ⟨w.heap.size + 1, 2, none⟩ (.string ⟨#[]⟩)) = wz at oz sz9 ⊢; obtain ⟨z0, z1, z2⟩ := oz.cells3; exact bodyPost_ret (v := .tuple #[.agg #[.bool false, .string ⟨#[]⟩, .string ⟨#[]⟩], .int .i64 25]) (by simp [results, Tryz.results10, go_sem, z0, z1, z2]) rfl ⟨rfl, sz9⟩
theorem ms_no2 {a p q n : Nat} (nx : Bool) (sx tx : ByteArray) (hv : VC a p q n) (h1 : ∀ e, QRes (prodN [a]) (prodN [p]) e → e = .returned (.tuple #[.agg #[.bool nx, .string sx, .string tx], .int .i64 0])) (h2 : ∀ e, QRes (prodN [a]) (prodN [q]) e → e = .returned (.tuple #[.agg #[.bool false, .string ⟨#[]⟩, .string ⟨#[]⟩], .int .i64 25])) (w : World) (ht : Tab w) :
    Calls Tryz.prog 10 #[.agg #[.int .i64 (a : Int), .int .i64 (p : Int), .int .i64 (q : Int), .int .i64 (n : Int)]] w fun e w' => e = .returned (.tuple #[.agg #[.bool false, .string ⟨#[]⟩, .string ⟨#[]⟩], .int .i64 25]) ∧ Below w.heap.size w w' := by
  have HV := Lib.hid hv; have H1 := Lib.hid h1; have H2 := Lib.hid h2; clear h2; have T0 := Lib.hid ht; clear ht; clear hv h1; obtain ⟨o_c, o_r, hbw⟩ := new2 w [.int .i64 (a : Int), .int .i64 (p : Int), .int .i64 (q : Int), .int .i64 (n : Int)] [.bool false, .string ⟨#[]⟩, .string ⟨#[]⟩] 23 26
  go_enter Tryz.func10, Tryz.ntmps10
  go_upto_region 1 with (fail)
  generalize ((w.alloc (.cells #[.int .i64 (a : Int), .int .i64 (p : Int), .int .i64 (q : Int), .int .i64 (n : Int)] 23)).alloc (.cells #[.bool false, .string ⟨#[]⟩, .string ⟨#[]⟩] 26)) = wb at o_c o_r hbw ⊢; have Ea : Hid ([(a : Int)] = [a].map fun (x : Nat) => (x : Int)) := by
    have := HV.out.all; exact Lib.hid (by simp <;> omega)
  have Ma : Hid (Smalls [a]) := by
    have := HV.out.all; exact Lib.hid ⟨by simp, by simp <;> omega⟩
  have Ep : Hid ([(p : Int)] = [p].map fun (x : Nat) => (x : Int)) := by
    have := HV.out.all; exact Lib.hid (by simp <;> omega)
  have Mp : Hid (Smalls [p]) := by
    have := HV.out.all; exact Lib.hid ⟨by simp, by simp <;> omega⟩
  have Eq : Hid ([(q : Int)] = [q].map fun (x : Nat) => (x : Int)) := by
    have := HV.out.all; exact Lib.hid (by simp <;> omega)
  have Mq : Hid (Smalls [q]) := by
    have := HV.out.all; exact Lib.hid ⟨by simp, by simp <;> omega⟩
  obtain ⟨qc_0, qc_1, qc_2, qc_3⟩ := o_c.cells4; obtain ⟨qm0_0, qm0_1, qm0_2, qm0_3⟩ := (o_c.alloc (.cells #[.int .i64 ((a : Int))] 3)).cells4; obtain ⟨o_s0, o_s1, hz1⟩ := new2 wb [.int .i64 ((a : Int))] [.int .i64 ((p : Int))] 3 3; replace o_c := o_c.alloc (.cells #[.int .i64 ((a : Int))] 3); replace o_c := o_c.alloc (.cells #[.int .i64 ((p : Int))] 3); replace o_r := o_r.alloc (.cells #[.int .i64 ((a : Int))] 3); replace o_r := o_r.alloc (.cells #[.int .i64 ((p : Int))] 3); replace hbw := below6 hbw hz1; clear hz1
  go_wp2_with fail
  generalize ((wb.alloc (.cells #[.int .i64 ((a : Int))] 3)).alloc (.cells #[.int .i64 ((p : Int))] 3)) = wa2 at o_c o_r o_s0 o_s1 hbw ⊢; generalize wb.heap.size = g2 at o_s0 o_s1 ⊢; clear qc_0 qm0_0 qc_1 qm0_1 qc_2 qm0_2 qc_3 qm0_3; refine (quot_any HV.out (some ⟨g2, 0, none⟩) [(a : Int)] [a] 1 (some ⟨g2 + 1, 0, none⟩) [(p : Int)] [p] 1 _ o_s0.rd0 Ea.out (by simp) (by decide) Ma.out o_s1.rd0 Ep.out (by simp) (by decide) Mp.out (T0.out.below hbw)).mono ?_; rintro e w3 ⟨hq, hb9⟩; have he := H1.out _ hq; subst he; replace o_c := o_c.below hb9 o_c.lt; replace o_r := o_r.below hb9 o_r.lt; replace hbw := below6 hbw hb9; clear hb9 hq o_s0 o_s1; have lt_c := o_c.lt; have lt_r := o_r.lt; have hs_x := hbw.size; obtain ⟨o_x, hz4⟩ := new1 w3 [.bool nx, .string sx, .string tx] 26; replace o_c := o_c.alloc (.cells #[.bool nx, .string sx, .string tx] 26); replace o_r := o_r.alloc (.cells #[.bool nx, .string sx, .string tx] 26)
  replace hbw := below6 hbw hz4; clear hz4
  go_upto_region 4 with (fail)
  generalize (w3.alloc (.cells #[.bool nx, .string sx, .string tx] 26)) = wa5 at o_c o_r o_x hbw ⊢; generalize w3.heap.size = g5 at o_x hs_x lt_c lt_r ⊢; obtain ⟨qc_0, qc_1, qc_2, qc_3⟩ := o_c.cells4; obtain ⟨qm0_0, qm0_1, qm0_2, qm0_3⟩ := (o_c.alloc (.cells #[.int .i64 ((a : Int))] 3)).cells4; have hs_s0 := hbw.size; obtain ⟨o_s0, o_s1, hz6⟩ := new2 wa5 [.int .i64 ((a : Int))] [.int .i64 ((q : Int))] 3 3; replace o_c := o_c.alloc (.cells #[.int .i64 ((a : Int))] 3); replace o_c := o_c.alloc (.cells #[.int .i64 ((q : Int))] 3); replace o_r := o_r.alloc (.cells #[.int .i64 ((a : Int))] 3); replace o_r := o_r.alloc (.cells #[.int .i64 ((q : Int))] 3); replace o_x := o_x.alloc (.cells #[.int .i64 ((a : Int))] 3); replace o_x := o_x.alloc (.cells #[.int .i64 ((q : Int))] 3); replace hbw := below6 hbw hz6; clear hz6
  go_wp2_with fail
  generalize ((wa5.alloc (.cells #[.int .i64 ((a : Int))] 3)).alloc (.cells #[.int .i64 ((q : Int))] 3)) = wa7 at o_c o_r o_x o_s0 o_s1 hbw ⊢; generalize wa5.heap.size = g7 at o_s0 o_s1 hs_s0 ⊢; clear qc_0 qm0_0 qc_1 qm0_1 qc_2 qm0_2 qc_3 qm0_3; refine (quot_any HV.out (some ⟨g7, 0, none⟩) [(a : Int)] [a] 1 (some ⟨g7 + 1, 0, none⟩) [(q : Int)] [q] 1 _ o_s0.rd0 Ea.out (by simp) (by decide) Ma.out o_s1.rd0 Eq.out (by simp) (by decide) Mq.out (T0.out.below hbw)).mono ?_; rintro e w8 ⟨hq, hb9⟩; have he := H2.out _ hq; subst he; replace o_c := o_c.below hb9 o_c.lt; replace o_r := o_r.below hb9 o_r.lt; replace o_x := o_x.below hb9 o_x.lt; replace hbw := below6 hbw hb9; clear hb9 hq o_s0 o_s1; have hs_y := hbw.size; obtain ⟨o_y, hz9⟩ := new1 w8 [.bool false, .string ⟨#[]⟩, .string ⟨#[]⟩] 26; replace o_c := o_c.alloc (.cells #[.bool false, .string ⟨#[]⟩, .string ⟨#[]⟩] 26); replace o_r := o_r.alloc (.cells #[.bool false, .string ⟨#[]⟩, .string ⟨#[]⟩] 26)
  replace o_x := o_x.alloc (.cells #[.bool false, .string ⟨#[]⟩, .string ⟨#[]⟩] 26); replace hbw := below6 hbw hz9; clear hz9
  go_upto_region 6 with (fail)
  generalize (w8.alloc (.cells #[.bool false, .string ⟨#[]⟩, .string ⟨#[]⟩] 26)) = wa10 at o_c o_r o_x o_y hbw ⊢; generalize w8.heap.size = g10 at o_y hs_y ⊢; obtain ⟨qr_0, qr_1, qr_2⟩ := o_r.cells3; obtain ⟨fr_0, fr_1, fr_2⟩ := o_r.frozens3; have oz := o_r.set3 (.bool false) (.string ⟨#[]⟩) (.string ⟨#[]⟩); have sz9 := Below.set3 hbw (g := w.heap.size + 1) (by omega) (.bool false) (.string ⟨#[]⟩) (.string ⟨#[]⟩)
  go_wp2_with fail
  generalize (((wa10.setCell ⟨w.heap.size + 1, 0, none⟩ (.bool false)).setCell ⟨w.heap.size + 1, 1, none⟩ (.string ⟨#[]⟩)).setCell ⟨w.heap.size + 1, 2, none⟩ (.string ⟨#[]⟩)) = wz at oz sz9 ⊢; obtain ⟨z0, z1, z2⟩ := oz.cells3; exact bodyPost_ret (v := .tuple #[.agg #[.bool false, .string ⟨#[]⟩, .string ⟨#[]⟩], .int .i64 25]) (by simp [results, Tryz.results10, go_sem, z0, z1, z2]) rfl ⟨rfl, sz9⟩
theorem ms_cmp {a p q n : Nat} (nx : Bool) (sx tx : ByteArray) (ny : Bool) (sy ty : ByteArray) (nu : Bool) (su tu : ByteArray) (z : Int) (hv : VC a p q n) (h1 : ∀ e, QRes (prodN [a]) (prodN [p]) e → e = .returned (.tuple #[.agg #[.bool nx, .string sx, .string tx], .int .i64 0])) (h2 : ∀ e, QRes (prodN [a]) (prodN [q]) e → e = .returned (.tuple #[.agg #[.bool ny, .string sy, .string ty], .int .i64 0])) (hc : RetV 11 #[.agg #[.bool ny, .string sy, .string ty], .agg #[.bool nx, .string sx, .string tx]] (.int .i64 z)) (hz : (z < 0 → ny = nu ∧ sy = su ∧ ty = tu) ∧ (0 ≤ z → nx = nu ∧ sx = su ∧ tx = tu)) (w : World) (ht : Tab w) :
    Calls Tryz.prog 10 #[.agg #[.int .i64 (a : Int), .int .i64 (p : Int), .int .i64 (q : Int), .int .i64 (n : Int)]] w fun e w' => e = .returned (.tuple #[.agg #[.bool nu, .string su, .string tu], .int .i64 0]) ∧ Below w.heap.size w w' := by
  have HV := Lib.hid hv; have H1 := Lib.hid h1; have H2 := Lib.hid h2; clear h2; have HC := Lib.hid hc; have HZ := Lib.hid hz; clear hc hz; have T0 := Lib.hid ht; clear ht; clear hv h1; obtain ⟨o_c, o_r, hbw⟩ := new2 w [.int .i64 (a : Int), .int .i64 (p : Int), .int .i64 (q : Int), .int .i64 (n : Int)] [.bool false, .string ⟨#[]⟩, .string ⟨#[]⟩] 23 26
  go_enter Tryz.func10, Tryz.ntmps10
  go_upto_region 1 with (fail)
  generalize ((w.alloc (.cells #[.int .i64 (a : Int), .int .i64 (p : Int), .int .i64 (q : Int), .int .i64 (n : Int)] 23)).alloc (.cells #[.bool false, .string ⟨#[]⟩, .string ⟨#[]⟩] 26)) = wb at o_c o_r hbw ⊢; have Ea : Hid ([(a : Int)] = [a].map fun (x : Nat) => (x : Int)) := by
    have := HV.out.all; exact Lib.hid (by simp <;> omega)
  have Ma : Hid (Smalls [a]) := by
    have := HV.out.all; exact Lib.hid ⟨by simp, by simp <;> omega⟩
  have Ep : Hid ([(p : Int)] = [p].map fun (x : Nat) => (x : Int)) := by
    have := HV.out.all; exact Lib.hid (by simp <;> omega)
  have Mp : Hid (Smalls [p]) := by
    have := HV.out.all; exact Lib.hid ⟨by simp, by simp <;> omega⟩
  have Eq : Hid ([(q : Int)] = [q].map fun (x : Nat) => (x : Int)) := by
    have := HV.out.all; exact Lib.hid (by simp <;> omega)
  have Mq : Hid (Smalls [q]) := by
    have := HV.out.all; exact Lib.hid ⟨by simp, by simp <;> omega⟩
  obtain ⟨qc_0, qc_1, qc_2, qc_3⟩ := o_c.cells4; obtain ⟨qm0_0, qm0_1, qm0_2, qm0_3⟩ := (o_c.alloc (.cells #[.int .i64 ((a : Int))] 3)).cells4; obtain ⟨o_s0, o_s1, hz1⟩ := new2 wb [.int .i64 ((a : Int))] [.int .i64 ((p : Int))] 3 3; replace o_c := o_c.alloc (.cells #[.int .i64 ((a : Int))] 3); replace o_c := o_c.alloc (.cells #[.int .i64 ((p : Int))] 3); replace o_r := o_r.alloc (.cells #[.int .i64 ((a : Int))] 3); replace o_r := o_r.alloc (.cells #[.int .i64 ((p : Int))] 3); replace hbw := below6 hbw hz1; clear hz1
  go_wp2_with fail
  generalize ((wb.alloc (.cells #[.int .i64 ((a : Int))] 3)).alloc (.cells #[.int .i64 ((p : Int))] 3)) = wa2 at o_c o_r o_s0 o_s1 hbw ⊢; generalize wb.heap.size = g2 at o_s0 o_s1 ⊢; clear qc_0 qm0_0 qc_1 qm0_1 qc_2 qm0_2 qc_3 qm0_3; refine (quot_any HV.out (some ⟨g2, 0, none⟩) [(a : Int)] [a] 1 (some ⟨g2 + 1, 0, none⟩) [(p : Int)] [p] 1 _ o_s0.rd0 Ea.out (by simp) (by decide) Ma.out o_s1.rd0 Ep.out (by simp) (by decide) Mp.out (T0.out.below hbw)).mono ?_; rintro e w3 ⟨hq, hb9⟩; have he := H1.out _ hq; subst he; replace o_c := o_c.below hb9 o_c.lt; replace o_r := o_r.below hb9 o_r.lt; replace hbw := below6 hbw hb9; clear hb9 hq o_s0 o_s1; have lt_c := o_c.lt; have lt_r := o_r.lt; have hs_x := hbw.size; obtain ⟨o_x, hz4⟩ := new1 w3 [.bool nx, .string sx, .string tx] 26; replace o_c := o_c.alloc (.cells #[.bool nx, .string sx, .string tx] 26); replace o_r := o_r.alloc (.cells #[.bool nx, .string sx, .string tx] 26)
  replace hbw := below6 hbw hz4; clear hz4
  go_upto_region 4 with (fail)
  generalize (w3.alloc (.cells #[.bool nx, .string sx, .string tx] 26)) = wa5 at o_c o_r o_x hbw ⊢; generalize w3.heap.size = g5 at o_x hs_x lt_c lt_r ⊢; obtain ⟨qc_0, qc_1, qc_2, qc_3⟩ := o_c.cells4; obtain ⟨qm0_0, qm0_1, qm0_2, qm0_3⟩ := (o_c.alloc (.cells #[.int .i64 ((a : Int))] 3)).cells4; have hs_s0 := hbw.size; obtain ⟨o_s0, o_s1, hz6⟩ := new2 wa5 [.int .i64 ((a : Int))] [.int .i64 ((q : Int))] 3 3; replace o_c := o_c.alloc (.cells #[.int .i64 ((a : Int))] 3); replace o_c := o_c.alloc (.cells #[.int .i64 ((q : Int))] 3); replace o_r := o_r.alloc (.cells #[.int .i64 ((a : Int))] 3); replace o_r := o_r.alloc (.cells #[.int .i64 ((q : Int))] 3); replace o_x := o_x.alloc (.cells #[.int .i64 ((a : Int))] 3); replace o_x := o_x.alloc (.cells #[.int .i64 ((q : Int))] 3); replace hbw := below6 hbw hz6; clear hz6
  go_wp2_with fail
  generalize ((wa5.alloc (.cells #[.int .i64 ((a : Int))] 3)).alloc (.cells #[.int .i64 ((q : Int))] 3)) = wa7 at o_c o_r o_x o_s0 o_s1 hbw ⊢; generalize wa5.heap.size = g7 at o_s0 o_s1 hs_s0 ⊢; clear qc_0 qm0_0 qc_1 qm0_1 qc_2 qm0_2 qc_3 qm0_3; refine (quot_any HV.out (some ⟨g7, 0, none⟩) [(a : Int)] [a] 1 (some ⟨g7 + 1, 0, none⟩) [(q : Int)] [q] 1 _ o_s0.rd0 Ea.out (by simp) (by decide) Ma.out o_s1.rd0 Eq.out (by simp) (by decide) Mq.out (T0.out.below hbw)).mono ?_; rintro e w8 ⟨hq, hb9⟩; have he := H2.out _ hq; subst he; replace o_c := o_c.below hb9 o_c.lt; replace o_r := o_r.below hb9 o_r.lt; replace o_x := o_x.below hb9 o_x.lt; replace hbw := below6 hbw hb9; clear hb9 hq o_s0 o_s1; have hs_y := hbw.size; obtain ⟨o_y, hz9⟩ := new1 w8 [.bool ny, .string sy, .string ty] 26; replace o_c := o_c.alloc (.cells #[.bool ny, .string sy, .string ty] 26); replace o_r := o_r.alloc (.cells #[.bool ny, .string sy, .string ty] 26)
  replace o_x := o_x.alloc (.cells #[.bool ny, .string sy, .string ty] 26); replace hbw := below6 hbw hz9; clear hz9
  go_upto_region 7 with (fail)
  generalize (w8.alloc (.cells #[.bool ny, .string sy, .string ty] 26)) = wa10 at o_c o_r o_x o_y hbw ⊢; generalize w8.heap.size = g10 at o_y hs_y ⊢; obtain ⟨qy_0, qy_1, qy_2⟩ := o_y.cells3; obtain ⟨qx_0, qx_1, qx_2⟩ := o_x.cells3
  go_wp2_with fail
  clear qy_0 qy_1 qy_2 qx_0 qx_1 qx_2; refine (HC.out _).mono ?_; rintro e w11 ⟨rfl, hb11⟩; replace o_c := o_c.below hb11 o_c.lt; replace o_r := o_r.below hb11 o_r.lt; replace o_x := o_x.below hb11 o_x.lt; replace o_y := o_y.below hb11 o_y.lt; replace hbw := below6 hbw hb11; clear hb11
  rcases Decidable.em (z < 0) with hlt | hge
  · obtain ⟨rfl, rfl, rfl⟩ := HZ.out.1 hlt; have d1 : decide (z < 0) = true := decide_eq_true hlt; obtain ⟨qy_0, qy_1, qy_2⟩ := o_y.cells3; obtain ⟨qx_0, qx_1, qx_2⟩ := o_x.cells3; obtain ⟨fx_0, fx_1, fx_2⟩ := o_x.frozens3; have ox := o_x.set3 (.bool ny) (.string sy) (.string ty); have sx9 := Below.set3 hbw (g := g5) (by omega) (.bool ny) (.string sy) (.string ty); have nr : w.heap.size + 1 ≠ g5 := by omega
    have or9 := o_r.far3 nr (.bool ny) (.string sy) (.string ty)
    go_upto_region 9 with (fail)
    generalize (((w11.setCell ⟨g5, 0, none⟩ (.bool ny)).setCell ⟨g5, 1, none⟩ (.string sy)).setCell ⟨g5, 2, none⟩ (.string ty)) = wv at ox sx9 or9 ⊢; clear o_x o_y o_c o_r hbw qy_0 qx_0 fx_0 qy_1 qx_1 fx_1 qy_2 qx_2 fx_2; have o_x := ox; have o_r := or9; have hbw := sx9; clear ox or9 sx9; obtain ⟨qx_0, qx_1, qx_2⟩ := o_x.cells3; obtain ⟨qr_0, qr_1, qr_2⟩ := o_r.cells3; obtain ⟨fr_0, fr_1, fr_2⟩ := o_r.frozens3; have oz := o_r.set3 (.bool ny) (.string sy) (.string ty); have sz9 := Below.set3 hbw (g := w.heap.size + 1) (by omega) (.bool ny) (.string sy) (.string ty)
    go_wp2_with fail
    generalize (((wv.setCell ⟨w.heap.size + 1, 0, none⟩ (.bool ny)).setCell ⟨w.heap.size + 1, 1, none⟩ (.string sy)).setCell ⟨w.heap.size + 1, 2, none⟩ (.string ty)) = wz at oz sz9 ⊢; obtain ⟨z0, z1, z2⟩ := oz.cells3; exact bodyPost_ret (v := .tuple #[.agg #[.bool ny, .string sy, .string ty], .int .i64 0]) (by simp [results, Tryz.results10, go_sem, z0, z1, z2]) rfl ⟨rfl, sz9⟩
  · obtain ⟨rfl, rfl, rfl⟩ := HZ.out.2 (by omega); have d1 : decide (z < 0) = false := decide_eq_false hge; obtain ⟨qx_0, qx_1, qx_2⟩ := o_x.cells3; obtain ⟨qr_0, qr_1, qr_2⟩ := o_r.cells3; obtain ⟨fr_0, fr_1, fr_2⟩ := o_r.frozens3; have oz := o_r.set3 (.bool nx) (.string sx) (.string tx); have sz9 := Below.set3 hbw (g := w.heap.size + 1) (by omega) (.bool nx) (.string sx) (.string tx)
    go_wp2_with fail
    generalize (((w11.setCell ⟨w.heap.size + 1, 0, none⟩ (.bool nx)).setCell ⟨w.heap.size + 1, 1, none⟩ (.string sx)).setCell ⟨w.heap.size + 1, 2, none⟩ (.string tx)) = wz at oz sz9 ⊢; obtain ⟨z0, z1, z2⟩ := oz.cells3; exact bodyPost_ret (v := .tuple #[.agg #[.bool nx, .string sx, .string tx], .int .i64 0]) (by simp [results, Tryz.results10, go_sem, z0, z1, z2]) rfl ⟨rfl, sz9⟩
end Go.Proofs.YtffldjghdcfpiaaGreatDoor
