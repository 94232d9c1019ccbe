/- Parts of the proof: Rv. No condition of its own. -/
import Derived.Test.YtocknfhgjmaibaaGreatDoorRu
import Derived.Test.YtocknfhgjmaibaaGreatDoorMs
set_option linter.unusedSimpArgs false
set_option linter.unusedVariables false
set_option linter.unusedSectionVars false
set_option maxRecDepth 100000
set_option maxHeartbeats 4000000
namespace Go.Proofs.YtocknfhgjmaibaaGreatDoor
open Go.RowKit Dg

theorem dk_ok {n : Nat} (h : OkN n) : (dk n).length ≤ 5000 := dk_short (N := 5000) (by unfold OkN at h; omega)
theorem rlog_yes {x : Rat} {k : Nat} (hx : Few 70 x) (h0 : 0 < x) (hk : k ≤ 8) (w : World) :
    Calls Tryz.prog 68 #[RV x, .int .i64 (k : Int)] w fun e w' => LogRes (x ^ (2 ^ k)) e ∧ Below w.heap.size w w' := by
  have ok := hx.ok (by omega : 70 ≤ 20000); have op := few_pow hx hk; have opj : ∀ j, j ≤ k → OkN (x.num.natAbs ^ (2 ^ j)) ∧ OkN (x.den ^ (2 ^ j)) := fun j hj => few_pow hx (by omega); have hn := pos_num h0; have e : decide (x.num < 0) = false := decide_eq_false (by omega); rw [← rat_pow h0]
  show Calls _ _ #[.agg #[.bool (decide (x.num < 0)), .string (S x.num.natAbs), .string (S x.den)], _] _ _
  have hy : RetV 57 #[.agg #[.bool (decide (x.num < 0)), .string (S x.num.natAbs), .string (S x.den)]] (.bool true) := fun w => isratior_yes w ok; rw [e] at hy ⊢; refine logr_core _ _ k _ _ w hy (str_ne (by rw [← okS_0]; exact S_ne_0 (by omega))) hk (fun w => big_S _ w ok.1) (fun w => big_S _ w ok.2) (by omega) (den_pos x) (fun j hj => dk_ok (opj j hj).1) (fun j hj => dk_ok (opj j hj).2) ?_ ?_
  · rw [S_size]; exact op.1
  · rw [S_size]; exact op.2
theorem bitsr_exact (nx : Bool) (sx tx : ByteArray) (nu : Bool) (su tu : ByteArray) (nv : Bool) (sv tv : ByteArray) (n : Int) (k : Nat) (h1 : -1000000 ≤ n) (h2 : n ≤ 1000000) (hk : k ≤ 8) (hl : RetV 68 #[.agg #[.bool nx, .string sx, .string tx], .int .i64 (k : Int)] (.tuple #[.int .i64 n, .bool true, .int .i64 0]))
    (hu : RetV 39 #[.int .i64 n, .int .i64 ((2 ^ k : Nat) : Int)] (.tuple #[.agg #[.bool nu, .string su, .string tu], .int .i64 0])) (hv : RetV 39 #[.int .i64 (n + 1), .int .i64 ((2 ^ k : Nat) : Int)] (.tuple #[.agg #[.bool nv, .string sv, .string tv], .int .i64 0])) :
    RetV 46 #[.agg #[.bool nx, .string sx, .string tx], .int .i64 (k : Int)] (.tuple #[.agg #[.bool nu, .string su, .string tu, .bool nu, .string su, .string tu], .int .i64 0]) := by
  intro w; have hk2 : 2 ^ k ≤ 256 := Nat.le_trans (Nat.pow_le_pow_right (by decide) hk) (by decide); have zw : wrap64 ((2 : Int) ^ k) = ((2 ^ k : Nat) : Int) := by
    have e : (2 : Int) ^ k = ((2 ^ k : Nat) : Int) := by simp
    rw [e]; have h9 : ∀ K : Nat, K ≤ 256 → wrap64 (K : Int) = K := fun K h => by unfold wrap64; omega
    exact h9 _ hk2
  have ZW := Lib.hid zw; have HL := Lib.hid hl; have HU := Lib.hid hu; have HV := Lib.hid hv; have zn : IntKind.i64.wrap (n + 1) = n + 1 := IntWalk.i64_in _ (by omega); have hkI : (k : Int) ≤ 8 := by omega
  have hkI0 : (0 : Int) ≤ (k : Int) := by omega
  clear hl hu hv zw hk2; obtain ⟨o_x, o_r, hbw⟩ := new2 w [.bool nx, .string sx, .string tx] [.bool false, .string ⟨#[]⟩, .string ⟨#[]⟩, .bool false, .string ⟨#[]⟩, .string ⟨#[]⟩] 27 33
  go_enter Tryz.func46, Tryz.ntmps46
  go_upto_region 1 with (fail)
  generalize ((w.alloc (.cells #[.bool nx, .string sx, .string tx] 27)).alloc (.cells #[.bool false, .string ⟨#[]⟩, .string ⟨#[]⟩, .bool false, .string ⟨#[]⟩, .string ⟨#[]⟩] 33)) = wb at o_x o_r hbw ⊢; obtain ⟨qx_0, qx_1, qx_2⟩ := o_x.cells3
  go_wp2_with fail
  clear qx_0 qx_1 qx_2; refine (HL.out _).mono ?_; rintro e w1 ⟨rfl, hb1⟩; replace o_x := o_x.below hb1 o_x.lt; replace o_r := o_r.below hb1 o_r.lt; replace hbw := below6 hbw hb1; clear hb1
  go_wp2_with fail
  rw [ZW.out]; refine (HU.out _).mono ?_; rintro e w2 ⟨rfl, hb2⟩; replace o_x := o_x.below hb2 o_x.lt; replace o_r := o_r.below hb2 o_r.lt; replace hbw := below6 hbw hb2; clear hb2; obtain ⟨o_u, hz3⟩ := new1 w2 [.bool nu, .string su, .string tu] 27; replace o_x := o_x.alloc (.cells #[.bool nu, .string su, .string tu] 27); replace o_r := o_r.alloc (.cells #[.bool nu, .string su, .string tu] 27); replace hbw := below6 hbw hz3; clear hz3
  go_wp2_with fail
  generalize (w2.alloc (.cells #[.bool nu, .string su, .string tu] 27)) = wa4 at o_x o_r o_u hbw ⊢; generalize w2.heap.size = g4 at o_u ⊢; rw [ZW.out]; refine (HV.out _).mono ?_; rintro e w5 ⟨rfl, hb5⟩; replace o_x := o_x.below hb5 o_x.lt; replace o_r := o_r.below hb5 o_r.lt; replace o_u := o_u.below hb5 o_u.lt; replace hbw := below6 hbw hb5; clear hb5; have lt_x := o_x.lt; have lt_r := o_r.lt; have lt_u := o_u.lt; have lt_w := hbw.size; obtain ⟨o_v, hz6⟩ := new1 w5 [.bool nv, .string sv, .string tv] 27; replace o_x := o_x.alloc (.cells #[.bool nv, .string sv, .string tv] 27); replace o_r := o_r.alloc (.cells #[.bool nv, .string sv, .string tv] 27); replace o_u := o_u.alloc (.cells #[.bool nv, .string sv, .string tv] 27); replace hbw := below6 hbw hz6; clear hz6; obtain ⟨qu_0, qu_1, qu_2⟩ := o_u.cells3; obtain ⟨qv_0, qv_1, qv_2⟩ := o_v.cells3; obtain ⟨fv_0, fv_1, fv_2⟩ := o_v.frozens3
  go_upto_region 7 with (fail)
  generalize (w5.alloc (.cells #[.bool nv, .string sv, .string tv] 27)) = wa7 at o_x o_r o_u o_v hbw ⊢; generalize w5.heap.size = g7 at o_v lt_x lt_r lt_u lt_w ⊢; clear qu_0 qu_1 qu_2 qv_0 qv_1 qv_2 fv_0 fv_1 fv_2; obtain ⟨qu_0, qu_1, qu_2⟩ := o_u.cells3; obtain ⟨qv_0, qv_1, qv_2⟩ := o_v.cells3; obtain ⟨fv_0, fv_1, fv_2⟩ := o_v.frozens3; have o2_v := o_v.set3 (.bool nu) (.string su) (.string tu); have o2_x := o_x.far3 (b := g7) (by omega) (.bool nu) (.string su) (.string tu); have o2_r := o_r.far3 (b := g7) (by omega) (.bool nu) (.string su) (.string tu); have o2_u := o_u.far3 (b := g7) (by omega) (.bool nu) (.string su) (.string tu); have hbw2 := Below.set3 hbw (g := g7) (by omega) (.bool nu) (.string su) (.string tu); clear o_x o_r o_u o_v hbw
  go_upto_region 8 with (fail)
  clear qu_0 qu_1 qu_2 qv_0 qv_1 qv_2 fv_0 fv_1 fv_2; generalize (((wa7.setCell ⟨g7, 0, none⟩ (.bool nu)).setCell ⟨g7, 1, none⟩ (.string su)).setCell ⟨g7, 2, none⟩ (.string tu)) = wsw at o2_x o2_r o2_u o2_v hbw2 ⊢; have o_x := o2_x; have o_r := o2_r; have o_u := o2_u; have o_v := o2_v; have hbw := hbw2; clear o2_x o2_r o2_u o2_v hbw2; obtain ⟨qu_0, qu_1, qu_2⟩ := o_u.cells3; obtain ⟨qv_0, qv_1, qv_2⟩ := o_v.cells3; obtain ⟨qr_0, qr_1, qr_2, qr_3, qr_4, qr_5⟩ := o_r.cells6; obtain ⟨fr_0, fr_1, fr_2, fr_3, fr_4, fr_5⟩ := o_r.frozens6; have oz := o_r.set6 (.bool nu) (.string su) (.string tu) (.bool nu) (.string su) (.string tu); have sz9 := Below.set6 hbw (g := w.heap.size + 1) (by omega) (.bool nu) (.string su) (.string tu) (.bool nu) (.string su) (.string tu)
  go_wp2_with fail
  generalize ((((((wsw.setCell ⟨w.heap.size + 1, 0, none⟩ (.bool nu)).setCell ⟨w.heap.size + 1, 1, none⟩ (.string su)).setCell ⟨w.heap.size + 1, 2, none⟩ (.string tu)).setCell ⟨w.heap.size + 1, 3, none⟩ (.bool nu)).setCell ⟨w.heap.size + 1, 4, none⟩ (.string su)).setCell ⟨w.heap.size + 1, 5, none⟩ (.string tu)) = wz at oz sz9 ⊢; obtain ⟨z0, z1, z2, z3, z4, z5⟩ := oz.cells6; exact bodyPost_ret (v := .tuple #[.agg #[.bool nu, .string su, .string tu, .bool nu, .string su, .string tu], .int .i64 0]) (by simp [results, Tryz.results46, go_sem, z0, z1, z2, z3, z4, z5]) rfl ⟨rfl, sz9⟩
theorem bitsr_open (nx : Bool) (sx tx : ByteArray) (nu : Bool) (su tu : ByteArray) (nv : Bool) (sv tv : ByteArray) (n : Int) (k : Nat) (h1 : -1000000 ≤ n) (h2 : n ≤ 1000000) (hk : k ≤ 8) (hl : RetV 68 #[.agg #[.bool nx, .string sx, .string tx], .int .i64 (k : Int)] (.tuple #[.int .i64 n, .bool false, .int .i64 0]))
    (hu : RetV 39 #[.int .i64 n, .int .i64 ((2 ^ k : Nat) : Int)] (.tuple #[.agg #[.bool nu, .string su, .string tu], .int .i64 0])) (hv : RetV 39 #[.int .i64 (n + 1), .int .i64 ((2 ^ k : Nat) : Int)] (.tuple #[.agg #[.bool nv, .string sv, .string tv], .int .i64 0])) :
    RetV 46 #[.agg #[.bool nx, .string sx, .string tx], .int .i64 (k : Int)] (.tuple #[.agg #[.bool nu, .string su, .string tu, .bool nv, .string sv, .string tv], .int .i64 0]) := by
  intro w; have hk2 : 2 ^ k ≤ 256 := Nat.le_trans (Nat.pow_le_pow_right (by decide) hk) (by decide); have zw : wrap64 ((2 : Int) ^ k) = ((2 ^ k : Nat) : Int) := by
    have e : (2 : Int) ^ k = ((2 ^ k : Nat) : Int) := by simp
    rw [e]; have h9 : ∀ K : Nat, K ≤ 256 → wrap64 (K : Int) = K := fun K h => by unfold wrap64; omega
    exact h9 _ hk2
  have ZW := Lib.hid zw; have HL := Lib.hid hl; have HU := Lib.hid hu; have HV := Lib.hid hv; have zn : IntKind.i64.wrap (n + 1) = n + 1 := IntWalk.i64_in _ (by omega); have hkI : (k : Int) ≤ 8 := by omega
  have hkI0 : (0 : Int) ≤ (k : Int) := by omega
  clear hl hu hv zw hk2; obtain ⟨o_x, o_r, hbw⟩ := new2 w [.bool nx, .string sx, .string tx] [.bool false, .string ⟨#[]⟩, .string ⟨#[]⟩, .bool false, .string ⟨#[]⟩, .string ⟨#[]⟩] 27 33
  go_enter Tryz.func46, Tryz.ntmps46
  go_upto_region 1 with (fail)
  generalize ((w.alloc (.cells #[.bool nx, .string sx, .string tx] 27)).alloc (.cells #[.bool false, .string ⟨#[]⟩, .string ⟨#[]⟩, .bool false, .string ⟨#[]⟩, .string ⟨#[]⟩] 33)) = wb at o_x o_r hbw ⊢; obtain ⟨qx_0, qx_1, qx_2⟩ := o_x.cells3
  go_wp2_with fail
  clear qx_0 qx_1 qx_2; refine (HL.out _).mono ?_; rintro e w1 ⟨rfl, hb1⟩; replace o_x := o_x.below hb1 o_x.lt; replace o_r := o_r.below hb1 o_r.lt; replace hbw := below6 hbw hb1; clear hb1
  go_wp2_with fail
  rw [ZW.out]; refine (HU.out _).mono ?_; rintro e w2 ⟨rfl, hb2⟩; replace o_x := o_x.below hb2 o_x.lt; replace o_r := o_r.below hb2 o_r.lt; replace hbw := below6 hbw hb2; clear hb2; obtain ⟨o_u, hz3⟩ := new1 w2 [.bool nu, .string su, .string tu] 27; replace o_x := o_x.alloc (.cells #[.bool nu, .string su, .string tu] 27); replace o_r := o_r.alloc (.cells #[.bool nu, .string su, .string tu] 27); replace hbw := below6 hbw hz3; clear hz3
  go_wp2_with fail
  generalize (w2.alloc (.cells #[.bool nu, .string su, .string tu] 27)) = wa4 at o_x o_r o_u hbw ⊢; generalize w2.heap.size = g4 at o_u ⊢; rw [ZW.out]; refine (HV.out _).mono ?_; rintro e w5 ⟨rfl, hb5⟩; replace o_x := o_x.below hb5 o_x.lt; replace o_r := o_r.below hb5 o_r.lt; replace o_u := o_u.below hb5 o_u.lt; replace hbw := below6 hbw hb5; clear hb5; obtain ⟨o_v, hz6⟩ := new1 w5 [.bool nv, .string sv, .string tv] 27; replace o_x := o_x.alloc (.cells #[.bool nv, .string sv, .string tv] 27); replace o_r := o_r.alloc (.cells #[.bool nv, .string sv, .string tv] 27); replace o_u := o_u.alloc (.cells #[.bool nv, .string sv, .string tv] 27); replace hbw := below6 hbw hz6; clear hz6; obtain ⟨qu_0, qu_1, qu_2⟩ := o_u.cells3; obtain ⟨qv_0, qv_1, qv_2⟩ := o_v.cells3; obtain ⟨qr_0, qr_1, qr_2, qr_3, qr_4, qr_5⟩ := o_r.cells6; obtain ⟨fr_0, fr_1, fr_2, fr_3, fr_4, fr_5⟩ := o_r.frozens6; have oz := o_r.set6 (.bool nu) (.string su) (.string tu) (.bool nv) (.string sv) (.string tv)
  have sz9 := Below.set6 hbw (g := w.heap.size + 1) (by omega) (.bool nu) (.string su) (.string tu) (.bool nv) (.string sv) (.string tv)
  go_wp2_with fail
  generalize (((((((w5.alloc (.cells #[.bool nv, .string sv, .string tv] 27)).setCell ⟨w.heap.size + 1, 0, none⟩ (.bool nu)).setCell ⟨w.heap.size + 1, 1, none⟩ (.string su)).setCell ⟨w.heap.size + 1, 2, none⟩ (.string tu)).setCell ⟨w.heap.size + 1, 3, none⟩ (.bool nv)).setCell ⟨w.heap.size + 1, 4, none⟩ (.string sv)).setCell ⟨w.heap.size + 1, 5, none⟩ (.string tv)) = wz at oz sz9 ⊢; obtain ⟨z0, z1, z2, z3, z4, z5⟩ := oz.cells6; exact bodyPost_ret (v := .tuple #[.agg #[.bool nu, .string su, .string tu, .bool nv, .string sv, .string tv], .int .i64 0]) (by simp [results, Tryz.results46, go_sem, z0, z1, z2, z3, z4, z5]) rfl ⟨rfl, sz9⟩
theorem maker_uq (n : Int) (k : Nat) (h1 : -2000000 ≤ n) (h2 : n ≤ 2000000) (hk : k ≤ 8) : RetV 39 #[.int .i64 n, .int .i64 ((2 ^ k : Nat) : Int)] (.tuple #[RV (uq n k), .int .i64 0]) := by
  intro w; have hk2 : 2 ^ k ≤ 256 := Nat.le_trans (Nat.pow_le_pow_right (by decide) hk) (by decide); have h2p : 0 < 2 ^ k := Nat.pow_pos (by decide); have hfew := uq_few h1 h2 hk; refine (maker_any n ((2 ^ k : Nat) : Int) w (by omega) (by omega) (by omega) (by omega) (by omega)).mono ?_; rintro e w' ⟨hl, hb⟩; have e1 : decide (((2 ^ k : Nat) : Int) < 0) = false := decide_eq_false (by omega); have e2 : (((2 ^ k : Nat) : Int)).natAbs = 2 ^ k := Int.natAbs_natCast _; rw [e1, e2, Bool.bne_false] at hl; exact ⟨hl.ok (hfew.ok (by decide)), hb⟩
theorem rbits_yes {x : Rat} {k : Nat} (hx : Few 70 x) (h0 : 0 < x) (hk : k ≤ 8) {n : Int} (hn : IsLog (x ^ (2 ^ k)) n) (h1 : -1000000 ≤ n) (h2 : n ≤ 1000000) :
    RetV 68 #[RV x, .int .i64 (k : Int)] (.tuple #[.int .i64 n, .bool (decide (p2 n = x ^ (2 ^ k))), .int .i64 0]) ∧
    RetV 46 #[RV x, .int .i64 (k : Int)] (.tuple #[IV (uq n k) (if p2 n = x ^ (2 ^ k) then uq n k else uq (n + 1) k), .int .i64 0]) := by
  have hl : RetV 68 #[RV x, .int .i64 (k : Int)] (.tuple #[.int .i64 n, .bool (decide (p2 n = x ^ (2 ^ k))), .int .i64 0]) := fun w =>
    (rlog_yes hx h0 hk w).mono fun e w' ⟨he, hb⟩ => ⟨he.eq ⟨n, rfl, hn, h1, h2⟩, hb⟩
  refine ⟨hl, ?_⟩
  by_cases he : p2 n = x ^ (2 ^ k)
  · rw [if_pos he]; have e : decide (p2 n = x ^ (2 ^ k)) = true := decide_eq_true he; rw [e] at hl; exact bitsr_exact _ _ _ _ _ _ _ _ _ n k h1 h2 hk hl (maker_uq n k (by omega) (by omega) hk) (maker_uq (n + 1) k (by omega) (by omega) hk)
  · rw [if_neg he]; have e : decide (p2 n = x ^ (2 ^ k)) = false := decide_eq_false he; rw [e] at hl; exact bitsr_open _ _ _ _ _ _ _ _ _ n k h1 h2 hk hl (maker_uq n k (by omega) (by omega) hk) (maker_uq (n + 1) k (by omega) (by omega) hk)
end Go.Proofs.YtocknfhgjmaibaaGreatDoor
