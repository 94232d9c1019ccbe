/- The reference's Log of a ratio, abs, Make, Bits. -/
import Derived.Test.YtdjkgjpehneejaaRu
namespace Go.Proofs.Ytdjkgjpehneejaa
set_option linter.unusedSimpArgs false
set_option linter.unusedVariables false
set_option linter.unusedSectionVars false
open Go.RowKit Dg

theorem dk_ok {n : Nat} (h : OkN n) : (dk n).length ≤ 5000 := dk_short (N := 5000) (by unfold OkN at h; omega)
theorem rlog_yes {x : Rat} {k : Nat} (hx : Few 70 x) (h0 : 0 < x) (hk : k ≤ 8) (w : World) :
    Calls Try.prog 18 #[RV x, .int .i64 (k : Int)] w fun e w' => LogRes (x ^ (2 ^ k)) e ∧ Below w.heap.size w w' := by
  have ok := hx.ok (by omega : 70 ≤ 20000)
  have op := few_pow hx hk
  have opj : ∀ j, j ≤ k → OkN (x.num.natAbs ^ (2 ^ j)) ∧ OkN (x.den ^ (2 ^ j)) := fun j hj => few_pow hx (by omega)
  have hn := pos_num h0
  have e : decide (x.num < 0) = false := decide_eq_false (by omega)
  rw [← rat_pow h0]
  show Calls _ _ #[.agg #[.bool (decide (x.num < 0)), .string (S x.num.natAbs), .string (S x.den)], _] _ _
  have hy : RetV 47 #[.agg #[.bool (decide (x.num < 0)), .string (S x.num.natAbs), .string (S x.den)]] (.bool true) := fun w => isratior_yes w ok
  rw [e] at hy ⊢
  refine logr_core _ _ k _ _ w hy (str_ne (by rw [← okS_0]; exact S_ne_0 (by omega))) hk (fun w => big_S _ w ok.1) (fun w => big_S _ w ok.2) (by omega) (den_pos x) (fun j hj => dk_ok (opj j hj).1) (fun j hj => dk_ok (opj j hj).2) ?_ ?_
  · rw [S_size]; exact op.1
  · rw [S_size]; exact op.2
theorem abs_ref (z : Int) (w : World) (h1 : -9223372036854775808 ≤ z) (h2 : z ≤ 9223372036854775807) : Calls Try.prog 79 #[.int .i64 z] w fun e w' => e = .returned (.int .u64 (z.natAbs : Int)) ∧ Below w.heap.size w w' := by
  by_cases hz : z < 0
  · have d1 : decide (z < 0) = true := decide_eq_true hz
    have g1 : IntKind.i64.wrap (z + 1) = z + 1 := IntWalk.i64_in _ (by omega)
    have g2 : IntKind.i64.wrap (-(z + 1)) = -(z + 1) := IntWalk.i64_in _ (by omega)
    have g3 : IntKind.u64.wrap (-(z + 1)) = -(z + 1) := IntWalk.u64_in _ (by omega)
    have HR : Hid (IntKind.u64.wrap (-(z + 1) + 1) = (z.natAbs : Int)) := by
      show _ = _
      have e : -(z + 1) + 1 = (z.natAbs : Int) := by omega
      rw [e]; exact IntWalk.u64_in _ (by omega)
    have HR2 : Hid (-(z + 1) + 1 = (z.natAbs : Int)) := by show _ = _; omega
    have HE : Hid (∀ a : Int, a = -(z + 1) + 1 → IntKind.u64.wrap a = (z.natAbs : Int)) := by
      intro a ha
      rw [ha]; exact HR.out
    go_enter Try.func79, Try.ntmps79
    go_wp2
    go_ret
    exact ⟨ret_int (by first | exact HR.out | exact HR2.out | (apply HE.out; omega) | omega), Below.refl _ _⟩
  · have d1 : decide (z < 0) = false := decide_eq_false hz
    have g1 : IntKind.u64.wrap z = z := IntWalk.u64_in _ (by omega)
    have HR : Hid (z = (z.natAbs : Int)) := by show _ = _; omega
    go_enter Try.func79, Try.ntmps79
    go_wp2
    go_ret
    exact ⟨ret_int HR.out, Below.refl _ _⟩
theorem dk64 {n : Nat} (h : n < 18446744073709551616) : (dk n).length ≤ 5 := dg_le b10k (by show n < 10000 ^ 5; omega)
set_option maxRecDepth 100000 in
set_option maxHeartbeats 4000000 in
theorem maker_any (num den : Int) (w : World) (h1 : -9223372036854775808 ≤ num) (h2 : num ≤ 9223372036854775807) (h3 : -9223372036854775808 ≤ den) (h4 : den ≤ 9223372036854775807) (hd : den ≠ 0) :
    Calls Try.prog 53 #[.int .i64 num, .int .i64 den] w fun e w' => RatRes (rat (decide (num < 0) != decide (den < 0)) num.natAbs den.natAbs) e ∧ Below w.heap.size w w' := by
  have A1 := Lib.hid (fun w => abs_ref num w h1 h2)
  have A2 := Lib.hid (fun w => abs_ref den w h3 h4)
  have O1 := Lib.hid (fun w => of64_ref num.natAbs (by omega) w)
  have O2 := Lib.hid (fun w => of64_ref den.natAbs (by omega) w)
  have L1 := Lib.hid (dk64 (n := num.natAbs) (by omega))
  have L2 := Lib.hid (dk64 (n := den.natAbs) (by omega))
  have HD : Hid (0 < den.natAbs) := by show _ < _; omega
  have b0 : (den == 0) = false := beq_eq_false_iff_ne.2 hd
  clear hd h1 h2 h3 h4
  have key : ∀ x1 x2 : Bool, decide (num < 0) = x1 → decide (den < 0) = x2 → Calls Try.prog 53 #[.int .i64 num, .int .i64 den] w fun e w' => RatRes (rat (x1 != x2) num.natAbs den.natAbs) e ∧ Below w.heap.size w w' := by
    intro x1 x2 t1 t2
    obtain ⟨nz, sz, tz, kz, hend, hres⟩ := ratRes_one (rat (x1 != x2) num.natAbs den.natAbs)
    have HEND := Lib.hid hend
    have HRES := Lib.hid hres
    clear hend hres
    obtain ⟨o_r, hbw⟩ := new1 w [.bool false, .string ⟨#[]⟩, .string ⟨#[]⟩] 26
    go_enter Try.func53, Try.ntmps53
    go_upto_region 1 with (fail)
    generalize (w.alloc (.cells #[.bool false, .string ⟨#[]⟩, .string ⟨#[]⟩] 26)) = wb at o_r hbw ⊢
    go_wp2_with fail
    refine (A1.out _).mono ?_
    rintro e w1 ⟨rfl, hb1⟩
    replace o_r := o_r.below hb1 o_r.lt
    replace hbw := below6 hbw hb1
    clear hb1
    go_wp2_with fail
    refine (O1.out _).mono ?_
    rintro e w2 ⟨v1, rfl, hv1, hb2⟩
    replace o_r := o_r.below hb2 o_r.lt
    replace hbw := below6 hbw hb2
    clear hb2
    go_wp2_with fail
    refine (A2.out _).mono ?_
    rintro e w3 ⟨rfl, hb3⟩
    replace o_r := o_r.below hb3 o_r.lt
    replace hv1 := hv1.below hb3
    replace hbw := below6 hbw hb3
    clear hb3
    go_wp2_with fail
    refine (O2.out _).mono ?_
    rintro e w4 ⟨v2, rfl, hv2, hb4⟩
    replace o_r := o_r.below hb4 o_r.lt
    replace hv1 := hv1.below hb4
    replace hbw := below6 hbw hb4
    clear hb4
    go_wp2_with fail
    refine (lowest_ref (x1 != x2) _ _ _ _ _ hv1 hv2 (by have := L1.out; omega) (by have := L2.out; omega) HD.out).mono ?_
    rintro e w5 ⟨hl, hb5⟩
    replace o_r := o_r.below hb5 o_r.lt
    replace hv1 := hv1.below hb5
    replace hv2 := hv2.below hb5
    replace hbw := below6 hbw hb5
    clear hb5
    have he := HEND.out _ (hl.toRat HD.out)
    subst he
    clear hl
    have qr_0 : w5.cell? ⟨w.heap.size, 0, none⟩ = some (.bool false) := o_r.cell 0
    have qr_1 : w5.cell? ⟨w.heap.size, 1, none⟩ = some (.string ⟨#[]⟩) := o_r.cell 1
    have qr_2 : w5.cell? ⟨w.heap.size, 2, none⟩ = some (.string ⟨#[]⟩) := o_r.cell 2
    have fr_0 := o_r.frozen 0
    have fr_1 := o_r.frozen 1
    have fr_2 := o_r.frozen 2
    have oz := o_r.set3 (.bool nz) (.string sz) (.string tz)
    have sz9 := Below.set3 hbw (g := w.heap.size) (by omega) (.bool nz) (.string sz) (.string tz)
    go_wp2_with fail
    generalize (((w5.setCell ⟨w.heap.size, 0, none⟩ (.bool nz)).setCell ⟨w.heap.size, 1, none⟩ (.string sz)).setCell ⟨w.heap.size, 2, none⟩ (.string tz)) = wz at oz sz9 ⊢
    have z0 : wz.cell? ⟨w.heap.size, 0, none⟩ = some (.bool nz) := oz.cell 0
    have z1 : wz.cell? ⟨w.heap.size, 1, none⟩ = some (.string sz) := oz.cell 1
    have z2 : wz.cell? ⟨w.heap.size, 2, none⟩ = some (.string tz) := oz.cell 2
    exact bodyPost_ret (v := .tuple #[.agg #[.bool nz, .string sz, .string tz], .int .i64 kz]) (by simp [results, Try.results53, go_sem, z0, z1, z2]) rfl ⟨HRES.out, sz9⟩
  exact key _ _ rfl rfl
set_option maxRecDepth 100000 in
set_option maxHeartbeats 4000000 in
theorem bitsr_exact (nx : Bool) (sx tx : ByteArray) (nu : Bool) (su tu : ByteArray) (nv : Bool) (sv tv : ByteArray) (n : Int) (k : Nat) (h1 : -1000000 ≤ n) (h2 : n ≤ 1000000) (hk : k ≤ 8) (hl : RetV 18 #[.agg #[.bool nx, .string sx, .string tx], .int .i64 (k : Int)] (.tuple #[.int .i64 n, .bool true, .int .i64 0]))
    (hu : RetV 53 #[.int .i64 n, .int .i64 ((2 ^ k : Nat) : Int)] (.tuple #[.agg #[.bool nu, .string su, .string tu], .int .i64 0])) (hv : RetV 53 #[.int .i64 (n + 1), .int .i64 ((2 ^ k : Nat) : Int)] (.tuple #[.agg #[.bool nv, .string sv, .string tv], .int .i64 0])) :
    RetV 20 #[.agg #[.bool nx, .string sx, .string tx], .int .i64 (k : Int)] (.tuple #[.agg #[.bool nu, .string su, .string tu, .bool nu, .string su, .string tu], .int .i64 0]) := by
  intro w
  have hk2 : 2 ^ k ≤ 256 := Nat.le_trans (Nat.pow_le_pow_right (by decide) hk) (by decide)
  have zw : wrap64 ((2 : Int) ^ k) = ((2 ^ k : Nat) : Int) := by
    have e : (2 : Int) ^ k = ((2 ^ k : Nat) : Int) := by simp
    rw [e]
    have h9 : ∀ K : Nat, K ≤ 256 → wrap64 (K : Int) = K := fun K h => by unfold wrap64; omega
    exact h9 _ hk2
  have ZW := Lib.hid zw
  have HL := Lib.hid hl
  have HU := Lib.hid hu
  have HV := Lib.hid hv
  have zn : IntKind.i64.wrap (n + 1) = n + 1 := IntWalk.i64_in _ (by omega)
  have hkI : (k : Int) ≤ 8 := by omega
  have hkI0 : (0 : Int) ≤ (k : Int) := by omega
  clear hl hu hv zw hk2
  obtain ⟨o_x, o_r, hbw⟩ := new2 w [.bool nx, .string sx, .string tx] [.bool false, .string ⟨#[]⟩, .string ⟨#[]⟩, .bool false, .string ⟨#[]⟩, .string ⟨#[]⟩] 26 37
  go_enter Try.func20, Try.ntmps20
  go_upto_region 1 with (fail)
  generalize ((w.alloc (.cells #[.bool nx, .string sx, .string tx] 26)).alloc (.cells #[.bool false, .string ⟨#[]⟩, .string ⟨#[]⟩, .bool false, .string ⟨#[]⟩, .string ⟨#[]⟩] 37)) = wb at o_x o_r hbw ⊢
  have qx_0 : wb.cell? ⟨w.heap.size, 0, none⟩ = some (.bool nx) := o_x.cell 0
  have qx_1 : wb.cell? ⟨w.heap.size, 1, none⟩ = some (.string sx) := o_x.cell 1
  have qx_2 : wb.cell? ⟨w.heap.size, 2, none⟩ = some (.string tx) := o_x.cell 2
  go_wp2_with fail
  clear qx_0 qx_1 qx_2
  refine (HL.out _).mono ?_
  rintro e w1 ⟨rfl, hb1⟩
  replace o_x := o_x.below hb1 o_x.lt
  replace o_r := o_r.below hb1 o_r.lt
  replace hbw := below6 hbw hb1
  clear hb1
  go_wp2_with fail
  rw [ZW.out]
  refine (HU.out _).mono ?_
  rintro e w2 ⟨rfl, hb2⟩
  replace o_x := o_x.below hb2 o_x.lt
  replace o_r := o_r.below hb2 o_r.lt
  replace hbw := below6 hbw hb2
  clear hb2
  obtain ⟨o_u, hz3⟩ := new1 w2 [.bool nu, .string su, .string tu] 26
  replace o_x := o_x.alloc (.cells #[.bool nu, .string su, .string tu] 26)
  replace o_r := o_r.alloc (.cells #[.bool nu, .string su, .string tu] 26)
  replace hbw := below6 hbw hz3
  clear hz3
  go_wp2_with fail
  generalize (w2.alloc (.cells #[.bool nu, .string su, .string tu] 26)) = wa4 at o_x o_r o_u hbw ⊢
  generalize w2.heap.size = g4 at o_u ⊢
  rw [ZW.out]
  refine (HV.out _).mono ?_
  rintro e w5 ⟨rfl, hb5⟩
  replace o_x := o_x.below hb5 o_x.lt
  replace o_r := o_r.below hb5 o_r.lt
  replace o_u := o_u.below hb5 o_u.lt
  replace hbw := below6 hbw hb5
  clear hb5
  have lt_x := o_x.lt
  have lt_r := o_r.lt
  have lt_u := o_u.lt
  have lt_w := hbw.size
  obtain ⟨o_v, hz6⟩ := new1 w5 [.bool nv, .string sv, .string tv] 26
  replace o_x := o_x.alloc (.cells #[.bool nv, .string sv, .string tv] 26)
  replace o_r := o_r.alloc (.cells #[.bool nv, .string sv, .string tv] 26)
  replace o_u := o_u.alloc (.cells #[.bool nv, .string sv, .string tv] 26)
  replace hbw := below6 hbw hz6
  clear hz6
  have qu_0 : (w5.alloc (.cells #[.bool nv, .string sv, .string tv] 26)).cell? ⟨g4, 0, none⟩ = some (.bool nu) := o_u.cell 0
  have qu_1 : (w5.alloc (.cells #[.bool nv, .string sv, .string tv] 26)).cell? ⟨g4, 1, none⟩ = some (.string su) := o_u.cell 1
  have qu_2 : (w5.alloc (.cells #[.bool nv, .string sv, .string tv] 26)).cell? ⟨g4, 2, none⟩ = some (.string tu) := o_u.cell 2
  have qv_0 : (w5.alloc (.cells #[.bool nv, .string sv, .string tv] 26)).cell? ⟨w5.heap.size, 0, none⟩ = some (.bool nv) := o_v.cell 0
  have qv_1 : (w5.alloc (.cells #[.bool nv, .string sv, .string tv] 26)).cell? ⟨w5.heap.size, 1, none⟩ = some (.string sv) := o_v.cell 1
  have qv_2 : (w5.alloc (.cells #[.bool nv, .string sv, .string tv] 26)).cell? ⟨w5.heap.size, 2, none⟩ = some (.string tv) := o_v.cell 2
  have fv_0 := o_v.frozen 0
  have fv_1 := o_v.frozen 1
  have fv_2 := o_v.frozen 2
  go_upto_region 7 with (fail)
  generalize (w5.alloc (.cells #[.bool nv, .string sv, .string tv] 26)) = wa7 at o_x o_r o_u o_v hbw ⊢
  generalize w5.heap.size = g7 at o_v lt_x lt_r lt_u lt_w ⊢
  clear qu_0 qu_1 qu_2 qv_0 qv_1 qv_2 fv_0 fv_1 fv_2
  have qu_0 : wa7.cell? ⟨g4, 0, none⟩ = some (.bool nu) := o_u.cell 0
  have qu_1 : wa7.cell? ⟨g4, 1, none⟩ = some (.string su) := o_u.cell 1
  have qu_2 : wa7.cell? ⟨g4, 2, none⟩ = some (.string tu) := o_u.cell 2
  have qv_0 : wa7.cell? ⟨g7, 0, none⟩ = some (.bool nv) := o_v.cell 0
  have qv_1 : wa7.cell? ⟨g7, 1, none⟩ = some (.string sv) := o_v.cell 1
  have qv_2 : wa7.cell? ⟨g7, 2, none⟩ = some (.string tv) := o_v.cell 2
  have fv_0 := o_v.frozen 0
  have fv_1 := o_v.frozen 1
  have fv_2 := o_v.frozen 2
  have o2_v := o_v.set3 (.bool nu) (.string su) (.string tu)
  have o2_x := o_x.far3 (b := g7) (by omega) (.bool nu) (.string su) (.string tu)
  have o2_r := o_r.far3 (b := g7) (by omega) (.bool nu) (.string su) (.string tu)
  have o2_u := o_u.far3 (b := g7) (by omega) (.bool nu) (.string su) (.string tu)
  have hbw2 := Below.set3 hbw (g := g7) (by omega) (.bool nu) (.string su) (.string tu)
  clear o_x o_r o_u o_v hbw
  go_upto_region 8 with (fail)
  clear qu_0 qu_1 qu_2 qv_0 qv_1 qv_2 fv_0 fv_1 fv_2
  generalize (((wa7.setCell ⟨g7, 0, none⟩ (.bool nu)).setCell ⟨g7, 1, none⟩ (.string su)).setCell ⟨g7, 2, none⟩ (.string tu)) = wsw at o2_x o2_r o2_u o2_v hbw2 ⊢
  have o_x := o2_x
  have o_r := o2_r
  have o_u := o2_u
  have o_v := o2_v
  have hbw := hbw2
  clear o2_x o2_r o2_u o2_v hbw2
  have qu_0 : wsw.cell? ⟨g4, 0, none⟩ = some (.bool nu) := o_u.cell 0
  have qu_1 : wsw.cell? ⟨g4, 1, none⟩ = some (.string su) := o_u.cell 1
  have qu_2 : wsw.cell? ⟨g4, 2, none⟩ = some (.string tu) := o_u.cell 2
  have qv_0 : wsw.cell? ⟨g7, 0, none⟩ = some (.bool nu) := o_v.cell 0
  have qv_1 : wsw.cell? ⟨g7, 1, none⟩ = some (.string su) := o_v.cell 1
  have qv_2 : wsw.cell? ⟨g7, 2, none⟩ = some (.string tu) := o_v.cell 2
  have qr_0 : wsw.cell? ⟨w.heap.size + 1, 0, none⟩ = some (.bool false) := o_r.cell 0
  have qr_1 : wsw.cell? ⟨w.heap.size + 1, 1, none⟩ = some (.string ⟨#[]⟩) := o_r.cell 1
  have qr_2 : wsw.cell? ⟨w.heap.size + 1, 2, none⟩ = some (.string ⟨#[]⟩) := o_r.cell 2
  have qr_3 : wsw.cell? ⟨w.heap.size + 1, 3, none⟩ = some (.bool false) := o_r.cell 3
  have qr_4 : wsw.cell? ⟨w.heap.size + 1, 4, none⟩ = some (.string ⟨#[]⟩) := o_r.cell 4
  have qr_5 : wsw.cell? ⟨w.heap.size + 1, 5, none⟩ = some (.string ⟨#[]⟩) := o_r.cell 5
  have fr_0 := o_r.frozen 0
  have fr_1 := o_r.frozen 1
  have fr_2 := o_r.frozen 2
  have fr_3 := o_r.frozen 3
  have fr_4 := o_r.frozen 4
  have fr_5 := o_r.frozen 5
  have oz := o_r.set6 (.bool nu) (.string su) (.string tu) (.bool nu) (.string su) (.string tu)
  have sz9 := Below.set6 hbw (g := w.heap.size + 1) (by omega) (.bool nu) (.string su) (.string tu) (.bool nu) (.string su) (.string tu)
  go_wp2_with fail
  generalize ((((((wsw.setCell ⟨w.heap.size + 1, 0, none⟩ (.bool nu)).setCell ⟨w.heap.size + 1, 1, none⟩ (.string su)).setCell ⟨w.heap.size + 1, 2, none⟩ (.string tu)).setCell ⟨w.heap.size + 1, 3, none⟩ (.bool nu)).setCell ⟨w.heap.size + 1, 4, none⟩ (.string su)).setCell ⟨w.heap.size + 1, 5, none⟩ (.string tu)) = wz at oz sz9 ⊢
  have z0 : wz.cell? ⟨w.heap.size + 1, 0, none⟩ = some (.bool nu) := oz.cell 0
  have z1 : wz.cell? ⟨w.heap.size + 1, 1, none⟩ = some (.string su) := oz.cell 1
  have z2 : wz.cell? ⟨w.heap.size + 1, 2, none⟩ = some (.string tu) := oz.cell 2
  have z3 : wz.cell? ⟨w.heap.size + 1, 3, none⟩ = some (.bool nu) := oz.cell 3
  have z4 : wz.cell? ⟨w.heap.size + 1, 4, none⟩ = some (.string su) := oz.cell 4
  have z5 : wz.cell? ⟨w.heap.size + 1, 5, none⟩ = some (.string tu) := oz.cell 5
  exact bodyPost_ret (v := .tuple #[.agg #[.bool nu, .string su, .string tu, .bool nu, .string su, .string tu], .int .i64 0]) (by simp [results, Try.results20, go_sem, z0, z1, z2, z3, z4, z5]) rfl ⟨rfl, sz9⟩
set_option maxRecDepth 100000 in
set_option maxHeartbeats 4000000 in
theorem bitsr_open (nx : Bool) (sx tx : ByteArray) (nu : Bool) (su tu : ByteArray) (nv : Bool) (sv tv : ByteArray) (n : Int) (k : Nat) (h1 : -1000000 ≤ n) (h2 : n ≤ 1000000) (hk : k ≤ 8) (hl : RetV 18 #[.agg #[.bool nx, .string sx, .string tx], .int .i64 (k : Int)] (.tuple #[.int .i64 n, .bool false, .int .i64 0]))
    (hu : RetV 53 #[.int .i64 n, .int .i64 ((2 ^ k : Nat) : Int)] (.tuple #[.agg #[.bool nu, .string su, .string tu], .int .i64 0])) (hv : RetV 53 #[.int .i64 (n + 1), .int .i64 ((2 ^ k : Nat) : Int)] (.tuple #[.agg #[.bool nv, .string sv, .string tv], .int .i64 0])) :
    RetV 20 #[.agg #[.bool nx, .string sx, .string tx], .int .i64 (k : Int)] (.tuple #[.agg #[.bool nu, .string su, .string tu, .bool nv, .string sv, .string tv], .int .i64 0]) := by
  intro w
  have hk2 : 2 ^ k ≤ 256 := Nat.le_trans (Nat.pow_le_pow_right (by decide) hk) (by decide)
  have zw : wrap64 ((2 : Int) ^ k) = ((2 ^ k : Nat) : Int) := by
    have e : (2 : Int) ^ k = ((2 ^ k : Nat) : Int) := by simp
    rw [e]
    have h9 : ∀ K : Nat, K ≤ 256 → wrap64 (K : Int) = K := fun K h => by unfold wrap64; omega
    exact h9 _ hk2
  have ZW := Lib.hid zw
  have HL := Lib.hid hl
  have HU := Lib.hid hu
  have HV := Lib.hid hv
  have zn : IntKind.i64.wrap (n + 1) = n + 1 := IntWalk.i64_in _ (by omega)
  have hkI : (k : Int) ≤ 8 := by omega
  have hkI0 : (0 : Int) ≤ (k : Int) := by omega
  clear hl hu hv zw hk2
  obtain ⟨o_x, o_r, hbw⟩ := new2 w [.bool nx, .string sx, .string tx] [.bool false, .string ⟨#[]⟩, .string ⟨#[]⟩, .bool false, .string ⟨#[]⟩, .string ⟨#[]⟩] 26 37
  go_enter Try.func20, Try.ntmps20
  go_upto_region 1 with (fail)
  generalize ((w.alloc (.cells #[.bool nx, .string sx, .string tx] 26)).alloc (.cells #[.bool false, .string ⟨#[]⟩, .string ⟨#[]⟩, .bool false, .string ⟨#[]⟩, .string ⟨#[]⟩] 37)) = wb at o_x o_r hbw ⊢
  have qx_0 : wb.cell? ⟨w.heap.size, 0, none⟩ = some (.bool nx) := o_x.cell 0
  have qx_1 : wb.cell? ⟨w.heap.size, 1, none⟩ = some (.string sx) := o_x.cell 1
  have qx_2 : wb.cell? ⟨w.heap.size, 2, none⟩ = some (.string tx) := o_x.cell 2
  go_wp2_with fail
  clear qx_0 qx_1 qx_2
  refine (HL.out _).mono ?_
  rintro e w1 ⟨rfl, hb1⟩
  replace o_x := o_x.below hb1 o_x.lt
  replace o_r := o_r.below hb1 o_r.lt
  replace hbw := below6 hbw hb1
  clear hb1
  go_wp2_with fail
  rw [ZW.out]
  refine (HU.out _).mono ?_
  rintro e w2 ⟨rfl, hb2⟩
  replace o_x := o_x.below hb2 o_x.lt
  replace o_r := o_r.below hb2 o_r.lt
  replace hbw := below6 hbw hb2
  clear hb2
  obtain ⟨o_u, hz3⟩ := new1 w2 [.bool nu, .string su, .string tu] 26
  replace o_x := o_x.alloc (.cells #[.bool nu, .string su, .string tu] 26)
  replace o_r := o_r.alloc (.cells #[.bool nu, .string su, .string tu] 26)
  replace hbw := below6 hbw hz3
  clear hz3
  go_wp2_with fail
  generalize (w2.alloc (.cells #[.bool nu, .string su, .string tu] 26)) = wa4 at o_x o_r o_u hbw ⊢
  generalize w2.heap.size = g4 at o_u ⊢
  rw [ZW.out]
  refine (HV.out _).mono ?_
  rintro e w5 ⟨rfl, hb5⟩
  replace o_x := o_x.below hb5 o_x.lt
  replace o_r := o_r.below hb5 o_r.lt
  replace o_u := o_u.below hb5 o_u.lt
  replace hbw := below6 hbw hb5
  clear hb5
  obtain ⟨o_v, hz6⟩ := new1 w5 [.bool nv, .string sv, .string tv] 26
  replace o_x := o_x.alloc (.cells #[.bool nv, .string sv, .string tv] 26)
  replace o_r := o_r.alloc (.cells #[.bool nv, .string sv, .string tv] 26)
  replace o_u := o_u.alloc (.cells #[.bool nv, .string sv, .string tv] 26)
  replace hbw := below6 hbw hz6
  clear hz6
  have qu_0 : (w5.alloc (.cells #[.bool nv, .string sv, .string tv] 26)).cell? ⟨g4, 0, none⟩ = some (.bool nu) := o_u.cell 0
  have qu_1 : (w5.alloc (.cells #[.bool nv, .string sv, .string tv] 26)).cell? ⟨g4, 1, none⟩ = some (.string su) := o_u.cell 1
  have qu_2 : (w5.alloc (.cells #[.bool nv, .string sv, .string tv] 26)).cell? ⟨g4, 2, none⟩ = some (.string tu) := o_u.cell 2
  have qv_0 : (w5.alloc (.cells #[.bool nv, .string sv, .string tv] 26)).cell? ⟨w5.heap.size, 0, none⟩ = some (.bool nv) := o_v.cell 0
  have qv_1 : (w5.alloc (.cells #[.bool nv, .string sv, .string tv] 26)).cell? ⟨w5.heap.size, 1, none⟩ = some (.string sv) := o_v.cell 1
  have qv_2 : (w5.alloc (.cells #[.bool nv, .string sv, .string tv] 26)).cell? ⟨w5.heap.size, 2, none⟩ = some (.string tv) := o_v.cell 2
  have qr_0 : (w5.alloc (.cells #[.bool nv, .string sv, .string tv] 26)).cell? ⟨w.heap.size + 1, 0, none⟩ = some (.bool false) := o_r.cell 0
  have qr_1 : (w5.alloc (.cells #[.bool nv, .string sv, .string tv] 26)).cell? ⟨w.heap.size + 1, 1, none⟩ = some (.string ⟨#[]⟩) := o_r.cell 1
  have qr_2 : (w5.alloc (.cells #[.bool nv, .string sv, .string tv] 26)).cell? ⟨w.heap.size + 1, 2, none⟩ = some (.string ⟨#[]⟩) := o_r.cell 2
  have qr_3 : (w5.alloc (.cells #[.bool nv, .string sv, .string tv] 26)).cell? ⟨w.heap.size + 1, 3, none⟩ = some (.bool false) := o_r.cell 3
  have qr_4 : (w5.alloc (.cells #[.bool nv, .string sv, .string tv] 26)).cell? ⟨w.heap.size + 1, 4, none⟩ = some (.string ⟨#[]⟩) := o_r.cell 4
  have qr_5 : (w5.alloc (.cells #[.bool nv, .string sv, .string tv] 26)).cell? ⟨w.heap.size + 1, 5, none⟩ = some (.string ⟨#[]⟩) := o_r.cell 5
  have fr_0 := o_r.frozen 0
  have fr_1 := o_r.frozen 1
  have fr_2 := o_r.frozen 2
  have fr_3 := o_r.frozen 3
  have fr_4 := o_r.frozen 4
  have fr_5 := o_r.frozen 5
  have oz := o_r.set6 (.bool nu) (.string su) (.string tu) (.bool nv) (.string sv) (.string tv)
  have sz9 := Below.set6 hbw (g := w.heap.size + 1) (by omega) (.bool nu) (.string su) (.string tu) (.bool nv) (.string sv) (.string tv)
  go_wp2_with fail
  generalize (((((((w5.alloc (.cells #[.bool nv, .string sv, .string tv] 26)).setCell ⟨w.heap.size + 1, 0, none⟩ (.bool nu)).setCell ⟨w.heap.size + 1, 1, none⟩ (.string su)).setCell ⟨w.heap.size + 1, 2, none⟩ (.string tu)).setCell ⟨w.heap.size + 1, 3, none⟩ (.bool nv)).setCell ⟨w.heap.size + 1, 4, none⟩ (.string sv)).setCell ⟨w.heap.size + 1, 5, none⟩ (.string tv)) = wz at oz sz9 ⊢
  have z0 : wz.cell? ⟨w.heap.size + 1, 0, none⟩ = some (.bool nu) := oz.cell 0
  have z1 : wz.cell? ⟨w.heap.size + 1, 1, none⟩ = some (.string su) := oz.cell 1
  have z2 : wz.cell? ⟨w.heap.size + 1, 2, none⟩ = some (.string tu) := oz.cell 2
  have z3 : wz.cell? ⟨w.heap.size + 1, 3, none⟩ = some (.bool nv) := oz.cell 3
  have z4 : wz.cell? ⟨w.heap.size + 1, 4, none⟩ = some (.string sv) := oz.cell 4
  have z5 : wz.cell? ⟨w.heap.size + 1, 5, none⟩ = some (.string tv) := oz.cell 5
  exact bodyPost_ret (v := .tuple #[.agg #[.bool nu, .string su, .string tu, .bool nv, .string sv, .string tv], .int .i64 0]) (by simp [results, Try.results20, go_sem, z0, z1, z2, z3, z4, z5]) rfl ⟨rfl, sz9⟩
/-- The same interval out of the reference. -/
theorem maker_uq (n : Int) (k : Nat) (h1 : -2000000 ≤ n) (h2 : n ≤ 2000000) (hk : k ≤ 8) : RetV 53 #[.int .i64 n, .int .i64 ((2 ^ k : Nat) : Int)] (.tuple #[RV (uq n k), .int .i64 0]) := by
  intro w
  have hk2 : 2 ^ k ≤ 256 := Nat.le_trans (Nat.pow_le_pow_right (by decide) hk) (by decide)
  have h2p : 0 < 2 ^ k := Nat.pow_pos (by decide)
  have hfew := uq_few h1 h2 hk
  refine (maker_any n ((2 ^ k : Nat) : Int) w (by omega) (by omega) (by omega) (by omega) (by omega)).mono ?_
  rintro e w' ⟨hl, hb⟩
  have e1 : decide (((2 ^ k : Nat) : Int) < 0) = false := decide_eq_false (by omega)
  have e2 : (((2 ^ k : Nat) : Int)).natAbs = 2 ^ k := Int.natAbs_natCast _
  rw [e1, e2, Bool.bne_false] at hl
  exact ⟨hl.ok (hfew.ok (by decide)), hb⟩
theorem rbits_yes {x : Rat} {k : Nat} (hx : Few 70 x) (h0 : 0 < x) (hk : k ≤ 8) {n : Int} (hn : IsLog (x ^ (2 ^ k)) n) (h1 : -1000000 ≤ n) (h2 : n ≤ 1000000) :
    RetV 18 #[RV x, .int .i64 (k : Int)] (.tuple #[.int .i64 n, .bool (decide (p2 n = x ^ (2 ^ k))), .int .i64 0]) ∧
    RetV 20 #[RV x, .int .i64 (k : Int)] (.tuple #[IV (uq n k) (if p2 n = x ^ (2 ^ k) then uq n k else uq (n + 1) k), .int .i64 0]) := by
  have hl : RetV 18 #[RV x, .int .i64 (k : Int)] (.tuple #[.int .i64 n, .bool (decide (p2 n = x ^ (2 ^ k))), .int .i64 0]) := fun w =>
    (rlog_yes hx h0 hk w).mono fun e w' ⟨he, hb⟩ => ⟨he.eq ⟨n, rfl, hn, h1, h2⟩, hb⟩
  refine ⟨hl, ?_⟩
  by_cases he : p2 n = x ^ (2 ^ k)
  · rw [if_pos he]
    have e : decide (p2 n = x ^ (2 ^ k)) = true := decide_eq_true he
    rw [e] at hl
    exact bitsr_exact _ _ _ _ _ _ _ _ _ n k h1 h2 hk hl (maker_uq n k (by omega) (by omega) hk) (maker_uq (n + 1) k (by omega) (by omega) hk)
  · rw [if_neg he]
    have e : decide (p2 n = x ^ (2 ^ k)) = false := decide_eq_false he
    rw [e] at hl
    exact bitsr_open _ _ _ _ _ _ _ _ _ n k h1 h2 hk hl (maker_uq n k (by omega) (by omega) hk) (maker_uq (n + 1) k (by omega) (by omega) hk)
end Go.Proofs.Ytdjkgjpehneejaa
