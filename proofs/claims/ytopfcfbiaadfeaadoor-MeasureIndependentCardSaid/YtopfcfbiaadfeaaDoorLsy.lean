/- Chapter 38: law MeasureSymmetric. -/
import Derived.Test.YtopfcfbiaadfeaaDoorLl
import Derived.Test.YtopfcfbiaadfeaaDoorLq
import Derived.Test.YtopfcfbiaadfeaaDoorMw
namespace Go.Proofs.YtopfcfbiaadfeaaDoor
set_option linter.unusedSimpArgs false
set_option linter.unusedVariables false
set_option linter.unusedSectionVars false
open Go.RowKit Dg

theorem VC.swap {a p q n : Nat} (h : VC a p q n) : VC a q p n := by
  have h1 := h.pn; have h2 := h.qn; have h3 := h.n2; have h4 := h.ap; have h5 := h.aq; have h6 := h.pq; have h7 := h.n1
  constructor <;> omega
theorem s0 : S 0 = ⟨#[48]⟩ := by decide
theorem rv0 : RV 0 = .agg #[.bool false, .string ⟨#[48]⟩, .string ⟨#[49]⟩] := by
  rw [rv_any (x := 0) (n := 0) (d := 1) (by decide) (by decide), show (0 : Int).natAbs = 0 from rfl, s0, s1]; rfl
theorem sym_facts {a p q n : Nat} (hv : VC a p q n) (w0 : World) : ∃ (nz : Bool) (sz tz : ByteArray) (kz : Int) (nx : Bool) (sx tx : ByteArray) (kx : Int) (nu : Bool) (su tu : ByteArray) (nv : Bool) (sv tv : ByteArray) (z : Int),
    (∀ e, QRes (prodN [n, ((n : Int) * (a : Int) - (p : Int) * (q : Int)).natAbs, ((n : Int) * (a : Int) - (p : Int) * (q : Int)).natAbs]) (prodN [p, n - p, q, n - q]) e → e = .returned (.tuple #[.agg #[.bool nz, .string sz, .string tz], .int .i64 kz])) ∧ (∀ e, QRes (prodN [n, ((n : Int) * (a : Int) - (q : Int) * (p : Int)).natAbs, ((n : Int) * (a : Int) - (q : Int) * (p : Int)).natAbs]) (prodN [q, n - q, p, n - p]) e → e = .returned (.tuple #[.agg #[.bool nz, .string sz, .string tz], .int .i64 kz])) ∧
    (∀ e, QRes (prodN [2, a]) (prodN [p + q]) e → e = .returned (.tuple #[.agg #[.bool nx, .string sx, .string tx], .int .i64 kx])) ∧ (∀ e, QRes (prodN [2, a]) (prodN [q + p]) e → e = .returned (.tuple #[.agg #[.bool nx, .string sx, .string tx], .int .i64 kx])) ∧
    (∀ w, Tab w → Calls Tryd.prog 17 #[.agg #[.int .i64 (a : Int), .int .i64 (p : Int), .int .i64 (q : Int), .int .i64 (n : Int)], .int .i64 3] w fun e w' => e = .returned (.tuple #[.agg #[.bool nu, .string su, .string tu, .bool nv, .string sv, .string tv], .int .i64 0]) ∧ Below w.heap.size w w') ∧
    RetV 13 #[.agg #[.bool nv, .string sv, .string tv], .agg #[.bool false, .string ⟨#[48]⟩, .string ⟨#[49]⟩]] (.int .i64 z) ∧ 0 ≤ z := by
  obtain ⟨nz, sz, tz, kz, g1, -⟩ := qres_one (prodN [n, ((n : Int) * (a : Int) - (p : Int) * (q : Int)).natAbs, ((n : Int) * (a : Int) - (p : Int) * (q : Int)).natAbs]) (prodN [p, n - p, q, n - q])
  obtain ⟨nx, sx, tx, kx, g2, -⟩ := qres_one (prodN [2, a]) (prodN [p + q])
  obtain ⟨e, h1, h2⟩ := ll_yes (k := 3) hv (by decide) w0
  obtain ⟨-, f2, -⟩ := fsum_ok a p q n 3 hv (by decide) e (fun j => by
    rcases Nat.eq_zero_or_pos (fo a p q n j) with h | h
    · exact .inl h
    · exact .inr (h1 j h).2) 4
  have hp := fhi_pos (k := 3) hv e (fun i h => (h1 i h).1)
  have e1 : prodN [n, ((n : Int) * (a : Int) - (q : Int) * (p : Int)).natAbs, ((n : Int) * (a : Int) - (q : Int) * (p : Int)).natAbs] = prodN [n, ((n : Int) * (a : Int) - (p : Int) * (q : Int)).natAbs, ((n : Int) * (a : Int) - (p : Int) * (q : Int)).natAbs] := by rw [Int.mul_comm (q : Int) (p : Int)]
  have e2 : prodN [q, n - q, p, n - p] = prodN [p, n - p, q, n - q] := by
    simp only [prodN, Nat.mul_one]
    generalize n - q = u
    generalize n - p = v
    grind
  have e3 : prodN [q + p] = prodN [p + q] := by rw [Nat.add_comm]
  refine ⟨nz, sz, tz, kz, nx, sx, tx, kx, _, _, _, _, _, _, cmpR (fhi a p q n 3 e 4) 0, g1, ?_, g2, ?_, h2, ?_, ?_⟩
  · rw [e1, e2]; exact g1
  · rw [e3]; exact g2
  · rw [← rv0]
    exact fun w => rcmp_yes (f2.ok (by decide)) ⟨by unfold OkN; decide, by unfold OkN; decide⟩ w
  · rcases Int.lt_or_le (cmpR (fhi a p q n 3 e 4) 0) 0 with h | h
    · exact absurd (cmpR_lt.1 h) (Rat.not_lt.2 hp)
    · exact h
set_option maxRecDepth 100000 in
set_option maxHeartbeats 4000000 in
theorem symmetric_any (A : Option Addr) (l : List Int) (c : Nat) (w : World) (hA : Ints w A l) (hl : l.length ≤ c) (hc : c ≤ maxLen) (hwf : ∀ x ∈ l, -9223372036854775808 ≤ x ∧ x ≤ 9223372036854775807) (ht : Tab w) :
    Calls Tryd.prog 4 #[.slice A l.length c] w fun e w' => e = .returned (.bool true) ∧ Below w.heap.size w w' := by
  have T0 := Lib.hid ht
  clear ht
  go_enter Tryd.func4, Tryd.ntmps4
  go_wp2_with fail
  refine (new_any A l c w hA hl hc hwf).mono ?_
  rintro e w1 ⟨rfl, ⟨l', hT⟩, hb1⟩
  go_wp2_with fail
  refine (cells_any w.heap.size A l' c 0 _ hT).mono ?_
  rintro e w2 ⟨a, p, q, n, hm, rfl, hcg⟩
  have hbw : Below w.heap.size w w2 := hb1.trans (hcg.below (B := w.heap.size) (fun k hk e => by omega) hb1.size)
  clear hT hcg hb1 hA hl hc hwf
  obtain ⟨nz, sz, tz, kz, nx, sx, tx, kx, nu, su, tu, nv, sv, tv, z, H1, H2, H3, H4, HL, HC, hz⟩ := sym_facts hm.1 w
  replace H1 := Lib.hid H1
  replace H2 := Lib.hid H2
  replace H3 := Lib.hid H3
  replace H4 := Lib.hid H4
  replace HL := Lib.hid HL
  replace HC := Lib.hid HC
  have t1 : decide (z ≥ 0) = true := decide_eq_true hz
  have t2 : decide (0 ≤ z) = true := decide_eq_true hz
  have HV := Lib.hid hm.1
  clear hm hz
  obtain ⟨o_c, hz1⟩ := new1 w2 [.int .i64 (a : Int), .int .i64 (p : Int), .int .i64 (q : Int), .int .i64 (n : Int)] 24
  replace hbw := below6 hbw hz1
  clear hz1
  go_upto_region 2 with (fail)
  generalize (w2.alloc (.cells #[.int .i64 (a : Int), .int .i64 (p : Int), .int .i64 (q : Int), .int .i64 (n : Int)] 24)) = wa2 at o_c hbw ⊢
  generalize w2.heap.size = g2 at o_c ⊢
  have qc_0 : wa2.cell? ⟨g2, 0, none⟩ = some (.int .i64 (a : Int)) := o_c.cell 0
  have qc_1 : wa2.cell? ⟨g2, 1, none⟩ = some (.int .i64 (p : Int)) := o_c.cell 1
  have qc_2 : wa2.cell? ⟨g2, 2, none⟩ = some (.int .i64 (q : Int)) := o_c.cell 2
  have qc_3 : wa2.cell? ⟨g2, 3, none⟩ = some (.int .i64 (n : Int)) := o_c.cell 3
  obtain ⟨o_d, hz3⟩ := new1 wa2 [.int .i64 (a : Int), .int .i64 (q : Int), .int .i64 (p : Int), .int .i64 (n : Int)] 24
  replace o_c := o_c.alloc (.cells #[.int .i64 (a : Int), .int .i64 (q : Int), .int .i64 (p : Int), .int .i64 (n : Int)] 24)
  replace hbw := below6 hbw hz3
  clear hz3
  go_upto_region 3 with (fail)
  generalize (wa2.alloc (.cells #[.int .i64 (a : Int), .int .i64 (q : Int), .int .i64 (p : Int), .int .i64 (n : Int)] 24)) = wa4 at o_c o_d hbw ⊢
  generalize wa2.heap.size = g4 at o_d ⊢
  have qc_0 : wa4.cell? ⟨g2, 0, none⟩ = some (.int .i64 (a : Int)) := o_c.cell 0
  have qc_1 : wa4.cell? ⟨g2, 1, none⟩ = some (.int .i64 (p : Int)) := o_c.cell 1
  have qc_2 : wa4.cell? ⟨g2, 2, none⟩ = some (.int .i64 (q : Int)) := o_c.cell 2
  have qc_3 : wa4.cell? ⟨g2, 3, none⟩ = some (.int .i64 (n : Int)) := o_c.cell 3
  go_wp2_with fail
  clear qc_0 qc_1 qc_2 qc_3
  refine (chi_yes HV.out _ (T0.out.below hbw)).mono ?_
  rintro e w8 ⟨hq, hb8⟩
  have he := H1.out _ hq
  subst he
  replace o_c := o_c.below hb8 o_c.lt
  replace o_d := o_d.below hb8 o_d.lt
  replace hbw := below6 hbw hb8
  clear hb8 hq
  obtain ⟨wq5, hwq5⟩ : ∃ x : World, x = w8 := ⟨_, rfl⟩
  rw [← hwq5] at o_c o_d hbw ⊢
  clear hwq5 w8
  obtain ⟨o_x, hz6⟩ := new1 wq5 [.bool nz, .string sz, .string tz] 29
  replace o_c := o_c.alloc (.cells #[.bool nz, .string sz, .string tz] 29)
  replace o_d := o_d.alloc (.cells #[.bool nz, .string sz, .string tz] 29)
  replace hbw := below6 hbw hz6
  clear hz6
  have qd_0 : (wq5.alloc (.cells #[.bool nz, .string sz, .string tz] 29)).cell? ⟨g4, 0, none⟩ = some (.int .i64 (a : Int)) := o_d.cell 0
  have qd_1 : (wq5.alloc (.cells #[.bool nz, .string sz, .string tz] 29)).cell? ⟨g4, 1, none⟩ = some (.int .i64 (q : Int)) := o_d.cell 1
  have qd_2 : (wq5.alloc (.cells #[.bool nz, .string sz, .string tz] 29)).cell? ⟨g4, 2, none⟩ = some (.int .i64 (p : Int)) := o_d.cell 2
  have qd_3 : (wq5.alloc (.cells #[.bool nz, .string sz, .string tz] 29)).cell? ⟨g4, 3, none⟩ = some (.int .i64 (n : Int)) := o_d.cell 3
  go_wp2_with fail
  generalize (wq5.alloc (.cells #[.bool nz, .string sz, .string tz] 29)) = wa7 at o_c o_d o_x hbw ⊢
  generalize wq5.heap.size = g7 at o_x ⊢
  clear qd_0 qd_1 qd_2 qd_3
  refine (chi_yes HV.out.swap _ (T0.out.below hbw)).mono ?_
  rintro e w8 ⟨hq, hb8⟩
  have he := H2.out _ hq
  subst he
  replace o_c := o_c.below hb8 o_c.lt
  replace o_d := o_d.below hb8 o_d.lt
  replace o_x := o_x.below hb8 o_x.lt
  replace hbw := below6 hbw hb8
  clear hb8 hq
  obtain ⟨wq8, hwq8⟩ : ∃ x : World, x = w8 := ⟨_, rfl⟩
  rw [← hwq8] at o_c o_d o_x hbw ⊢
  clear hwq8 w8
  obtain ⟨o_y, hz9⟩ := new1 wq8 [.bool nz, .string sz, .string tz] 29
  replace o_c := o_c.alloc (.cells #[.bool nz, .string sz, .string tz] 29)
  replace o_d := o_d.alloc (.cells #[.bool nz, .string sz, .string tz] 29)
  replace o_x := o_x.alloc (.cells #[.bool nz, .string sz, .string tz] 29)
  replace hbw := below6 hbw hz9
  clear hz9
  have qc_0 : (wq8.alloc (.cells #[.bool nz, .string sz, .string tz] 29)).cell? ⟨g2, 0, none⟩ = some (.int .i64 (a : Int)) := o_c.cell 0
  have qc_1 : (wq8.alloc (.cells #[.bool nz, .string sz, .string tz] 29)).cell? ⟨g2, 1, none⟩ = some (.int .i64 (p : Int)) := o_c.cell 1
  have qc_2 : (wq8.alloc (.cells #[.bool nz, .string sz, .string tz] 29)).cell? ⟨g2, 2, none⟩ = some (.int .i64 (q : Int)) := o_c.cell 2
  have qc_3 : (wq8.alloc (.cells #[.bool nz, .string sz, .string tz] 29)).cell? ⟨g2, 3, none⟩ = some (.int .i64 (n : Int)) := o_c.cell 3
  go_wp2_with fail
  generalize (wq8.alloc (.cells #[.bool nz, .string sz, .string tz] 29)) = wa10 at o_c o_d o_x o_y hbw ⊢
  generalize wq8.heap.size = g10 at o_y ⊢
  clear qc_0 qc_1 qc_2 qc_3
  refine (dice_yes HV.out _ (T0.out.below hbw)).mono ?_
  rintro e w8 ⟨hq, hb8⟩
  have he := H3.out _ hq
  subst he
  replace o_c := o_c.below hb8 o_c.lt
  replace o_d := o_d.below hb8 o_d.lt
  replace o_x := o_x.below hb8 o_x.lt
  replace o_y := o_y.below hb8 o_y.lt
  replace hbw := below6 hbw hb8
  clear hb8 hq
  obtain ⟨wq11, hwq11⟩ : ∃ x : World, x = w8 := ⟨_, rfl⟩
  rw [← hwq11] at o_c o_d o_x o_y hbw ⊢
  clear hwq11 w8
  obtain ⟨o_u, hz12⟩ := new1 wq11 [.bool nx, .string sx, .string tx] 29
  replace o_c := o_c.alloc (.cells #[.bool nx, .string sx, .string tx] 29)
  replace o_d := o_d.alloc (.cells #[.bool nx, .string sx, .string tx] 29)
  replace o_x := o_x.alloc (.cells #[.bool nx, .string sx, .string tx] 29)
  replace o_y := o_y.alloc (.cells #[.bool nx, .string sx, .string tx] 29)
  replace hbw := below6 hbw hz12
  clear hz12
  have qd_0 : (wq11.alloc (.cells #[.bool nx, .string sx, .string tx] 29)).cell? ⟨g4, 0, none⟩ = some (.int .i64 (a : Int)) := o_d.cell 0
  have qd_1 : (wq11.alloc (.cells #[.bool nx, .string sx, .string tx] 29)).cell? ⟨g4, 1, none⟩ = some (.int .i64 (q : Int)) := o_d.cell 1
  have qd_2 : (wq11.alloc (.cells #[.bool nx, .string sx, .string tx] 29)).cell? ⟨g4, 2, none⟩ = some (.int .i64 (p : Int)) := o_d.cell 2
  have qd_3 : (wq11.alloc (.cells #[.bool nx, .string sx, .string tx] 29)).cell? ⟨g4, 3, none⟩ = some (.int .i64 (n : Int)) := o_d.cell 3
  go_wp2_with fail
  generalize (wq11.alloc (.cells #[.bool nx, .string sx, .string tx] 29)) = wa13 at o_c o_d o_x o_y o_u hbw ⊢
  generalize wq11.heap.size = g13 at o_u ⊢
  clear qd_0 qd_1 qd_2 qd_3
  refine (dice_yes HV.out.swap _ (T0.out.below hbw)).mono ?_
  rintro e w8 ⟨hq, hb8⟩
  have he := H4.out _ hq
  subst he
  replace o_c := o_c.below hb8 o_c.lt
  replace o_d := o_d.below hb8 o_d.lt
  replace o_x := o_x.below hb8 o_x.lt
  replace o_y := o_y.below hb8 o_y.lt
  replace o_u := o_u.below hb8 o_u.lt
  replace hbw := below6 hbw hb8
  clear hb8 hq
  obtain ⟨wq14, hwq14⟩ : ∃ x : World, x = w8 := ⟨_, rfl⟩
  rw [← hwq14] at o_c o_d o_x o_y o_u hbw ⊢
  clear hwq14 w8
  obtain ⟨o_v, hz15⟩ := new1 wq14 [.bool nx, .string sx, .string tx] 29
  replace o_c := o_c.alloc (.cells #[.bool nx, .string sx, .string tx] 29)
  replace o_d := o_d.alloc (.cells #[.bool nx, .string sx, .string tx] 29)
  replace o_x := o_x.alloc (.cells #[.bool nx, .string sx, .string tx] 29)
  replace o_y := o_y.alloc (.cells #[.bool nx, .string sx, .string tx] 29)
  replace o_u := o_u.alloc (.cells #[.bool nx, .string sx, .string tx] 29)
  replace hbw := below6 hbw hz15
  clear hz15
  have qc_0 : (wq14.alloc (.cells #[.bool nx, .string sx, .string tx] 29)).cell? ⟨g2, 0, none⟩ = some (.int .i64 (a : Int)) := o_c.cell 0
  have qc_1 : (wq14.alloc (.cells #[.bool nx, .string sx, .string tx] 29)).cell? ⟨g2, 1, none⟩ = some (.int .i64 (p : Int)) := o_c.cell 1
  have qc_2 : (wq14.alloc (.cells #[.bool nx, .string sx, .string tx] 29)).cell? ⟨g2, 2, none⟩ = some (.int .i64 (q : Int)) := o_c.cell 2
  have qc_3 : (wq14.alloc (.cells #[.bool nx, .string sx, .string tx] 29)).cell? ⟨g2, 3, none⟩ = some (.int .i64 (n : Int)) := o_c.cell 3
  go_wp2_with fail
  generalize (wq14.alloc (.cells #[.bool nx, .string sx, .string tx] 29)) = wa16 at o_c o_d o_x o_y o_u o_v hbw ⊢
  generalize wq14.heap.size = g16 at o_v ⊢
  clear qc_0 qc_1 qc_2 qc_3
  refine (HL.out _ (T0.out.below hbw)).mono ?_
  rintro e w17 ⟨rfl, hb17⟩
  replace o_c := o_c.below hb17 o_c.lt
  replace o_d := o_d.below hb17 o_d.lt
  replace o_x := o_x.below hb17 o_x.lt
  replace o_y := o_y.below hb17 o_y.lt
  replace o_u := o_u.below hb17 o_u.lt
  replace o_v := o_v.below hb17 o_v.lt
  replace hbw := below6 hbw hb17
  clear hb17
  obtain ⟨o_i, hz18⟩ := new1 w17 [.bool nu, .string su, .string tu, .bool nv, .string sv, .string tv] 37
  replace o_c := o_c.alloc (.cells #[.bool nu, .string su, .string tu, .bool nv, .string sv, .string tv] 37)
  replace o_d := o_d.alloc (.cells #[.bool nu, .string su, .string tu, .bool nv, .string sv, .string tv] 37)
  replace o_x := o_x.alloc (.cells #[.bool nu, .string su, .string tu, .bool nv, .string sv, .string tv] 37)
  replace o_y := o_y.alloc (.cells #[.bool nu, .string su, .string tu, .bool nv, .string sv, .string tv] 37)
  replace o_u := o_u.alloc (.cells #[.bool nu, .string su, .string tu, .bool nv, .string sv, .string tv] 37)
  replace o_v := o_v.alloc (.cells #[.bool nu, .string su, .string tu, .bool nv, .string sv, .string tv] 37)
  replace hbw := below6 hbw hz18
  clear hz18
  go_upto_region 8 with (fail)
  generalize (w17.alloc (.cells #[.bool nu, .string su, .string tu, .bool nv, .string sv, .string tv] 37)) = wa19 at o_c o_d o_x o_y o_u o_v o_i hbw ⊢
  generalize w17.heap.size = g19 at o_i ⊢
  obtain ⟨o_zero, hz20⟩ := new1 wa19 [.bool false, .string ⟨#[48]⟩, .string ⟨#[49]⟩] 29
  replace o_c := o_c.alloc (.cells #[.bool false, .string ⟨#[48]⟩, .string ⟨#[49]⟩] 29)
  replace o_d := o_d.alloc (.cells #[.bool false, .string ⟨#[48]⟩, .string ⟨#[49]⟩] 29)
  replace o_x := o_x.alloc (.cells #[.bool false, .string ⟨#[48]⟩, .string ⟨#[49]⟩] 29)
  replace o_y := o_y.alloc (.cells #[.bool false, .string ⟨#[48]⟩, .string ⟨#[49]⟩] 29)
  replace o_u := o_u.alloc (.cells #[.bool false, .string ⟨#[48]⟩, .string ⟨#[49]⟩] 29)
  replace o_v := o_v.alloc (.cells #[.bool false, .string ⟨#[48]⟩, .string ⟨#[49]⟩] 29)
  replace o_i := o_i.alloc (.cells #[.bool false, .string ⟨#[48]⟩, .string ⟨#[49]⟩] 29)
  replace hbw := below6 hbw hz20
  clear hz20
  go_upto_region 9 with (fail)
  generalize (wa19.alloc (.cells #[.bool false, .string ⟨#[48]⟩, .string ⟨#[49]⟩] 29)) = wa21 at o_c o_d o_x o_y o_u o_v o_i o_zero hbw ⊢
  generalize wa19.heap.size = g21 at o_zero ⊢
  have qx_0 : wa21.cell? ⟨g7, 0, none⟩ = some (.bool nz) := o_x.cell 0
  have qx_1 : wa21.cell? ⟨g7, 1, none⟩ = some (.string sz) := o_x.cell 1
  have qx_2 : wa21.cell? ⟨g7, 2, none⟩ = some (.string tz) := o_x.cell 2
  have qy_0 : wa21.cell? ⟨g10, 0, none⟩ = some (.bool nz) := o_y.cell 0
  have qy_1 : wa21.cell? ⟨g10, 1, none⟩ = some (.string sz) := o_y.cell 1
  have qy_2 : wa21.cell? ⟨g10, 2, none⟩ = some (.string tz) := o_y.cell 2
  have qu_0 : wa21.cell? ⟨g13, 0, none⟩ = some (.bool nx) := o_u.cell 0
  have qu_1 : wa21.cell? ⟨g13, 1, none⟩ = some (.string sx) := o_u.cell 1
  have qu_2 : wa21.cell? ⟨g13, 2, none⟩ = some (.string tx) := o_u.cell 2
  have qv_0 : wa21.cell? ⟨g16, 0, none⟩ = some (.bool nx) := o_v.cell 0
  have qv_1 : wa21.cell? ⟨g16, 1, none⟩ = some (.string sx) := o_v.cell 1
  have qv_2 : wa21.cell? ⟨g16, 2, none⟩ = some (.string tx) := o_v.cell 2
  have qi_0 : wa21.cell? ⟨g19, 0, none⟩ = some (.bool nu) := o_i.cell 0
  have qi_1 : wa21.cell? ⟨g19, 1, none⟩ = some (.string su) := o_i.cell 1
  have qi_2 : wa21.cell? ⟨g19, 2, none⟩ = some (.string tu) := o_i.cell 2
  have qi_3 : wa21.cell? ⟨g19, 3, none⟩ = some (.bool nv) := o_i.cell 3
  have qi_4 : wa21.cell? ⟨g19, 4, none⟩ = some (.string sv) := o_i.cell 4
  have qi_5 : wa21.cell? ⟨g19, 5, none⟩ = some (.string tv) := o_i.cell 5
  have qzero_0 : wa21.cell? ⟨g21, 0, none⟩ = some (.bool false) := o_zero.cell 0
  have qzero_1 : wa21.cell? ⟨g21, 1, none⟩ = some (.string ⟨#[48]⟩) := o_zero.cell 1
  have qzero_2 : wa21.cell? ⟨g21, 2, none⟩ = some (.string ⟨#[49]⟩) := o_zero.cell 2
  go_wp2_with fail
  clear qx_0 qx_1 qx_2 qy_0 qy_1 qy_2 qu_0 qu_1 qu_2 qv_0 qv_1 qv_2 qi_0 qi_1 qi_2 qi_3 qi_4 qi_5 qzero_0 qzero_1 qzero_2
  refine (HC.out _).mono ?_
  rintro e w22 ⟨rfl, hb22⟩
  replace o_c := o_c.below hb22 o_c.lt
  replace o_d := o_d.below hb22 o_d.lt
  replace o_x := o_x.below hb22 o_x.lt
  replace o_y := o_y.below hb22 o_y.lt
  replace o_u := o_u.below hb22 o_u.lt
  replace o_v := o_v.below hb22 o_v.lt
  replace o_i := o_i.below hb22 o_i.lt
  replace o_zero := o_zero.below hb22 o_zero.lt
  replace hbw := below6 hbw hb22
  clear hb22
  go_wp2_with fail
  refine (known38_yes _ (T0.out.below hbw)).mono ?_
  rintro e w23 ⟨rfl, hb23⟩
  replace o_c := o_c.below hb23 o_c.lt
  replace o_d := o_d.below hb23 o_d.lt
  replace o_x := o_x.below hb23 o_x.lt
  replace o_y := o_y.below hb23 o_y.lt
  replace o_u := o_u.below hb23 o_u.lt
  replace o_v := o_v.below hb23 o_v.lt
  replace o_i := o_i.below hb23 o_i.lt
  replace o_zero := o_zero.below hb23 o_zero.lt
  replace hbw := below6 hbw hb23
  clear hb23
  go_wp2
  go_ret
  exact ⟨rfl, hbw⟩
end Go.Proofs.YtopfcfbiaadfeaaDoor
/- Chapter 38: law MeasureIndependent. -/
namespace Go.Proofs.YtopfcfbiaadfeaaDoor
set_option linter.unusedSimpArgs false
set_option linter.unusedVariables false
set_option linter.unusedSectionVars false
open Go.RowKit Dg

set_option maxRecDepth 100000 in
set_option maxHeartbeats 4000000 in
theorem rmvalid_yes {a p q n : Nat} (hv : VC a p q n) : ∀ w, Calls Tryd.prog 19 #[.agg #[.int .i64 (a : Int), .int .i64 (p : Int), .int .i64 (q : Int), .int .i64 (n : Int)]] w fun e w' => e = .returned (.bool true) ∧ Below w.heap.size w w' := by
  intro w
  obtain ⟨o_c, hbw⟩ := new1 w [.int .i64 (a : Int), .int .i64 (p : Int), .int .i64 (q : Int), .int .i64 (n : Int)] 24
  go_enter Tryd.func19, Tryd.ntmps19
  go_upto_region 1 with (fail)
  generalize (w.alloc (.cells #[.int .i64 (a : Int), .int .i64 (p : Int), .int .i64 (q : Int), .int .i64 (n : Int)] 24)) = wb at o_c hbw ⊢
  have t1 : decide ((1 : Int) ≤ (n : Int)) = true := decide_eq_true (by have := hv.n1; omega)
  have t2 : decide ((n : Int) ≤ 2147483648) = true := decide_eq_true (by have := hv.n2; omega)
  have t3 : decide ((p : Int) ≤ (n : Int)) = true := decide_eq_true (by have := hv.pn; omega)
  have t3' : decide (p ≤ n) = true := decide_eq_true hv.pn
  have t4 : decide ((q : Int) ≤ (n : Int)) = true := decide_eq_true (by have := hv.qn; omega)
  have t4' : decide (q ≤ n) = true := decide_eq_true hv.qn
  have z1 : IntKind.i64.wrap ((p : Int) + (q : Int)) = (p : Int) + (q : Int) := IntWalk.i64_in _ (by have := hv.pn; have := hv.qn; have := hv.n2; omega)
  have z2 : IntKind.i64.wrap ((p : Int) + (q : Int) - (n : Int)) = (p : Int) + (q : Int) - (n : Int) := IntWalk.i64_in _ (by have := hv.pn; have := hv.qn; have := hv.n2; omega)
  have t6 : decide ((p : Int) + (q : Int) - (n : Int) ≤ (a : Int)) = true := decide_eq_true (by have := hv.pq; omega)
  have h1 := hv.n1
  have h1' := hv.n2
  have h2 := hv.pn
  have h3 := hv.qn
  have h4 := hv.ap
  have h5 := hv.aq
  have h6 := hv.pq
  clear hv
  have qc_0 : wb.cell? ⟨w.heap.size, 0, none⟩ = some (.int .i64 (a : Int)) := o_c.cell 0
  have qc_1 : wb.cell? ⟨w.heap.size, 1, none⟩ = some (.int .i64 (p : Int)) := o_c.cell 1
  have qc_2 : wb.cell? ⟨w.heap.size, 2, none⟩ = some (.int .i64 (q : Int)) := o_c.cell 2
  have qc_3 : wb.cell? ⟨w.heap.size, 3, none⟩ = some (.int .i64 (n : Int)) := o_c.cell 3
  go_wp2
  go_ret
  exact ⟨ret_bool (by simp <;> omega), hbw⟩
theorem ind_facts {a p q n : Nat} (hv : VC a p q n) (he : a * n = p * q) (ha : 0 < a) (hp : p < n) (hq : q < n) (w0 : World) :
    (∀ e, QRes (prodN [n, ((n : Int) * (a : Int) - (p : Int) * (q : Int)).natAbs, ((n : Int) * (a : Int) - (p : Int) * (q : Int)).natAbs]) (prodN [p, n - p, q, n - q]) e → e = .returned (.tuple #[.agg #[.bool false, .string ⟨#[48]⟩, .string ⟨#[49]⟩], .int .i64 0])) ∧
    (∀ w, Tab w → Calls Tryd.prog 20 #[.agg #[.int .i64 (a : Int), .int .i64 (p : Int), .int .i64 (q : Int), .int .i64 (n : Int)], .int .i64 3] w fun e w' => e = .returned (.tuple #[.agg #[.bool false, .string ⟨#[48]⟩, .string ⟨#[49]⟩, .bool false, .string ⟨#[48]⟩, .string ⟨#[49]⟩], .int .i64 0]) ∧ Below w.heap.size w w') ∧
    (∀ w, Tab w → Calls Tryd.prog 17 #[.agg #[.int .i64 (a : Int), .int .i64 (p : Int), .int .i64 (q : Int), .int .i64 (n : Int)], .int .i64 3] w fun e w' => e = .returned (.tuple #[.agg #[.bool false, .string ⟨#[48]⟩, .string ⟨#[49]⟩, .bool false, .string ⟨#[48]⟩, .string ⟨#[49]⟩], .int .i64 0]) ∧ Below w.heap.size w w') ∧
    RetV 21 #[.agg #[.bool false, .string ⟨#[48]⟩, .string ⟨#[49]⟩, .bool false, .string ⟨#[48]⟩, .string ⟨#[49]⟩], .agg #[.bool false, .string ⟨#[48]⟩, .string ⟨#[49]⟩]] (.bool true) ∧ RetV 22 #[.agg #[.bool false, .string ⟨#[48]⟩, .string ⟨#[49]⟩, .bool false, .string ⟨#[48]⟩, .string ⟨#[49]⟩]] (.bool true) := by
  have hI : IV 0 0 = .agg #[.bool false, .string ⟨#[48]⟩, .string ⟨#[49]⟩, .bool false, .string ⟨#[48]⟩, .string ⟨#[49]⟩] := by
    have h := rv0
    unfold RV at h
    simp only [Value.agg.injEq, Array.mk.injEq, List.cons.injEq, and_true, Value.bool.injEq, Value.string.injEq] at h
    obtain ⟨h1, h2, h3⟩ := h
    unfold IV
    rw [h1, h2, h3]
  have o0 : OkR (0 : Rat) := ⟨by unfold OkN; decide, by unfold OkN; decide⟩
  have hX : ((n : Int) * (a : Int) - (p : Int) * (q : Int)).natAbs = 0 := by
    have h1 : (a : Int) * n = p * q := by exact_mod_cast he
    have h2 := Int.mul_comm (n : Int) a
    omega
  refine ⟨?_, ?_, ?_, ?_, ?_⟩
  · have hP : prodN [n, ((n : Int) * (a : Int) - (p : Int) * (q : Int)).natAbs, ((n : Int) * (a : Int) - (p : Int) * (q : Int)).natAbs] = 0 := by rw [hX]; simp [prodN]
    have hQ : 0 < prodN [p, n - p, q, n - q] := by
      simp only [prodN, Nat.mul_one]
      have h1 := hv.ap; have h2 := hv.aq
      exact Nat.mul_pos (by omega) (Nat.mul_pos (by omega) (Nat.mul_pos (by omega) (by omega)))
    rw [hP]
    have r0 : rat false 0 (prodN [p, n - p, q, n - q]) = 0 := by
      rw [rat_quo]
      have : ((0 : Nat) : Rat) = 0 := rfl
      rw [this, Rat.div_def, Rat.zero_mul]
    intro e h
    have := qres_yes hQ (by rw [r0]; exact o0) e h
    rw [r0, rv0] at this
    exact this
  · obtain ⟨i, h1, -, -, h4⟩ := mi_yes hv (k := 3) (by decide) ha w0
    have hx : rat false (prodN [a, n]) (prodN [p, q]) = 1 := fx_one hv he 0 ha
    rw [hx] at h1 h4
    obtain ⟨-, g2, g3⟩ := one_log h1
    rw [g2, g3, hI] at h4
    exact h4
  · obtain ⟨e, h1, h2⟩ := ll_yes (k := 3) hv (by decide) w0
    obtain ⟨g1, g2⟩ := fsum_zero (k := 3) hv he e (fun i h => (h1 i h).1) 4
    rw [g1, g2, hI] at h2
    exact h2
  · have := econtains_yes o0 o0 o0 Rat.le_refl Rat.le_refl Rat.le_refl
    rw [hI, rv0] at this
    exact this
  · have := rvalid_yes o0 o0
    rw [hI, decide_eq_true Rat.le_refl] at this
    exact this
theorem mod_lit (x : Int) (i : Int) (n : Nat) (hi : i = (n : Int)) (h1 : -9223372036854775808 ≤ x) (h2 : x ≤ 9223372036854775807) (hn : 0 < n) (hn2 : n ≤ 1000000) : ∃ k : Nat, k < n ∧ ∀ w, Calls Tryd.prog 18 #[.int .i64 x, .int .i64 i] w fun e w' => e = .returned (.int .i64 (k : Int)) ∧ w = w' := by
  subst hi
  exact mod_small x n h1 h2 hn hn2
/-- The numbers of the law. -/
theorem ind_nums (x y u v : Nat) (hx : 1 ≤ x) (hx8 : x ≤ 8) (hy : 1 ≤ y) (hy8 : y ≤ 8) (hu : 1 ≤ u) (hu4 : u ≤ 4) (hv : 1 ≤ v) (hv5 : v ≤ 5) : ∃ a p q n s t : Nat, a = x * y ∧ s = y + u ∧ t = x + v ∧ p = x * s ∧ q = y * t ∧ n = t * s ∧ VC a p q n ∧ a * n = p * q ∧ 0 < a ∧ p < n ∧ q < n ∧ n ≤ 200 ∧ s ≤ 12 ∧ t ≤ 13 := by
  refine ⟨_, _, _, _, _, _, rfl, rfl, rfl, rfl, rfl, rfl, ?_⟩
  have e1 : x * (y + u) = x * y + x * u := Nat.mul_add _ _ _
  have e2 : y * (x + v) = x * y + y * v := by rw [Nat.mul_add, Nat.mul_comm y x]
  have e3 : (x + v) * (y + u) = x * y + x * u + (y * v + v * u) := by rw [Nat.add_mul, Nat.mul_add, Nat.mul_add, Nat.mul_comm v y]
  have b1 : x * y ≤ 8 * 8 := Nat.mul_le_mul hx8 hy8
  have b2 : x * u ≤ 8 * 4 := Nat.mul_le_mul hx8 hu4
  have b3 : y * v ≤ 8 * 5 := Nat.mul_le_mul hy8 hv5
  have b4 : v * u ≤ 5 * 4 := Nat.mul_le_mul hv5 hu4
  have c1 : 1 * 1 ≤ x * y := Nat.mul_le_mul hx hy
  have c2 : 1 * 1 ≤ x * u := Nat.mul_le_mul hx hu
  have c3 : 1 * 1 ≤ y * v := Nat.mul_le_mul hy hv
  have c4 : 1 * 1 ≤ v * u := Nat.mul_le_mul hv hu
  have e0 : x * y * ((x + v) * (y + u)) = x * (y + u) * (y * (x + v)) := by grind
  rw [e0, e1, e2, e3]
  refine ⟨?_, rfl, ?_, ?_, ?_, ?_, ?_, ?_⟩
  · constructor <;> omega
  all_goals omega
set_option maxRecDepth 100000 in
set_option maxHeartbeats 4000000 in
theorem independent_any (A B C : Int) (w : World) (hA1 : -9223372036854775808 ≤ A) (hA2 : A ≤ 9223372036854775807) (hB1 : -9223372036854775808 ≤ B) (hB2 : B ≤ 9223372036854775807) (hC1 : -9223372036854775808 ≤ C) (hC2 : C ≤ 9223372036854775807) (ht : Tab w) :
    Calls Tryd.prog 5 #[.int .i64 A, .int .i64 B, .int .i64 C] w fun e w' => e = .returned (.bool true) ∧ Below w.heap.size w w' := by
  have T0 := Lib.hid ht
  clear ht
  have hbw := Below.refl w.heap.size w
  obtain ⟨k1, h1, m1⟩ := mod_lit A 8 8 rfl hA1 hA2 (by decide) (by decide)
  obtain ⟨k2, h2, m2⟩ := mod_lit B 8 8 rfl hB1 hB2 (by decide) (by decide)
  obtain ⟨k3, h3, m3⟩ := mod_lit C 4 4 rfl hC1 hC2 (by decide) (by decide)
  obtain ⟨x, hx⟩ : ∃ x : Nat, x = 1 + k1 := ⟨_, rfl⟩
  obtain ⟨y, hy⟩ : ∃ x : Nat, x = 1 + k2 := ⟨_, rfl⟩
  obtain ⟨u, hu⟩ : ∃ x : Nat, x = 1 + k3 := ⟨_, rfl⟩
  have z1 : IntKind.i64.wrap (1 + (k1 : Int)) = (x : Int) := by rw [IntWalk.i64_in _ (by omega)]; omega
  have z2 : IntKind.i64.wrap (1 + (k2 : Int)) = (y : Int) := by rw [IntWalk.i64_in _ (by omega)]; omega
  have z3 : IntKind.i64.wrap (1 + (k3 : Int)) = (u : Int) := by rw [IntWalk.i64_in _ (by omega)]; omega
  obtain ⟨k4, h4, m4⟩ := mod_lit ((u : Int) * 7 + (x : Int)) 5 5 rfl (by omega) (by omega) (by decide) (by decide)
  obtain ⟨v, hv⟩ : ∃ x : Nat, x = 1 + k4 := ⟨_, rfl⟩
  have z4 : IntKind.i64.wrap ((u : Int) * 7) = (u : Int) * 7 := IntWalk.i64_in _ (by omega)
  have z5 : IntKind.i64.wrap ((u : Int) * 7 + (x : Int)) = (u : Int) * 7 + (x : Int) := IntWalk.i64_in _ (by omega)
  have z6 : IntKind.i64.wrap (1 + (k4 : Int)) = (v : Int) := by rw [IntWalk.i64_in _ (by omega)]; omega
  obtain ⟨a, p, q, n, s, t, ea, es, et, ep, eq, en, hvc, he, ha, hp, hq, hn, hs, ht'⟩ := ind_nums x y u v (by omega) (by omega) (by omega) (by omega) (by omega) (by omega) (by omega) (by omega)
  have i1 : (x : Int) * (y : Int) = (a : Int) := by rw [ea, Int.natCast_mul]
  have i2 : (y : Int) + (u : Int) = (s : Int) := by omega
  have i3 : (x : Int) + (v : Int) = (t : Int) := by omega
  have i4 : (x : Int) * (s : Int) = (p : Int) := by rw [ep, Int.natCast_mul]
  have i5 : (y : Int) * (t : Int) = (q : Int) := by rw [eq, Int.natCast_mul]
  have i6 : (t : Int) * (s : Int) = (n : Int) := by rw [en, Int.natCast_mul]
  have b1 := hvc.ap; have b2 := hvc.aq
  have y1 : IntKind.i64.wrap ((x : Int) * (y : Int)) = (a : Int) := by rw [i1]; exact IntWalk.i64_in _ (by omega)
  have y2 : IntKind.i64.wrap ((y : Int) + (u : Int)) = (s : Int) := by rw [i2]; exact IntWalk.i64_in _ (by omega)
  have y3 : IntKind.i64.wrap ((x : Int) + (v : Int)) = (t : Int) := by rw [i3]; exact IntWalk.i64_in _ (by omega)
  have y4 : IntKind.i64.wrap ((x : Int) * (s : Int)) = (p : Int) := by rw [i4]; exact IntWalk.i64_in _ (by omega)
  have y5 : IntKind.i64.wrap ((y : Int) * (t : Int)) = (q : Int) := by rw [i5]; exact IntWalk.i64_in _ (by omega)
  have y6 : IntKind.i64.wrap ((t : Int) * (s : Int)) = (n : Int) := by rw [i6]; exact IntWalk.i64_in _ (by omega)
  obtain ⟨f1, f2, f3, f4, f5⟩ := ind_facts hvc he ha hp hq w
  have M1 := Lib.hid m1
  have M2 := Lib.hid m2
  have M3 := Lib.hid m3
  have M4 := Lib.hid m4
  have F1 := Lib.hid f1
  have F2 := Lib.hid f2
  have F3 := Lib.hid f3
  have F4 := Lib.hid f4
  have F5 := Lib.hid f5
  have HV := Lib.hid hvc
  clear m1 m2 m3 m4 f1 f2 f3 f4 f5 hvc he ha hp hq hn hs ht' ea es et ep eq en i1 i2 i3 i4 i5 i6 b1 b2 h1 h2 h3 h4 hx hy hu hv hA1 hA2 hB1 hB2 hC1 hC2
  go_enter Tryd.func5, Tryd.ntmps5
  go_wp2_with fail
  refine (M1.out _).mono ?_
  rintro e w1 ⟨rfl, rfl⟩
  go_wp2_with fail
  refine (M2.out _).mono ?_
  rintro e w1 ⟨rfl, rfl⟩
  go_wp2_with fail
  refine (M3.out _).mono ?_
  rintro e w1 ⟨rfl, rfl⟩
  go_wp2_with fail
  refine (M4.out _).mono ?_
  rintro e w1 ⟨rfl, rfl⟩
  clear z1 z2 z3 z4 z5
  go_upto_region 3 with (fail)
  obtain ⟨o_c, hz1⟩ := new1 w [.int .i64 (a : Int), .int .i64 (p : Int), .int .i64 (q : Int), .int .i64 (n : Int)] 24
  replace hbw := below6 hbw hz1
  clear hz1
  go_upto_region 4 with (fail)
  generalize (w.alloc (.cells #[.int .i64 (a : Int), .int .i64 (p : Int), .int .i64 (q : Int), .int .i64 (n : Int)] 24)) = wa2 at o_c hbw ⊢
  generalize w.heap.size = g2 at o_c ⊢
  clear y1 y2 y3 y4 y5 y6 z6 M1 M2 M3 M4
  have qc_0 : wa2.cell? ⟨g2, 0, none⟩ = some (.int .i64 (a : Int)) := o_c.cell 0
  have qc_1 : wa2.cell? ⟨g2, 1, none⟩ = some (.int .i64 (p : Int)) := o_c.cell 1
  have qc_2 : wa2.cell? ⟨g2, 2, none⟩ = some (.int .i64 (q : Int)) := o_c.cell 2
  have qc_3 : wa2.cell? ⟨g2, 3, none⟩ = some (.int .i64 (n : Int)) := o_c.cell 3
  go_wp2_with fail
  clear qc_0 qc_1 qc_2 qc_3
  refine (rmvalid_yes HV.out _).mono ?_
  rintro e w3 ⟨rfl, hb3⟩
  replace o_c := o_c.below hb3 o_c.lt
  replace hbw := below6 hbw hb3
  clear hb3
  go_upto_region 6 with (fail)
  obtain ⟨o_zero, hz4⟩ := new1 w3 [.bool false, .string ⟨#[48]⟩, .string ⟨#[49]⟩] 29
  replace o_c := o_c.alloc (.cells #[.bool false, .string ⟨#[48]⟩, .string ⟨#[49]⟩] 29)
  replace hbw := below6 hbw hz4
  clear hz4
  go_upto_region 7 with (fail)
  generalize (w3.alloc (.cells #[.bool false, .string ⟨#[48]⟩, .string ⟨#[49]⟩] 29)) = wa5 at o_c o_zero hbw ⊢
  generalize w3.heap.size = g5 at o_zero ⊢
  have qc_0 : wa5.cell? ⟨g2, 0, none⟩ = some (.int .i64 (a : Int)) := o_c.cell 0
  have qc_1 : wa5.cell? ⟨g2, 1, none⟩ = some (.int .i64 (p : Int)) := o_c.cell 1
  have qc_2 : wa5.cell? ⟨g2, 2, none⟩ = some (.int .i64 (q : Int)) := o_c.cell 2
  have qc_3 : wa5.cell? ⟨g2, 3, none⟩ = some (.int .i64 (n : Int)) := o_c.cell 3
  go_wp2_with fail
  clear qc_0 qc_1 qc_2 qc_3
  refine (chi_yes HV.out _ (T0.out.below hbw)).mono ?_
  rintro e w8 ⟨hq, hb8⟩
  have he := F1.out _ hq
  subst he
  replace o_c := o_c.below hb8 o_c.lt
  replace o_zero := o_zero.below hb8 o_zero.lt
  replace hbw := below6 hbw hb8
  clear hb8 hq
  obtain ⟨wq6, hwq6⟩ : ∃ x : World, x = w8 := ⟨_, rfl⟩
  rw [← hwq6] at o_c o_zero hbw ⊢
  clear hwq6 w8
  obtain ⟨o_x, hz7⟩ := new1 wq6 [.bool false, .string ⟨#[48]⟩, .string ⟨#[49]⟩] 29
  replace o_c := o_c.alloc (.cells #[.bool false, .string ⟨#[48]⟩, .string ⟨#[49]⟩] 29)
  replace o_zero := o_zero.alloc (.cells #[.bool false, .string ⟨#[48]⟩, .string ⟨#[49]⟩] 29)
  replace hbw := below6 hbw hz7
  clear hz7
  have qc_0 : (wq6.alloc (.cells #[.bool false, .string ⟨#[48]⟩, .string ⟨#[49]⟩] 29)).cell? ⟨g2, 0, none⟩ = some (.int .i64 (a : Int)) := o_c.cell 0
  have qc_1 : (wq6.alloc (.cells #[.bool false, .string ⟨#[48]⟩, .string ⟨#[49]⟩] 29)).cell? ⟨g2, 1, none⟩ = some (.int .i64 (p : Int)) := o_c.cell 1
  have qc_2 : (wq6.alloc (.cells #[.bool false, .string ⟨#[48]⟩, .string ⟨#[49]⟩] 29)).cell? ⟨g2, 2, none⟩ = some (.int .i64 (q : Int)) := o_c.cell 2
  have qc_3 : (wq6.alloc (.cells #[.bool false, .string ⟨#[48]⟩, .string ⟨#[49]⟩] 29)).cell? ⟨g2, 3, none⟩ = some (.int .i64 (n : Int)) := o_c.cell 3
  go_wp2_with fail
  generalize (wq6.alloc (.cells #[.bool false, .string ⟨#[48]⟩, .string ⟨#[49]⟩] 29)) = wa8 at o_c o_zero o_x hbw ⊢
  generalize wq6.heap.size = g8 at o_x ⊢
  clear qc_0 qc_1 qc_2 qc_3
  refine (F2.out _ (T0.out.below hbw)).mono ?_
  rintro e w9 ⟨rfl, hb9⟩
  replace o_c := o_c.below hb9 o_c.lt
  replace o_zero := o_zero.below hb9 o_zero.lt
  replace o_x := o_x.below hb9 o_x.lt
  replace hbw := below6 hbw hb9
  clear hb9
  obtain ⟨o_i, hz10⟩ := new1 w9 [.bool false, .string ⟨#[48]⟩, .string ⟨#[49]⟩, .bool false, .string ⟨#[48]⟩, .string ⟨#[49]⟩] 37
  replace o_c := o_c.alloc (.cells #[.bool false, .string ⟨#[48]⟩, .string ⟨#[49]⟩, .bool false, .string ⟨#[48]⟩, .string ⟨#[49]⟩] 37)
  replace o_zero := o_zero.alloc (.cells #[.bool false, .string ⟨#[48]⟩, .string ⟨#[49]⟩, .bool false, .string ⟨#[48]⟩, .string ⟨#[49]⟩] 37)
  replace o_x := o_x.alloc (.cells #[.bool false, .string ⟨#[48]⟩, .string ⟨#[49]⟩, .bool false, .string ⟨#[48]⟩, .string ⟨#[49]⟩] 37)
  replace hbw := below6 hbw hz10
  clear hz10
  have qc_0 : (w9.alloc (.cells #[.bool false, .string ⟨#[48]⟩, .string ⟨#[49]⟩, .bool false, .string ⟨#[48]⟩, .string ⟨#[49]⟩] 37)).cell? ⟨g2, 0, none⟩ = some (.int .i64 (a : Int)) := o_c.cell 0
  have qc_1 : (w9.alloc (.cells #[.bool false, .string ⟨#[48]⟩, .string ⟨#[49]⟩, .bool false, .string ⟨#[48]⟩, .string ⟨#[49]⟩] 37)).cell? ⟨g2, 1, none⟩ = some (.int .i64 (p : Int)) := o_c.cell 1
  have qc_2 : (w9.alloc (.cells #[.bool false, .string ⟨#[48]⟩, .string ⟨#[49]⟩, .bool false, .string ⟨#[48]⟩, .string ⟨#[49]⟩] 37)).cell? ⟨g2, 2, none⟩ = some (.int .i64 (q : Int)) := o_c.cell 2
  have qc_3 : (w9.alloc (.cells #[.bool false, .string ⟨#[48]⟩, .string ⟨#[49]⟩, .bool false, .string ⟨#[48]⟩, .string ⟨#[49]⟩] 37)).cell? ⟨g2, 3, none⟩ = some (.int .i64 (n : Int)) := o_c.cell 3
  go_wp2_with fail
  generalize (w9.alloc (.cells #[.bool false, .string ⟨#[48]⟩, .string ⟨#[49]⟩, .bool false, .string ⟨#[48]⟩, .string ⟨#[49]⟩] 37)) = wa11 at o_c o_zero o_x o_i hbw ⊢
  generalize w9.heap.size = g11 at o_i ⊢
  clear qc_0 qc_1 qc_2 qc_3
  refine (F3.out _ (T0.out.below hbw)).mono ?_
  rintro e w12 ⟨rfl, hb12⟩
  replace o_c := o_c.below hb12 o_c.lt
  replace o_zero := o_zero.below hb12 o_zero.lt
  replace o_x := o_x.below hb12 o_x.lt
  replace o_i := o_i.below hb12 o_i.lt
  replace hbw := below6 hbw hb12
  clear hb12
  obtain ⟨o_j, hz13⟩ := new1 w12 [.bool false, .string ⟨#[48]⟩, .string ⟨#[49]⟩, .bool false, .string ⟨#[48]⟩, .string ⟨#[49]⟩] 37
  replace o_c := o_c.alloc (.cells #[.bool false, .string ⟨#[48]⟩, .string ⟨#[49]⟩, .bool false, .string ⟨#[48]⟩, .string ⟨#[49]⟩] 37)
  replace o_zero := o_zero.alloc (.cells #[.bool false, .string ⟨#[48]⟩, .string ⟨#[49]⟩, .bool false, .string ⟨#[48]⟩, .string ⟨#[49]⟩] 37)
  replace o_x := o_x.alloc (.cells #[.bool false, .string ⟨#[48]⟩, .string ⟨#[49]⟩, .bool false, .string ⟨#[48]⟩, .string ⟨#[49]⟩] 37)
  replace o_i := o_i.alloc (.cells #[.bool false, .string ⟨#[48]⟩, .string ⟨#[49]⟩, .bool false, .string ⟨#[48]⟩, .string ⟨#[49]⟩] 37)
  replace hbw := below6 hbw hz13
  clear hz13
  go_upto_region 10 with (fail)
  generalize (w12.alloc (.cells #[.bool false, .string ⟨#[48]⟩, .string ⟨#[49]⟩, .bool false, .string ⟨#[48]⟩, .string ⟨#[49]⟩] 37)) = wa14 at o_c o_zero o_x o_i o_j hbw ⊢
  generalize w12.heap.size = g14 at o_j ⊢
  have qx_0 : wa14.cell? ⟨g8, 0, none⟩ = some (.bool false) := o_x.cell 0
  have qx_1 : wa14.cell? ⟨g8, 1, none⟩ = some (.string ⟨#[48]⟩) := o_x.cell 1
  have qx_2 : wa14.cell? ⟨g8, 2, none⟩ = some (.string ⟨#[49]⟩) := o_x.cell 2
  have qi_0 : wa14.cell? ⟨g11, 0, none⟩ = some (.bool false) := o_i.cell 0
  have qi_1 : wa14.cell? ⟨g11, 1, none⟩ = some (.string ⟨#[48]⟩) := o_i.cell 1
  have qi_2 : wa14.cell? ⟨g11, 2, none⟩ = some (.string ⟨#[49]⟩) := o_i.cell 2
  have qi_3 : wa14.cell? ⟨g11, 3, none⟩ = some (.bool false) := o_i.cell 3
  have qi_4 : wa14.cell? ⟨g11, 4, none⟩ = some (.string ⟨#[48]⟩) := o_i.cell 4
  have qi_5 : wa14.cell? ⟨g11, 5, none⟩ = some (.string ⟨#[49]⟩) := o_i.cell 5
  have qj_0 : wa14.cell? ⟨g14, 0, none⟩ = some (.bool false) := o_j.cell 0
  have qj_1 : wa14.cell? ⟨g14, 1, none⟩ = some (.string ⟨#[48]⟩) := o_j.cell 1
  have qj_2 : wa14.cell? ⟨g14, 2, none⟩ = some (.string ⟨#[49]⟩) := o_j.cell 2
  have qj_3 : wa14.cell? ⟨g14, 3, none⟩ = some (.bool false) := o_j.cell 3
  have qj_4 : wa14.cell? ⟨g14, 4, none⟩ = some (.string ⟨#[48]⟩) := o_j.cell 4
  have qj_5 : wa14.cell? ⟨g14, 5, none⟩ = some (.string ⟨#[49]⟩) := o_j.cell 5
  have qzero_0 : wa14.cell? ⟨g5, 0, none⟩ = some (.bool false) := o_zero.cell 0
  have qzero_1 : wa14.cell? ⟨g5, 1, none⟩ = some (.string ⟨#[48]⟩) := o_zero.cell 1
  have qzero_2 : wa14.cell? ⟨g5, 2, none⟩ = some (.string ⟨#[49]⟩) := o_zero.cell 2
  go_wp2_with fail
  clear qx_0 qx_1 qx_2 qi_0 qi_1 qi_2 qi_3 qi_4 qi_5 qj_0 qj_1 qj_2 qj_3 qj_4 qj_5 qzero_0 qzero_1 qzero_2
  refine (F4.out _).mono ?_
  rintro e w15 ⟨rfl, hb15⟩
  replace o_c := o_c.below hb15 o_c.lt
  replace o_zero := o_zero.below hb15 o_zero.lt
  replace o_x := o_x.below hb15 o_x.lt
  replace o_i := o_i.below hb15 o_i.lt
  replace o_j := o_j.below hb15 o_j.lt
  replace hbw := below6 hbw hb15
  clear hb15
  have qj_0 : w15.cell? ⟨g14, 0, none⟩ = some (.bool false) := o_j.cell 0
  have qj_1 : w15.cell? ⟨g14, 1, none⟩ = some (.string ⟨#[48]⟩) := o_j.cell 1
  have qj_2 : w15.cell? ⟨g14, 2, none⟩ = some (.string ⟨#[49]⟩) := o_j.cell 2
  have qj_3 : w15.cell? ⟨g14, 3, none⟩ = some (.bool false) := o_j.cell 3
  have qj_4 : w15.cell? ⟨g14, 4, none⟩ = some (.string ⟨#[48]⟩) := o_j.cell 4
  have qj_5 : w15.cell? ⟨g14, 5, none⟩ = some (.string ⟨#[49]⟩) := o_j.cell 5
  go_wp2_with fail
  clear qj_0 qj_1 qj_2 qj_3 qj_4 qj_5
  refine (F5.out _).mono ?_
  rintro e w16 ⟨rfl, hb16⟩
  replace o_c := o_c.below hb16 o_c.lt
  replace o_zero := o_zero.below hb16 o_zero.lt
  replace o_x := o_x.below hb16 o_x.lt
  replace o_i := o_i.below hb16 o_i.lt
  replace o_j := o_j.below hb16 o_j.lt
  replace hbw := below6 hbw hb16
  clear hb16
  go_wp2_with fail
  refine (known38_yes _ (T0.out.below hbw)).mono ?_
  rintro e w17 ⟨rfl, hb17⟩
  replace o_c := o_c.below hb17 o_c.lt
  replace o_zero := o_zero.below hb17 o_zero.lt
  replace o_x := o_x.below hb17 o_x.lt
  replace o_i := o_i.below hb17 o_i.lt
  replace o_j := o_j.below hb17 o_j.lt
  replace hbw := below6 hbw hb17
  clear hb17
  go_wp2
  go_ret
  exact ⟨rfl, hbw⟩
end Go.Proofs.YtopfcfbiaadfeaaDoor
