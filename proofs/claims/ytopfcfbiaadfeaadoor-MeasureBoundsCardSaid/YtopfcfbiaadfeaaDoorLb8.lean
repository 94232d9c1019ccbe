/- Chapter 38: law MeasureBounds. -/
import Derived.Test.YtopfcfbiaadfeaaDoorMv
import Derived.Test.YtopfcfbiaadfeaaDoorMw
import Derived.Test.YtopfcfbiaadfeaaDoorMk
import Derived.Test.YtopfcfbiaadfeaaDoorLh
namespace Go.Proofs.YtopfcfbiaadfeaaDoor
set_option linter.unusedSimpArgs false
set_option linter.unusedVariables false
set_option linter.unusedSectionVars false
open Go.RowKit Dg

theorem qres_zero {P Q : Nat} (h : Q = 0) : ∀ e, QRes P Q e → e = .returned (.tuple #[Rat0, .int .i64 25]) := by
  rintro e (⟨_, h1⟩ | ⟨h1, _⟩)
  · exact h1
  · omega
theorem rv2 : RV 2 = .agg #[.bool false, .string ⟨#[50]⟩, .string ⟨#[49]⟩] := by
  rw [rv_any (x := 2) (n := 2) (d := 1) (by decide) (by decide), show (2 : Int).natAbs = 2 from rfl, s2, s1]; rfl
theorem rv1 : RV 1 = .agg #[.bool false, .string ⟨#[49]⟩, .string ⟨#[49]⟩] := by
  rw [rv_any (x := 1) (n := 1) (d := 1) (by decide) (by decide), show (1 : Int).natAbs = 1 from rfl, s1]; rfl
theorem bounds_facts {a p q n : Nat} (hv : VC a p q n) (h0 : 0 < p + q) (w0 : World) : ∃ (sd td : ByteArray) (nj : Bool) (sj tj : ByteArray) (nr : Bool) (sr tr : ByteArray) (z2 z3 : Int),
    (∀ e, QRes (prodN [2, a]) (prodN [p + q]) e → e = .returned (.tuple #[.agg #[.bool false, .string sd, .string td], .int .i64 0])) ∧
    (∀ e, QRes (prodN [a]) (prodN [p + q - a]) e → e = .returned (.tuple #[.agg #[.bool nj, .string sj, .string tj], .int .i64 0])) ∧
    RetV 11 #[.agg #[.bool false, .string ⟨#[50]⟩, .string ⟨#[49]⟩], .agg #[.bool false, .string sd, .string td]] (.tuple #[.agg #[.bool nr, .string sr, .string tr], .int .i64 0]) ∧ RetV 12 #[.agg #[.bool false, .string sd, .string td], .agg #[.bool nr, .string sr, .string tr]] (.tuple #[.agg #[.bool nj, .string sj, .string tj], .int .i64 0]) ∧
    RetV 13 #[.agg #[.bool false, .string sd, .string td], .agg #[.bool false, .string ⟨#[49]⟩, .string ⟨#[49]⟩]] (.int .i64 z2) ∧ RetV 13 #[.agg #[.bool nj, .string sj, .string tj], .agg #[.bool false, .string ⟨#[49]⟩, .string ⟨#[49]⟩]] (.int .i64 z3) ∧ z2 ≤ 0 ∧ z3 ≤ 0 ∧
    (a = 0 → ∀ w, Tab w → Calls Tryd.prog 14 #[.agg #[.int .i64 (a : Int), .int .i64 (p : Int), .int .i64 (q : Int), .int .i64 (n : Int)], .int .i64 2] w fun e w' => e = .returned (.tuple #[.agg #[.bool false, .string ⟨#[]⟩, .string ⟨#[]⟩, .bool false, .string ⟨#[]⟩, .string ⟨#[]⟩], .int .i64 14]) ∧ Below w.heap.size w w') ∧
    (0 < a → ∃ (nu : Bool) (su tu : ByteArray) (nv : Bool) (sv tv : ByteArray) (nm : Bool) (sm tm : ByteArray) (z4 : Int), (∀ w, Tab w → Calls Tryd.prog 14 #[.agg #[.int .i64 (a : Int), .int .i64 (p : Int), .int .i64 (q : Int), .int .i64 (n : Int)], .int .i64 2] w fun e w' => e = .returned (.tuple #[.agg #[.bool nu, .string su, .string tu, .bool nv, .string sv, .string tv], .int .i64 0]) ∧ Below w.heap.size w w') ∧
      RetV 15 #[.int .i64 57, .int .i64 4] (.tuple #[.agg #[.bool nm, .string sm, .string tm], .int .i64 0]) ∧ RetV 13 #[.agg #[.bool nv, .string sv, .string tv], .agg #[.bool nm, .string sm, .string tm]] (.int .i64 z4) ∧ z4 ≤ 0) := by
  have h1 := hv.pn; have h2 := hv.qn; have h3 := hv.n2; have h4 := hv.ap; have h5 := hv.aq; have h6 := hv.pq; have h7 := hv.n1
  have hPd : 0 < prodN [p + q] := by simp only [prodN, Nat.mul_one]; omega
  have hPj : 0 < prodN [p + q - a] := by simp only [prodN, Nat.mul_one]; omega
  have sm : ∀ x, x ≤ 4294967296 → prodN [x] < 10 ^ 70 := fun x hx => by
    simp only [prodN, Nat.mul_one]
    exact Nat.lt_of_le_of_lt hx (by decide)
  have fD := few_quo hPd (VC.prod (a := a) (p := p) (q := q) (n := n) (x := 2) (y := a) (by omega) (by omega)) (sm (p + q) (by omega))
  have fJ := few_quo hPj (sm a (by omega)) (sm (p + q - a) (by omega))
  have qD := qres_yes hPd (fD.ok (by decide))
  have qJ := qres_yes hPj (fJ.ok (by decide))
  have l1 := dice_le h4 h5 h0
  have l2 := jac_le h4 h5 h0
  have l3 := dice_jac h4 h5 h0
  have l0 : 0 ≤ rat false (prodN [2, a]) (prodN [p + q]) := by
    rw [rat_quo, ← Rat.not_lt, Rat.div_lt_iff (Rat.natCast_pos.2 hPd), Rat.zero_mul, Rat.not_lt]
    exact Rat.natCast_nonneg
  have hld0 : a = 0 → ∀ w, Tab w → Calls Tryd.prog 14 #[CV a p q n, .int .i64 2] w fun e w' => e = .returned (.tuple #[IV0, .int .i64 14]) ∧ Below w.heap.size w w' := by
    rintro rfl w ht
    exact ld_zero (k := 2) hv (by decide) w ht
  have hld1 : 0 < a → ∃ i : Int, IsLog (rat false (prodN [2, a]) (prodN [p + q]) ^ (2 ^ 2)) i ∧ -1000000 ≤ i ∧ i ≤ 1000000 ∧ 0 < rat false (prodN [2, a]) (prodN [p + q]) ∧
      ∀ w, Tab w → Calls Tryd.prog 14 #[CV a p q n, .int .i64 2] w fun e w' => e = .returned (.tuple #[IV (rat false 14 1 + uq i 2) (rat false 14 1 + hiq (rat false (prodN [2, a]) (prodN [p + q])) i 2), .int .i64 0]) ∧ Below w.heap.size w w' := by
    intro ha
    obtain ⟨i, g1, g2, g3, g4⟩ := ld_yes hv (k := 2) (by decide) ha w0
    exact ⟨i, g1, g2, g3, rat_pos' (by simp only [prodN, Nat.mul_one]; omega) hPd, g4⟩
  clear hPd hPj sm
  generalize rat false (prodN [2, a]) (prodN [p + q]) = D at *
  generalize rat false (prodN [a]) (prodN [p + q - a]) = J at *
  have oD := fD.ok (k := 70) (by decide)
  have oJ := fJ.ok (k := 70) (by decide)
  have o2 : Few 1 (2 : Rat) := ⟨by decide, by decide⟩
  have o1 : OkR (1 : Rat) := ⟨by unfold OkN; decide, by unfold OkN; decide⟩
  have fN : Few 70 (-D) := by
    refine ⟨?_, ?_⟩
    · rw [Rat.neg_num, Int.natAbs_neg]; exact fD.1
    · rw [Rat.neg_den]; exact fD.2
  have oS : OkR (2 - D) := by
    rw [Rat.sub_eq_add_neg]
    exact (few_add' o2 fN).ok (by decide)
  have eD : decide (D.num < 0) = false := by rw [neg_is]; exact decide_eq_false (Rat.not_lt.2 l0)
  have nz : 2 - D ≠ 0 := by grind
  have RD : RV D = .agg #[.bool false, .string (S D.num.natAbs), .string (S D.den)] := by
    show Value.agg #[.bool (decide (D.num < 0)), _, _] = _
    rw [eD]
  refine ⟨S D.num.natAbs, S D.den, decide (J.num < 0), S J.num.natAbs, S J.den, decide ((2 - D).num < 0), S (2 - D).num.natAbs, S (2 - D).den, cmpR D 1, cmpR J 1, ?_, qJ, ?_, ?_, ?_, ?_, cmpR_le.2 l1, cmpR_le.2 l2, hld0, ?_⟩
  · rw [← RD]; exact qD
  · rw [← RD, ← rv2]
    exact fun w => (rsub_yes (o2.ok (by decide)) oD w).mono fun e w' ⟨g, hb⟩ => ⟨g.ok oS, hb⟩
  · rw [← RD]
    exact fun w => (rquo_yes oD oS nz w).mono fun e w' ⟨g, hb⟩ => ⟨by rw [l3] at g; exact g.ok oJ, hb⟩
  · rw [← RD, ← rv1]
    exact fun w => rcmp_yes oD o1 w
  · rw [← rv1]
    exact fun w => rcmp_yes oJ o1 w
  · intro ha
    obtain ⟨i, g1, g2, g3, g4, g5⟩ := hld1 ha
    have f14 : Few 7 (rat false 14 1) := one_few (by decide) (by decide)
    have oM : OkR (rat false 57 4) := (few_quo (by decide) (by decide) (by decide)).ok (by decide)
    have oH : OkR (rat false 14 1 + hiq D i 2) := (few_add' f14 (hiq_few g2 g3 (by decide))).ok (by decide)
    refine ⟨_, _, _, _, _, _, decide ((rat false 57 4).num < 0), S (rat false 57 4).num.natAbs, S (rat false 57 4).den, cmpR (rat false 14 1 + hiq D i 2) (rat false 57 4), g5, fun w => (maker_any 57 4 w (by decide) (by decide) (by decide) (by decide) (by decide)).mono fun e w' ⟨g, hb⟩ => ⟨g.ok oM, hb⟩, fun w => rcmp_yes oH oM w, cmpR_le.2 (ld_hi g4 l1 g1)⟩
set_option maxRecDepth 100000 in
set_option maxHeartbeats 4000000 in
theorem bounds_any (A : Option Addr) (l : List Int) (c : Nat) (w : World) (hA : Ints w A l) (hl : l.length ≤ c) (hc : c ≤ maxLen) (hwf : ∀ x ∈ l, -9223372036854775808 ≤ x ∧ x ≤ 9223372036854775807) (ht : Tab w) :
    Calls Tryd.prog 3 #[.slice A l.length c] w fun e w' => e = .returned (.bool true) ∧ Below w.heap.size w w' := by
  have T0 := Lib.hid ht
  clear ht
  go_enter Tryd.func3, Tryd.ntmps3
  go_wp2_with fail
  refine (new_any A l c w hA hl hc hwf).mono ?_
  rintro e w1 ⟨rfl, ⟨l', hT⟩, hb1⟩
  go_wp2_with fail
  refine (cells_any w.heap.size A l' c 0 _ hT).mono ?_
  rintro e w2 ⟨a, p, q, n, hm, rfl, hcg⟩
  have hbw : Below w.heap.size w w2 := hb1.trans (hcg.below (B := w.heap.size) (fun k hk e => by omega) hb1.size)
  clear hT hcg hb1 hA hl hc hwf
  have HV := Lib.hid hm.1
  clear hm
  obtain ⟨o_c, hz1⟩ := new1 w2 [.int .i64 (a : Int), .int .i64 (p : Int), .int .i64 (q : Int), .int .i64 (n : Int)] 24
  replace hbw := below6 hbw hz1
  clear hz1
  have z1 : IntKind.i64.wrap ((p : Int) + (q : Int)) = (p : Int) + (q : Int) := IntWalk.i64_in _ (by have := HV.out.pn; have := HV.out.qn; have := HV.out.n2; omega)
  go_upto_region 2 with (fail)
  generalize (w2.alloc (.cells #[.int .i64 (a : Int), .int .i64 (p : Int), .int .i64 (q : Int), .int .i64 (n : Int)] 24)) = wa2 at o_c hbw ⊢
  generalize w2.heap.size = g2 at o_c ⊢
  rcases Nat.eq_zero_or_pos (p + q) with h0 | h0
  · skip
    have H1 := Lib.hid (qres_zero (P := prodN [2, a]) (Q := prodN [p + q]) (by simp only [prodN, Nat.mul_one]; omega))
    have H2 := Lib.hid (qres_zero (P := prodN [a]) (Q := prodN [p + q - a]) (by simp only [prodN, Nat.mul_one]; omega))
    have t1 : (((p : Int) + (q : Int)) == 0) = true := beq_iff_eq.2 (by omega)
    have t2 : (p : Int) + (q : Int) = 0 := by omega
    clear h0
    have qc_0 : wa2.cell? ⟨g2, 0, none⟩ = some (.int .i64 (a : Int)) := o_c.cell 0
    have qc_1 : wa2.cell? ⟨g2, 1, none⟩ = some (.int .i64 (p : Int)) := o_c.cell 1
    have qc_2 : wa2.cell? ⟨g2, 2, none⟩ = some (.int .i64 (q : Int)) := o_c.cell 2
    have qc_3 : wa2.cell? ⟨g2, 3, none⟩ = some (.int .i64 (n : Int)) := o_c.cell 3
    go_wp2_with fail
    clear qc_0 qc_1 qc_2 qc_3
    refine (dice_yes HV.out _ (T0.out.below hbw)).mono ?_
    rintro e w8 ⟨hq, hb8⟩
    have he := H1.out _ hq
    subst he
    replace o_c := o_c.below hb8 o_c.lt
    replace hbw := below6 hbw hb8
    clear hb8 hq
    obtain ⟨wq3, hwq3⟩ : ∃ x : World, x = w8 := ⟨_, rfl⟩
    rw [← hwq3] at o_c hbw ⊢
    clear hwq3 w8
    obtain ⟨o_x, hz4⟩ := new1 wq3 [.bool false, .string ⟨#[]⟩, .string ⟨#[]⟩] 29
    replace o_c := o_c.alloc (.cells #[.bool false, .string ⟨#[]⟩, .string ⟨#[]⟩] 29)
    replace hbw := below6 hbw hz4
    clear hz4
    have qc_0 : (wq3.alloc (.cells #[.bool false, .string ⟨#[]⟩, .string ⟨#[]⟩] 29)).cell? ⟨g2, 0, none⟩ = some (.int .i64 (a : Int)) := o_c.cell 0
    have qc_1 : (wq3.alloc (.cells #[.bool false, .string ⟨#[]⟩, .string ⟨#[]⟩] 29)).cell? ⟨g2, 1, none⟩ = some (.int .i64 (p : Int)) := o_c.cell 1
    have qc_2 : (wq3.alloc (.cells #[.bool false, .string ⟨#[]⟩, .string ⟨#[]⟩] 29)).cell? ⟨g2, 2, none⟩ = some (.int .i64 (q : Int)) := o_c.cell 2
    have qc_3 : (wq3.alloc (.cells #[.bool false, .string ⟨#[]⟩, .string ⟨#[]⟩] 29)).cell? ⟨g2, 3, none⟩ = some (.int .i64 (n : Int)) := o_c.cell 3
    go_wp2_with fail
    generalize (wq3.alloc (.cells #[.bool false, .string ⟨#[]⟩, .string ⟨#[]⟩] 29)) = wa5 at o_c o_x hbw ⊢
    generalize wq3.heap.size = g5 at o_x ⊢
    clear qc_0 qc_1 qc_2 qc_3
    refine (jaccard_yes HV.out _ (T0.out.below hbw)).mono ?_
    rintro e w8 ⟨hq, hb8⟩
    have he := H2.out _ hq
    subst he
    replace o_c := o_c.below hb8 o_c.lt
    replace o_x := o_x.below hb8 o_x.lt
    replace hbw := below6 hbw hb8
    clear hb8 hq
    obtain ⟨wq6, hwq6⟩ : ∃ x : World, x = w8 := ⟨_, rfl⟩
    rw [← hwq6] at o_c o_x hbw ⊢
    clear hwq6 w8
    obtain ⟨o_y, hz7⟩ := new1 wq6 [.bool false, .string ⟨#[]⟩, .string ⟨#[]⟩] 29
    replace o_c := o_c.alloc (.cells #[.bool false, .string ⟨#[]⟩, .string ⟨#[]⟩] 29)
    replace o_x := o_x.alloc (.cells #[.bool false, .string ⟨#[]⟩, .string ⟨#[]⟩] 29)
    replace hbw := below6 hbw hz7
    clear hz7
    have qc_0 : (wq6.alloc (.cells #[.bool false, .string ⟨#[]⟩, .string ⟨#[]⟩] 29)).cell? ⟨g2, 0, none⟩ = some (.int .i64 (a : Int)) := o_c.cell 0
    have qc_1 : (wq6.alloc (.cells #[.bool false, .string ⟨#[]⟩, .string ⟨#[]⟩] 29)).cell? ⟨g2, 1, none⟩ = some (.int .i64 (p : Int)) := o_c.cell 1
    have qc_2 : (wq6.alloc (.cells #[.bool false, .string ⟨#[]⟩, .string ⟨#[]⟩] 29)).cell? ⟨g2, 2, none⟩ = some (.int .i64 (q : Int)) := o_c.cell 2
    have qc_3 : (wq6.alloc (.cells #[.bool false, .string ⟨#[]⟩, .string ⟨#[]⟩] 29)).cell? ⟨g2, 3, none⟩ = some (.int .i64 (n : Int)) := o_c.cell 3
    go_wp2_with fail
    generalize (wq6.alloc (.cells #[.bool false, .string ⟨#[]⟩, .string ⟨#[]⟩] 29)) = wa8 at o_c o_x o_y hbw ⊢
    generalize wq6.heap.size = g8 at o_y ⊢
    clear qc_0 qc_1 qc_2 qc_3
    refine (known38_yes _ (T0.out.below hbw)).mono ?_
    rintro e w9 ⟨rfl, hb9⟩
    replace o_c := o_c.below hb9 o_c.lt
    replace o_x := o_x.below hb9 o_x.lt
    replace o_y := o_y.below hb9 o_y.lt
    replace hbw := below6 hbw hb9
    clear hb9
    go_wp2
    go_ret
    exact ⟨rfl, hbw⟩
  · skip
    obtain ⟨sd, td, nj, sj, tj, nr, sr, tr, z2, z3, H1, H2, HS, HQ, HC1, HC2, hz2, hz3, hld0, hld1⟩ := bounds_facts HV.out h0 w
    replace H1 := Lib.hid H1
    replace H2 := Lib.hid H2
    replace HS := Lib.hid HS
    replace HQ := Lib.hid HQ
    replace HC1 := Lib.hid HC1
    replace HC2 := Lib.hid HC2
    replace hld0 := Lib.hid hld0
    replace hld1 := Lib.hid hld1
    have t1 : (((p : Int) + (q : Int)) == 0) = false := beq_eq_false_iff_ne.2 (by omega)
    have t2 : decide ((p : Int) + (q : Int) = 0) = false := decide_eq_false (by omega)
    have t3 : decide (z2 > 0) = false := decide_eq_false (by omega)
    have t4 : decide (z3 > 0) = false := decide_eq_false (by omega)
    have t5 : decide (0 < z2) = false := decide_eq_false (by omega)
    have t6 : decide (0 < z3) = false := decide_eq_false (by omega)
    have qc_0 : wa2.cell? ⟨g2, 0, none⟩ = some (.int .i64 (a : Int)) := o_c.cell 0
    have qc_1 : wa2.cell? ⟨g2, 1, none⟩ = some (.int .i64 (p : Int)) := o_c.cell 1
    have qc_2 : wa2.cell? ⟨g2, 2, none⟩ = some (.int .i64 (q : Int)) := o_c.cell 2
    have qc_3 : wa2.cell? ⟨g2, 3, none⟩ = some (.int .i64 (n : Int)) := o_c.cell 3
    go_wp2_with fail
    clear qc_0 qc_1 qc_2 qc_3
    refine (dice_yes HV.out _ (T0.out.below hbw)).mono ?_
    rintro e w8 ⟨hq, hb8⟩
    have he := H1.out _ hq
    subst he
    replace o_c := o_c.below hb8 o_c.lt
    replace hbw := below6 hbw hb8
    clear hb8 hq
    obtain ⟨wq3, hwq3⟩ : ∃ x : World, x = w8 := ⟨_, rfl⟩
    rw [← hwq3] at o_c hbw ⊢
    clear hwq3 w8
    obtain ⟨o_d, hz4⟩ := new1 wq3 [.bool false, .string sd, .string td] 29
    replace o_c := o_c.alloc (.cells #[.bool false, .string sd, .string td] 29)
    replace hbw := below6 hbw hz4
    clear hz4
    have qc_0 : (wq3.alloc (.cells #[.bool false, .string sd, .string td] 29)).cell? ⟨g2, 0, none⟩ = some (.int .i64 (a : Int)) := o_c.cell 0
    have qc_1 : (wq3.alloc (.cells #[.bool false, .string sd, .string td] 29)).cell? ⟨g2, 1, none⟩ = some (.int .i64 (p : Int)) := o_c.cell 1
    have qc_2 : (wq3.alloc (.cells #[.bool false, .string sd, .string td] 29)).cell? ⟨g2, 2, none⟩ = some (.int .i64 (q : Int)) := o_c.cell 2
    have qc_3 : (wq3.alloc (.cells #[.bool false, .string sd, .string td] 29)).cell? ⟨g2, 3, none⟩ = some (.int .i64 (n : Int)) := o_c.cell 3
    go_wp2_with fail
    generalize (wq3.alloc (.cells #[.bool false, .string sd, .string td] 29)) = wa5 at o_c o_d hbw ⊢
    generalize wq3.heap.size = g5 at o_d ⊢
    clear qc_0 qc_1 qc_2 qc_3
    refine (jaccard_yes HV.out _ (T0.out.below hbw)).mono ?_
    rintro e w8 ⟨hq, hb8⟩
    have he := H2.out _ hq
    subst he
    replace o_c := o_c.below hb8 o_c.lt
    replace o_d := o_d.below hb8 o_d.lt
    replace hbw := below6 hbw hb8
    clear hb8 hq
    obtain ⟨wq6, hwq6⟩ : ∃ x : World, x = w8 := ⟨_, rfl⟩
    rw [← hwq6] at o_c o_d hbw ⊢
    clear hwq6 w8
    obtain ⟨o_j, hz7⟩ := new1 wq6 [.bool nj, .string sj, .string tj] 29
    replace o_c := o_c.alloc (.cells #[.bool nj, .string sj, .string tj] 29)
    replace o_d := o_d.alloc (.cells #[.bool nj, .string sj, .string tj] 29)
    replace hbw := below6 hbw hz7
    clear hz7
    have qc_0 : (wq6.alloc (.cells #[.bool nj, .string sj, .string tj] 29)).cell? ⟨g2, 0, none⟩ = some (.int .i64 (a : Int)) := o_c.cell 0
    have qc_1 : (wq6.alloc (.cells #[.bool nj, .string sj, .string tj] 29)).cell? ⟨g2, 1, none⟩ = some (.int .i64 (p : Int)) := o_c.cell 1
    have qc_2 : (wq6.alloc (.cells #[.bool nj, .string sj, .string tj] 29)).cell? ⟨g2, 2, none⟩ = some (.int .i64 (q : Int)) := o_c.cell 2
    have qc_3 : (wq6.alloc (.cells #[.bool nj, .string sj, .string tj] 29)).cell? ⟨g2, 3, none⟩ = some (.int .i64 (n : Int)) := o_c.cell 3
    go_upto_region 6 with (fail)
    generalize (wq6.alloc (.cells #[.bool nj, .string sj, .string tj] 29)) = wa8 at o_c o_d o_j hbw ⊢
    generalize wq6.heap.size = g8 at o_j ⊢
    obtain ⟨o_o, o_t, hz9⟩ := new2 wa8 [.bool false, .string ⟨#[49]⟩, .string ⟨#[49]⟩] [.bool false, .string ⟨#[50]⟩, .string ⟨#[49]⟩] 29 29
    replace o_c := o_c.alloc (.cells #[.bool false, .string ⟨#[49]⟩, .string ⟨#[49]⟩] 29)
    replace o_c := o_c.alloc (.cells #[.bool false, .string ⟨#[50]⟩, .string ⟨#[49]⟩] 29)
    replace o_d := o_d.alloc (.cells #[.bool false, .string ⟨#[49]⟩, .string ⟨#[49]⟩] 29)
    replace o_d := o_d.alloc (.cells #[.bool false, .string ⟨#[50]⟩, .string ⟨#[49]⟩] 29)
    replace o_j := o_j.alloc (.cells #[.bool false, .string ⟨#[49]⟩, .string ⟨#[49]⟩] 29)
    replace o_j := o_j.alloc (.cells #[.bool false, .string ⟨#[50]⟩, .string ⟨#[49]⟩] 29)
    replace hbw := below6 hbw hz9
    clear hz9
    go_upto_region 7 with (fail)
    generalize ((wa8.alloc (.cells #[.bool false, .string ⟨#[49]⟩, .string ⟨#[49]⟩] 29)).alloc (.cells #[.bool false, .string ⟨#[50]⟩, .string ⟨#[49]⟩] 29)) = wa10 at o_c o_d o_j o_o o_t hbw ⊢
    generalize wa8.heap.size = g10 at o_o o_t ⊢
    have qt_0 : wa10.cell? ⟨g10 + 1, 0, none⟩ = some (.bool false) := o_t.cell 0
    have qt_1 : wa10.cell? ⟨g10 + 1, 1, none⟩ = some (.string ⟨#[50]⟩) := o_t.cell 1
    have qt_2 : wa10.cell? ⟨g10 + 1, 2, none⟩ = some (.string ⟨#[49]⟩) := o_t.cell 2
    have qd_0 : wa10.cell? ⟨g5, 0, none⟩ = some (.bool false) := o_d.cell 0
    have qd_1 : wa10.cell? ⟨g5, 1, none⟩ = some (.string sd) := o_d.cell 1
    have qd_2 : wa10.cell? ⟨g5, 2, none⟩ = some (.string td) := o_d.cell 2
    go_wp2_with fail
    clear qt_0 qt_1 qt_2 qd_0 qd_1 qd_2
    refine (HS.out _).mono ?_
    rintro e w11 ⟨rfl, hb11⟩
    replace o_c := o_c.below hb11 o_c.lt
    replace o_d := o_d.below hb11 o_d.lt
    replace o_j := o_j.below hb11 o_j.lt
    replace o_o := o_o.below hb11 o_o.lt
    replace o_t := o_t.below hb11 o_t.lt
    replace hbw := below6 hbw hb11
    clear hb11
    obtain ⟨o_rest, hz12⟩ := new1 w11 [.bool nr, .string sr, .string tr] 29
    replace o_c := o_c.alloc (.cells #[.bool nr, .string sr, .string tr] 29)
    replace o_d := o_d.alloc (.cells #[.bool nr, .string sr, .string tr] 29)
    replace o_j := o_j.alloc (.cells #[.bool nr, .string sr, .string tr] 29)
    replace o_o := o_o.alloc (.cells #[.bool nr, .string sr, .string tr] 29)
    replace o_t := o_t.alloc (.cells #[.bool nr, .string sr, .string tr] 29)
    replace hbw := below6 hbw hz12
    clear hz12
    have qd_0 : (w11.alloc (.cells #[.bool nr, .string sr, .string tr] 29)).cell? ⟨g5, 0, none⟩ = some (.bool false) := o_d.cell 0
    have qd_1 : (w11.alloc (.cells #[.bool nr, .string sr, .string tr] 29)).cell? ⟨g5, 1, none⟩ = some (.string sd) := o_d.cell 1
    have qd_2 : (w11.alloc (.cells #[.bool nr, .string sr, .string tr] 29)).cell? ⟨g5, 2, none⟩ = some (.string td) := o_d.cell 2
    have qrest_0 : (w11.alloc (.cells #[.bool nr, .string sr, .string tr] 29)).cell? ⟨w11.heap.size, 0, none⟩ = some (.bool nr) := o_rest.cell 0
    have qrest_1 : (w11.alloc (.cells #[.bool nr, .string sr, .string tr] 29)).cell? ⟨w11.heap.size, 1, none⟩ = some (.string sr) := o_rest.cell 1
    have qrest_2 : (w11.alloc (.cells #[.bool nr, .string sr, .string tr] 29)).cell? ⟨w11.heap.size, 2, none⟩ = some (.string tr) := o_rest.cell 2
    go_wp2_with fail
    generalize (w11.alloc (.cells #[.bool nr, .string sr, .string tr] 29)) = wa13 at o_c o_d o_j o_o o_t o_rest hbw ⊢
    generalize w11.heap.size = g13 at o_rest ⊢
    clear qd_0 qd_1 qd_2 qrest_0 qrest_1 qrest_2
    refine (HQ.out _).mono ?_
    rintro e w14 ⟨rfl, hb14⟩
    replace o_c := o_c.below hb14 o_c.lt
    replace o_d := o_d.below hb14 o_d.lt
    replace o_j := o_j.below hb14 o_j.lt
    replace o_o := o_o.below hb14 o_o.lt
    replace o_t := o_t.below hb14 o_t.lt
    replace o_rest := o_rest.below hb14 o_rest.lt
    replace hbw := below6 hbw hb14
    clear hb14
    obtain ⟨o_x, hz15⟩ := new1 w14 [.bool nj, .string sj, .string tj] 29
    replace o_c := o_c.alloc (.cells #[.bool nj, .string sj, .string tj] 29)
    replace o_d := o_d.alloc (.cells #[.bool nj, .string sj, .string tj] 29)
    replace o_j := o_j.alloc (.cells #[.bool nj, .string sj, .string tj] 29)
    replace o_o := o_o.alloc (.cells #[.bool nj, .string sj, .string tj] 29)
    replace o_t := o_t.alloc (.cells #[.bool nj, .string sj, .string tj] 29)
    replace o_rest := o_rest.alloc (.cells #[.bool nj, .string sj, .string tj] 29)
    replace hbw := below6 hbw hz15
    clear hz15
    have qx_0 : (w14.alloc (.cells #[.bool nj, .string sj, .string tj] 29)).cell? ⟨w14.heap.size, 0, none⟩ = some (.bool nj) := o_x.cell 0
    have qx_1 : (w14.alloc (.cells #[.bool nj, .string sj, .string tj] 29)).cell? ⟨w14.heap.size, 1, none⟩ = some (.string sj) := o_x.cell 1
    have qx_2 : (w14.alloc (.cells #[.bool nj, .string sj, .string tj] 29)).cell? ⟨w14.heap.size, 2, none⟩ = some (.string tj) := o_x.cell 2
    have qj_0 : (w14.alloc (.cells #[.bool nj, .string sj, .string tj] 29)).cell? ⟨g8, 0, none⟩ = some (.bool nj) := o_j.cell 0
    have qj_1 : (w14.alloc (.cells #[.bool nj, .string sj, .string tj] 29)).cell? ⟨g8, 1, none⟩ = some (.string sj) := o_j.cell 1
    have qj_2 : (w14.alloc (.cells #[.bool nj, .string sj, .string tj] 29)).cell? ⟨g8, 2, none⟩ = some (.string tj) := o_j.cell 2
    have qd_0 : (w14.alloc (.cells #[.bool nj, .string sj, .string tj] 29)).cell? ⟨g5, 0, none⟩ = some (.bool false) := o_d.cell 0
    have qd_1 : (w14.alloc (.cells #[.bool nj, .string sj, .string tj] 29)).cell? ⟨g5, 1, none⟩ = some (.string sd) := o_d.cell 1
    have qd_2 : (w14.alloc (.cells #[.bool nj, .string sj, .string tj] 29)).cell? ⟨g5, 2, none⟩ = some (.string td) := o_d.cell 2
    have qo_0 : (w14.alloc (.cells #[.bool nj, .string sj, .string tj] 29)).cell? ⟨g10, 0, none⟩ = some (.bool false) := o_o.cell 0
    have qo_1 : (w14.alloc (.cells #[.bool nj, .string sj, .string tj] 29)).cell? ⟨g10, 1, none⟩ = some (.string ⟨#[49]⟩) := o_o.cell 1
    have qo_2 : (w14.alloc (.cells #[.bool nj, .string sj, .string tj] 29)).cell? ⟨g10, 2, none⟩ = some (.string ⟨#[49]⟩) := o_o.cell 2
    go_wp2_with fail
    generalize (w14.alloc (.cells #[.bool nj, .string sj, .string tj] 29)) = wa16 at o_c o_d o_j o_o o_t o_rest o_x hbw ⊢
    generalize w14.heap.size = g16 at o_x ⊢
    clear qx_0 qx_1 qx_2 qj_0 qj_1 qj_2 qd_0 qd_1 qd_2 qo_0 qo_1 qo_2
    refine (HC1.out _).mono ?_
    rintro e w17 ⟨rfl, hb17⟩
    replace o_c := o_c.below hb17 o_c.lt
    replace o_d := o_d.below hb17 o_d.lt
    replace o_j := o_j.below hb17 o_j.lt
    replace o_o := o_o.below hb17 o_o.lt
    replace o_t := o_t.below hb17 o_t.lt
    replace o_rest := o_rest.below hb17 o_rest.lt
    replace o_x := o_x.below hb17 o_x.lt
    replace hbw := below6 hbw hb17
    clear hb17
    have qj_0 : w17.cell? ⟨g8, 0, none⟩ = some (.bool nj) := o_j.cell 0
    have qj_1 : w17.cell? ⟨g8, 1, none⟩ = some (.string sj) := o_j.cell 1
    have qj_2 : w17.cell? ⟨g8, 2, none⟩ = some (.string tj) := o_j.cell 2
    have qo_0 : w17.cell? ⟨g10, 0, none⟩ = some (.bool false) := o_o.cell 0
    have qo_1 : w17.cell? ⟨g10, 1, none⟩ = some (.string ⟨#[49]⟩) := o_o.cell 1
    have qo_2 : w17.cell? ⟨g10, 2, none⟩ = some (.string ⟨#[49]⟩) := o_o.cell 2
    go_wp2_with fail
    clear qj_0 qj_1 qj_2 qo_0 qo_1 qo_2
    refine (HC2.out _).mono ?_
    rintro e w18 ⟨rfl, hb18⟩
    replace o_c := o_c.below hb18 o_c.lt
    replace o_d := o_d.below hb18 o_d.lt
    replace o_j := o_j.below hb18 o_j.lt
    replace o_o := o_o.below hb18 o_o.lt
    replace o_t := o_t.below hb18 o_t.lt
    replace o_rest := o_rest.below hb18 o_rest.lt
    replace o_x := o_x.below hb18 o_x.lt
    replace hbw := below6 hbw hb18
    clear hb18
    have qd_0 : w18.cell? ⟨g5, 0, none⟩ = some (.bool false) := o_d.cell 0
    have qd_1 : w18.cell? ⟨g5, 1, none⟩ = some (.string sd) := o_d.cell 1
    have qd_2 : w18.cell? ⟨g5, 2, none⟩ = some (.string td) := o_d.cell 2
    have qc_0 : w18.cell? ⟨g2, 0, none⟩ = some (.int .i64 (a : Int)) := o_c.cell 0
    have qc_1 : w18.cell? ⟨g2, 1, none⟩ = some (.int .i64 (p : Int)) := o_c.cell 1
    have qc_2 : w18.cell? ⟨g2, 2, none⟩ = some (.int .i64 (q : Int)) := o_c.cell 2
    have qc_3 : w18.cell? ⟨g2, 3, none⟩ = some (.int .i64 (n : Int)) := o_c.cell 3
    go_wp2_with fail
    rcases Nat.eq_zero_or_pos a with ha | ha
    · skip
      have a1 : ((a : Int) == 0) = true := beq_iff_eq.2 (by omega)
      have a2 : (a == 0) = true := beq_iff_eq.2 (by omega)
      have HL := Lib.hid (hld0.out ha)
      clear ha
      refine (HL.out _ (T0.out.below hbw)).mono ?_
      rintro e w20 ⟨rfl, hb20⟩
      replace o_c := o_c.below hb20 o_c.lt
      replace o_d := o_d.below hb20 o_d.lt
      replace o_j := o_j.below hb20 o_j.lt
      replace o_o := o_o.below hb20 o_o.lt
      replace o_t := o_t.below hb20 o_t.lt
      replace o_rest := o_rest.below hb20 o_rest.lt
      replace o_x := o_x.below hb20 o_x.lt
      replace hbw := below6 hbw hb20
      clear hb20
      obtain ⟨o_i, hz19⟩ := new1 w20 [.bool false, .string ⟨#[]⟩, .string ⟨#[]⟩, .bool false, .string ⟨#[]⟩, .string ⟨#[]⟩] 37
      replace o_c := o_c.alloc (.cells #[.bool false, .string ⟨#[]⟩, .string ⟨#[]⟩, .bool false, .string ⟨#[]⟩, .string ⟨#[]⟩] 37)
      replace o_d := o_d.alloc (.cells #[.bool false, .string ⟨#[]⟩, .string ⟨#[]⟩, .bool false, .string ⟨#[]⟩, .string ⟨#[]⟩] 37)
      replace o_j := o_j.alloc (.cells #[.bool false, .string ⟨#[]⟩, .string ⟨#[]⟩, .bool false, .string ⟨#[]⟩, .string ⟨#[]⟩] 37)
      replace o_o := o_o.alloc (.cells #[.bool false, .string ⟨#[]⟩, .string ⟨#[]⟩, .bool false, .string ⟨#[]⟩, .string ⟨#[]⟩] 37)
      replace o_t := o_t.alloc (.cells #[.bool false, .string ⟨#[]⟩, .string ⟨#[]⟩, .bool false, .string ⟨#[]⟩, .string ⟨#[]⟩] 37)
      replace o_rest := o_rest.alloc (.cells #[.bool false, .string ⟨#[]⟩, .string ⟨#[]⟩, .bool false, .string ⟨#[]⟩, .string ⟨#[]⟩] 37)
      replace o_x := o_x.alloc (.cells #[.bool false, .string ⟨#[]⟩, .string ⟨#[]⟩, .bool false, .string ⟨#[]⟩, .string ⟨#[]⟩] 37)
      replace hbw := below6 hbw hz19
      clear hz19
      have qc_0 : (w20.alloc (.cells #[.bool false, .string ⟨#[]⟩, .string ⟨#[]⟩, .bool false, .string ⟨#[]⟩, .string ⟨#[]⟩] 37)).cell? ⟨g2, 0, none⟩ = some (.int .i64 (a : Int)) := o_c.cell 0
      have qc_1 : (w20.alloc (.cells #[.bool false, .string ⟨#[]⟩, .string ⟨#[]⟩, .bool false, .string ⟨#[]⟩, .string ⟨#[]⟩] 37)).cell? ⟨g2, 1, none⟩ = some (.int .i64 (p : Int)) := o_c.cell 1
      have qc_2 : (w20.alloc (.cells #[.bool false, .string ⟨#[]⟩, .string ⟨#[]⟩, .bool false, .string ⟨#[]⟩, .string ⟨#[]⟩] 37)).cell? ⟨g2, 2, none⟩ = some (.int .i64 (q : Int)) := o_c.cell 2
      have qc_3 : (w20.alloc (.cells #[.bool false, .string ⟨#[]⟩, .string ⟨#[]⟩, .bool false, .string ⟨#[]⟩, .string ⟨#[]⟩] 37)).cell? ⟨g2, 3, none⟩ = some (.int .i64 (n : Int)) := o_c.cell 3
      go_wp2_with fail
      generalize (w20.alloc (.cells #[.bool false, .string ⟨#[]⟩, .string ⟨#[]⟩, .bool false, .string ⟨#[]⟩, .string ⟨#[]⟩] 37)) = wa20 at o_c o_d o_j o_o o_t o_rest o_x o_i hbw ⊢
      generalize w20.heap.size = g20 at o_i ⊢
      clear qc_0 qc_1 qc_2 qc_3
      refine (known38_yes _ (T0.out.below hbw)).mono ?_
      rintro e w21 ⟨rfl, hb21⟩
      replace o_c := o_c.below hb21 o_c.lt
      replace o_d := o_d.below hb21 o_d.lt
      replace o_j := o_j.below hb21 o_j.lt
      replace o_o := o_o.below hb21 o_o.lt
      replace o_t := o_t.below hb21 o_t.lt
      replace o_rest := o_rest.below hb21 o_rest.lt
      replace o_x := o_x.below hb21 o_x.lt
      replace o_i := o_i.below hb21 o_i.lt
      replace hbw := below6 hbw hb21
      clear hb21
      go_wp2
      go_ret
      exact ⟨rfl, hbw⟩
    · skip
      obtain ⟨nu, su, tu, nv, sv, tv, nm, sm, tm, z4, hL, hM, hC, hz4⟩ := hld1.out ha
      have HL := Lib.hid hL
      have HM := Lib.hid hM
      have HC := Lib.hid hC
      clear hL hM hC
      have a1 : ((a : Int) == 0) = false := beq_eq_false_iff_ne.2 (by omega)
      have a2 : (a == 0) = false := beq_eq_false_iff_ne.2 (by omega)
      have a3 : decide (z4 ≤ 0) = true := decide_eq_true hz4
      refine (HL.out _ (T0.out.below hbw)).mono ?_
      rintro e w20 ⟨rfl, hb20⟩
      replace o_c := o_c.below hb20 o_c.lt
      replace o_d := o_d.below hb20 o_d.lt
      replace o_j := o_j.below hb20 o_j.lt
      replace o_o := o_o.below hb20 o_o.lt
      replace o_t := o_t.below hb20 o_t.lt
      replace o_rest := o_rest.below hb20 o_rest.lt
      replace o_x := o_x.below hb20 o_x.lt
      replace hbw := below6 hbw hb20
      clear hb20
      obtain ⟨o_i, hz19⟩ := new1 w20 [.bool nu, .string su, .string tu, .bool nv, .string sv, .string tv] 37
      replace o_c := o_c.alloc (.cells #[.bool nu, .string su, .string tu, .bool nv, .string sv, .string tv] 37)
      replace o_d := o_d.alloc (.cells #[.bool nu, .string su, .string tu, .bool nv, .string sv, .string tv] 37)
      replace o_j := o_j.alloc (.cells #[.bool nu, .string su, .string tu, .bool nv, .string sv, .string tv] 37)
      replace o_o := o_o.alloc (.cells #[.bool nu, .string su, .string tu, .bool nv, .string sv, .string tv] 37)
      replace o_t := o_t.alloc (.cells #[.bool nu, .string su, .string tu, .bool nv, .string sv, .string tv] 37)
      replace o_rest := o_rest.alloc (.cells #[.bool nu, .string su, .string tu, .bool nv, .string sv, .string tv] 37)
      replace o_x := o_x.alloc (.cells #[.bool nu, .string su, .string tu, .bool nv, .string sv, .string tv] 37)
      replace hbw := below6 hbw hz19
      clear hz19
      have qc_0 : (w20.alloc (.cells #[.bool nu, .string su, .string tu, .bool nv, .string sv, .string tv] 37)).cell? ⟨g2, 0, none⟩ = some (.int .i64 (a : Int)) := o_c.cell 0
      have qc_1 : (w20.alloc (.cells #[.bool nu, .string su, .string tu, .bool nv, .string sv, .string tv] 37)).cell? ⟨g2, 1, none⟩ = some (.int .i64 (p : Int)) := o_c.cell 1
      have qc_2 : (w20.alloc (.cells #[.bool nu, .string su, .string tu, .bool nv, .string sv, .string tv] 37)).cell? ⟨g2, 2, none⟩ = some (.int .i64 (q : Int)) := o_c.cell 2
      have qc_3 : (w20.alloc (.cells #[.bool nu, .string su, .string tu, .bool nv, .string sv, .string tv] 37)).cell? ⟨g2, 3, none⟩ = some (.int .i64 (n : Int)) := o_c.cell 3
      go_wp2_with fail
      generalize (w20.alloc (.cells #[.bool nu, .string su, .string tu, .bool nv, .string sv, .string tv] 37)) = wa20 at o_c o_d o_j o_o o_t o_rest o_x o_i hbw ⊢
      generalize w20.heap.size = g20 at o_i ⊢
      clear qc_0 qc_1 qc_2 qc_3
      refine (HM.out _).mono ?_
      rintro e w21 ⟨rfl, hb21⟩
      replace o_c := o_c.below hb21 o_c.lt
      replace o_d := o_d.below hb21 o_d.lt
      replace o_j := o_j.below hb21 o_j.lt
      replace o_o := o_o.below hb21 o_o.lt
      replace o_t := o_t.below hb21 o_t.lt
      replace o_rest := o_rest.below hb21 o_rest.lt
      replace o_x := o_x.below hb21 o_x.lt
      replace o_i := o_i.below hb21 o_i.lt
      replace hbw := below6 hbw hb21
      clear hb21
      obtain ⟨o_m, hz22⟩ := new1 w21 [.bool nm, .string sm, .string tm] 29
      replace o_c := o_c.alloc (.cells #[.bool nm, .string sm, .string tm] 29)
      replace o_d := o_d.alloc (.cells #[.bool nm, .string sm, .string tm] 29)
      replace o_j := o_j.alloc (.cells #[.bool nm, .string sm, .string tm] 29)
      replace o_o := o_o.alloc (.cells #[.bool nm, .string sm, .string tm] 29)
      replace o_t := o_t.alloc (.cells #[.bool nm, .string sm, .string tm] 29)
      replace o_rest := o_rest.alloc (.cells #[.bool nm, .string sm, .string tm] 29)
      replace o_x := o_x.alloc (.cells #[.bool nm, .string sm, .string tm] 29)
      replace o_i := o_i.alloc (.cells #[.bool nm, .string sm, .string tm] 29)
      replace hbw := below6 hbw hz22
      clear hz22
      have qi_0 : (w21.alloc (.cells #[.bool nm, .string sm, .string tm] 29)).cell? ⟨g20, 0, none⟩ = some (.bool nu) := o_i.cell 0
      have qi_1 : (w21.alloc (.cells #[.bool nm, .string sm, .string tm] 29)).cell? ⟨g20, 1, none⟩ = some (.string su) := o_i.cell 1
      have qi_2 : (w21.alloc (.cells #[.bool nm, .string sm, .string tm] 29)).cell? ⟨g20, 2, none⟩ = some (.string tu) := o_i.cell 2
      have qi_3 : (w21.alloc (.cells #[.bool nm, .string sm, .string tm] 29)).cell? ⟨g20, 3, none⟩ = some (.bool nv) := o_i.cell 3
      have qi_4 : (w21.alloc (.cells #[.bool nm, .string sm, .string tm] 29)).cell? ⟨g20, 4, none⟩ = some (.string sv) := o_i.cell 4
      have qi_5 : (w21.alloc (.cells #[.bool nm, .string sm, .string tm] 29)).cell? ⟨g20, 5, none⟩ = some (.string tv) := o_i.cell 5
      have qm_0 : (w21.alloc (.cells #[.bool nm, .string sm, .string tm] 29)).cell? ⟨w21.heap.size, 0, none⟩ = some (.bool nm) := o_m.cell 0
      have qm_1 : (w21.alloc (.cells #[.bool nm, .string sm, .string tm] 29)).cell? ⟨w21.heap.size, 1, none⟩ = some (.string sm) := o_m.cell 1
      have qm_2 : (w21.alloc (.cells #[.bool nm, .string sm, .string tm] 29)).cell? ⟨w21.heap.size, 2, none⟩ = some (.string tm) := o_m.cell 2
      go_wp2_with fail
      generalize (w21.alloc (.cells #[.bool nm, .string sm, .string tm] 29)) = wa23 at o_c o_d o_j o_o o_t o_rest o_x o_i o_m hbw ⊢
      generalize w21.heap.size = g23 at o_m ⊢
      clear qi_0 qi_1 qi_2 qi_3 qi_4 qi_5 qm_0 qm_1 qm_2
      refine (HC.out _).mono ?_
      rintro e w24 ⟨rfl, hb24⟩
      replace o_c := o_c.below hb24 o_c.lt
      replace o_d := o_d.below hb24 o_d.lt
      replace o_j := o_j.below hb24 o_j.lt
      replace o_o := o_o.below hb24 o_o.lt
      replace o_t := o_t.below hb24 o_t.lt
      replace o_rest := o_rest.below hb24 o_rest.lt
      replace o_x := o_x.below hb24 o_x.lt
      replace o_i := o_i.below hb24 o_i.lt
      replace o_m := o_m.below hb24 o_m.lt
      replace hbw := below6 hbw hb24
      clear hb24
      go_wp2_with fail
      refine (known38_yes _ (T0.out.below hbw)).mono ?_
      rintro e w25 ⟨rfl, hb25⟩
      replace o_c := o_c.below hb25 o_c.lt
      replace o_d := o_d.below hb25 o_d.lt
      replace o_j := o_j.below hb25 o_j.lt
      replace o_o := o_o.below hb25 o_o.lt
      replace o_t := o_t.below hb25 o_t.lt
      replace o_rest := o_rest.below hb25 o_rest.lt
      replace o_x := o_x.below hb25 o_x.lt
      replace o_i := o_i.below hb25 o_i.lt
      replace o_m := o_m.below hb25 o_m.lt
      replace hbw := below6 hbw hb25
      clear hb25
      go_wp2
      go_ret
      exact ⟨rfl, hbw⟩
end Go.Proofs.YtopfcfbiaadfeaaDoor
