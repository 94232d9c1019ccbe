/- The law EncloseCompares as a walk. -/
import Derived.Test.YtdjkgjpehneejaaLi
namespace Go.Proofs.Ytdjkgjpehneejaa
set_option linter.unusedSimpArgs false
set_option linter.unusedVariables false
set_option linter.unusedSectionVars false
open Go.RowKit Dg

theorem cmpR_lt {x y : Rat} : cmpR x y < 0 ↔ x < y := by
  have h := cmpR_gt (x := y) (y := x)
  rw [cmpR_swap y x] at h
  rw [← h]; omega
theorem rvalid_yes {x y : Rat} (hx : OkR x) (hy : OkR y) : RetV 35 #[IV x y] (.bool (decide (x ≤ y))) := by
  have h := rvalid_core _ _ _ _ _ _ true true (cmpR x y) (fun w => isratior_yes w hx) (fun w => isratior_yes w hy) (fun _ _ => rcmpr_yes hx hy)
  have e : (true && (true && decide (cmpR x y ≤ 0))) = decide (x ≤ y) := by
    simp [cmpR_le]
  rw [e] at h
  exact h
/-- How intervals lie. -/
def icmp (x1 y1 x2 y2 : Rat) : Int := if y1 < x2 then -1 else if y2 < x1 then 1 else 0
theorem icmp_core (x1 y1 x2 y2 : Rat) : (if (true && true) = true then (if cmpR y1 x2 < 0 then (-1 : Int) else if cmpR y2 x1 < 0 then 1 else 0) else 0) = icmp x1 y1 x2 y2 := by
  simp only [Bool.and_self, if_true, cmpR_lt]
  rfl
theorem ecompare_yes {x1 y1 x2 y2 : Rat} (h1 : OkR x1) (h2 : OkR y1) (h3 : OkR x2) (h4 : OkR y2) (h5 : x1 ≤ y1) (h6 : x2 ≤ y2) : RetV 22 #[IV x1 y1, IV x2 y2] (.int .i64 (icmp x1 y1 x2 y2)) := by
  have v1 := evalid_yes h1 h2
  have v2 := evalid_yes h3 h4
  rw [decide_eq_true h5] at v1
  rw [decide_eq_true h6] at v2
  have h := ecompare_core _ _ _ _ _ _ _ _ _ _ _ _ true true (cmpR y1 x2) (cmpR y2 x1) v1 v2 (fun _ _ w => rcmp_yes h2 h3 w) (fun _ _ w => rcmp_yes h4 h1 w)
  rw [icmp_core] at h
  exact h
theorem rcompare_yes {x1 y1 x2 y2 : Rat} (h1 : OkR x1) (h2 : OkR y1) (h3 : OkR x2) (h4 : OkR y2) (h5 : x1 ≤ y1) (h6 : x2 ≤ y2) : RetV 24 #[IV x1 y1, IV x2 y2] (.int .i64 (icmp x1 y1 x2 y2)) := by
  have v1 := rvalid_yes h1 h2
  have v2 := rvalid_yes h3 h4
  rw [decide_eq_true h5] at v1
  rw [decide_eq_true h6] at v2
  have h := rcompare_core _ _ _ _ _ _ _ _ _ _ _ _ true true (cmpR y1 x2) (cmpR y2 x1) v1 v2 (fun _ _ => rcmpr_yes h2 h3) (fun _ _ => rcmpr_yes h4 h1)
  rw [icmp_core] at h
  exact h
theorem econtains_yes {x y z : Rat} (h1 : OkR x) (h2 : OkR y) (h3 : OkR z) (h5 : x ≤ y) (h6 : x ≤ z) (h7 : z ≤ y) : RetV 25 #[IV x y, RV z] (.bool true) := by
  have v1 := evalid_yes h1 h2
  rw [decide_eq_true h5] at v1
  have h := econtains_core _ _ _ _ _ _ _ _ _ true true (cmpR x z) (cmpR z y) v1 (fun w => isratio_yes w h3) (fun _ _ w => rcmp_yes h1 h3 w) (fun _ _ w => rcmp_yes h3 h2 w)
  have e : (true && (true && (decide (cmpR x z ≤ 0) && decide (cmpR z y ≤ 0)))) = true := by
    simp [cmpR_le, h6, h7]
  rw [e] at h
  exact h

theorem icases (x1 y1 x2 y2 : Rat) (h1 : x1 ≤ y1) (h2 : x2 ≤ y2) : (icmp x1 y1 x2 y2 = -1 ∧ icmp x2 y2 x1 y1 = 1 ∧ cmpR y1 x2 < 0) ∨ (icmp x1 y1 x2 y2 = 1 ∧ icmp x2 y2 x1 y1 = -1 ∧ ¬ cmpR y1 x2 < 0 ∧ cmpR y2 x1 < 0) ∨ (icmp x1 y1 x2 y2 = 0 ∧ icmp x2 y2 x1 y1 = 0 ∧ ¬ cmpR y1 x2 < 0 ∧ ¬ cmpR y2 x1 < 0) := by
  simp only [cmpR_lt]
  unfold icmp
  by_cases g1 : y1 < x2
  · have g2 : ¬ y2 < x1 := by grind
    exact .inl ⟨by rw [if_pos g1], by rw [if_neg g2, if_pos g1], g1⟩
  · by_cases g2 : y2 < x1
    · exact .inr (.inl ⟨by rw [if_neg g1, if_pos g2], by rw [if_pos g2], g1, g2⟩)
    · exact .inr (.inr ⟨by rw [if_neg g1, if_neg g2], by rw [if_neg g2, if_neg g1], g1, g2⟩)
set_option maxRecDepth 100000 in
set_option maxHeartbeats 8000000 in
theorem law_compares37 (A : Option Addr) (l : List Int) (c : Nat) (w : World) (hA : Ints w A l) (hl : l.length ≤ c) (hc : c ≤ maxLen) (hw : Wide l) :
    Calls Try.prog 6 #[.slice A l.length c] w (Holds w) := by
  have HN := Lib.hid (new_any A l c w hA hl hc hw)
  clear hA hw
  go_enter Try.func6, Try.ntmps6
  go_wp2_with fail
  refine HN.out.mono ?_
  rintro e w1 ⟨rfl, ⟨l', hT⟩, hbw⟩
  have hS : ∀ k, k < w.heap.size → ¬ (k = w.heap.size) := fun k hk e => by omega
  have HS := Lib.hid hS
  clear HN hS
  generalize hpp : w.heap.size = p at hT HS ⊢
  rw [← hpp] at HS
  have HPP := Lib.hid hpp
  clear hpp
  go_wp2_with fail
  refine (interval_any p A l' c 0 _ hT).mono ?_
  rintro e ws1 ⟨⟨x1, y1, rfl, fx1, fy1, le1⟩, ⟨a1, hT'⟩, hc1⟩
  replace hbw := hbw.trans (hc1.below (B := w.heap.size) (fun k hk e => HS.out k hk (by rw [HPP.out]; exact e)) hbw.size)
  clear hT hc1
  have hT := hT'
  clear hT'
  go_wp2_with fail
  refine (interval_any p A l' c a1 _ hT).mono ?_
  rintro e ws2 ⟨⟨x2, y2, rfl, fx2, fy2, le2⟩, ⟨a2, hT'⟩, hc2⟩
  replace hbw := hbw.trans (hc2.below (B := w.heap.size) (fun k hk e => HS.out k hk (by rw [HPP.out]; exact e)) hbw.size)
  clear hT hc2
  have hT := hT'
  clear hT'
  clear hT HS HPP
  have k1 := fx1.ok (by decide)
  have k2 := fy1.ok (by decide)
  have k3 := fx2.ok (by decide)
  have k4 := fy2.ok (by decide)
  have HC := Lib.hid (ecompare_yes k1 k2 k3 k4 le1 le2)
  have HR := Lib.hid (rcompare_yes k1 k2 k3 k4 le1 le2)
  have HBA := Lib.hid (ecompare_yes k3 k4 k1 k2 le2 le1)
  have H1 : Hid (RetV 23 #[RV y1, RV x2] (.int .i64 (cmpR y1 x2))) := fun w => rcmp_yes k2 k3 w
  have H2 : Hid (RetV 23 #[RV y2, RV x1] (.int .i64 (cmpR y2 x1))) := fun w => rcmp_yes k4 k1 w
  have HK1 := Lib.hid (econtains_yes k1 k2 k1 le1 Rat.le_refl le1)
  have HK2 := Lib.hid (econtains_yes k1 k2 k2 le1 le1 Rat.le_refl)
  have HCA := Lib.hid (icases x1 y1 x2 y2 le1 le2)
  obtain ⟨na1, sa1, ta1, e1, na2, sa2, ta2, e2, e3⟩ := iv_open x1 y1
  obtain ⟨nb1, sb1, tb1, e4, nb2, sb2, tb2, e5, e6⟩ := iv_open x2 y2
  rw [e3, e6] at HC HR HBA
  rw [e2, e4] at H1
  rw [e5, e1] at H2
  rw [e3, e1] at HK1
  rw [e3, e2] at HK2
  rw [e3, e6]
  generalize icmp x1 y1 x2 y2 = ci at *
  generalize icmp x2 y2 x1 y1 = cj at *
  generalize cmpR y1 x2 = z1 at *
  generalize cmpR y2 x1 = z2 at *
  clear k1 k2 k3 k4 e1 e2 e3 e4 e5 e6 fx1 fy1 fx2 fy2 le1 le2
  obtain ⟨o_a, o_b, hz1⟩ := new2 ws2 [.bool na1, .string sa1, .string ta1, .bool na2, .string sa2, .string ta2] [.bool nb1, .string sb1, .string tb1, .bool nb2, .string sb2, .string tb2] 37 37
  replace hbw := below6 hbw hz1
  clear hz1
  rcases HCA.out with ⟨h1, h2, h3⟩ | ⟨h1, h2, h3, h4⟩ | ⟨h1, h2, h3, h4⟩
  · clear HCA
    subst h1
    subst h2
    have d1 : decide (z1 < 0) = true := decide_eq_true h3
    clear h3
    have qa_0 : ((ws2.alloc (.cells #[.bool na1, .string sa1, .string ta1, .bool na2, .string sa2, .string ta2] 37)).alloc (.cells #[.bool nb1, .string sb1, .string tb1, .bool nb2, .string sb2, .string tb2] 37)).cell? ⟨ws2.heap.size, 0, none⟩ = some (.bool na1) := o_a.cell 0
    have qa_1 : ((ws2.alloc (.cells #[.bool na1, .string sa1, .string ta1, .bool na2, .string sa2, .string ta2] 37)).alloc (.cells #[.bool nb1, .string sb1, .string tb1, .bool nb2, .string sb2, .string tb2] 37)).cell? ⟨ws2.heap.size, 1, none⟩ = some (.string sa1) := o_a.cell 1
    have qa_2 : ((ws2.alloc (.cells #[.bool na1, .string sa1, .string ta1, .bool na2, .string sa2, .string ta2] 37)).alloc (.cells #[.bool nb1, .string sb1, .string tb1, .bool nb2, .string sb2, .string tb2] 37)).cell? ⟨ws2.heap.size, 2, none⟩ = some (.string ta1) := o_a.cell 2
    have qa_3 : ((ws2.alloc (.cells #[.bool na1, .string sa1, .string ta1, .bool na2, .string sa2, .string ta2] 37)).alloc (.cells #[.bool nb1, .string sb1, .string tb1, .bool nb2, .string sb2, .string tb2] 37)).cell? ⟨ws2.heap.size, 3, none⟩ = some (.bool na2) := o_a.cell 3
    have qa_4 : ((ws2.alloc (.cells #[.bool na1, .string sa1, .string ta1, .bool na2, .string sa2, .string ta2] 37)).alloc (.cells #[.bool nb1, .string sb1, .string tb1, .bool nb2, .string sb2, .string tb2] 37)).cell? ⟨ws2.heap.size, 4, none⟩ = some (.string sa2) := o_a.cell 4
    have qa_5 : ((ws2.alloc (.cells #[.bool na1, .string sa1, .string ta1, .bool na2, .string sa2, .string ta2] 37)).alloc (.cells #[.bool nb1, .string sb1, .string tb1, .bool nb2, .string sb2, .string tb2] 37)).cell? ⟨ws2.heap.size, 5, none⟩ = some (.string ta2) := o_a.cell 5
    have qb_0 : ((ws2.alloc (.cells #[.bool na1, .string sa1, .string ta1, .bool na2, .string sa2, .string ta2] 37)).alloc (.cells #[.bool nb1, .string sb1, .string tb1, .bool nb2, .string sb2, .string tb2] 37)).cell? ⟨ws2.heap.size + 1, 0, none⟩ = some (.bool nb1) := o_b.cell 0
    have qb_1 : ((ws2.alloc (.cells #[.bool na1, .string sa1, .string ta1, .bool na2, .string sa2, .string ta2] 37)).alloc (.cells #[.bool nb1, .string sb1, .string tb1, .bool nb2, .string sb2, .string tb2] 37)).cell? ⟨ws2.heap.size + 1, 1, none⟩ = some (.string sb1) := o_b.cell 1
    have qb_2 : ((ws2.alloc (.cells #[.bool na1, .string sa1, .string ta1, .bool na2, .string sa2, .string ta2] 37)).alloc (.cells #[.bool nb1, .string sb1, .string tb1, .bool nb2, .string sb2, .string tb2] 37)).cell? ⟨ws2.heap.size + 1, 2, none⟩ = some (.string tb1) := o_b.cell 2
    have qb_3 : ((ws2.alloc (.cells #[.bool na1, .string sa1, .string ta1, .bool na2, .string sa2, .string ta2] 37)).alloc (.cells #[.bool nb1, .string sb1, .string tb1, .bool nb2, .string sb2, .string tb2] 37)).cell? ⟨ws2.heap.size + 1, 3, none⟩ = some (.bool nb2) := o_b.cell 3
    have qb_4 : ((ws2.alloc (.cells #[.bool na1, .string sa1, .string ta1, .bool na2, .string sa2, .string ta2] 37)).alloc (.cells #[.bool nb1, .string sb1, .string tb1, .bool nb2, .string sb2, .string tb2] 37)).cell? ⟨ws2.heap.size + 1, 4, none⟩ = some (.string sb2) := o_b.cell 4
    have qb_5 : ((ws2.alloc (.cells #[.bool na1, .string sa1, .string ta1, .bool na2, .string sa2, .string ta2] 37)).alloc (.cells #[.bool nb1, .string sb1, .string tb1, .bool nb2, .string sb2, .string tb2] 37)).cell? ⟨ws2.heap.size + 1, 5, none⟩ = some (.string tb2) := o_b.cell 5
    go_wp2_with fail
    generalize ((ws2.alloc (.cells #[.bool na1, .string sa1, .string ta1, .bool na2, .string sa2, .string ta2] 37)).alloc (.cells #[.bool nb1, .string sb1, .string tb1, .bool nb2, .string sb2, .string tb2] 37)) = wa2 at o_a o_b hbw ⊢
    generalize ws2.heap.size = g2 at o_a o_b ⊢
    clear qa_0 qa_1 qa_2 qa_3 qa_4 qa_5 qb_0 qb_1 qb_2 qb_3 qb_4 qb_5
    refine (HC.out _).mono ?_
    rintro e w3 ⟨rfl, hb3⟩
    replace o_a := o_a.below hb3 o_a.lt
    replace o_b := o_b.below hb3 o_b.lt
    replace hbw := below6 hbw hb3
    clear hb3
    have qa_0 : w3.cell? ⟨g2, 0, none⟩ = some (.bool na1) := o_a.cell 0
    have qa_1 : w3.cell? ⟨g2, 1, none⟩ = some (.string sa1) := o_a.cell 1
    have qa_2 : w3.cell? ⟨g2, 2, none⟩ = some (.string ta1) := o_a.cell 2
    have qa_3 : w3.cell? ⟨g2, 3, none⟩ = some (.bool na2) := o_a.cell 3
    have qa_4 : w3.cell? ⟨g2, 4, none⟩ = some (.string sa2) := o_a.cell 4
    have qa_5 : w3.cell? ⟨g2, 5, none⟩ = some (.string ta2) := o_a.cell 5
    have qb_0 : w3.cell? ⟨g2 + 1, 0, none⟩ = some (.bool nb1) := o_b.cell 0
    have qb_1 : w3.cell? ⟨g2 + 1, 1, none⟩ = some (.string sb1) := o_b.cell 1
    have qb_2 : w3.cell? ⟨g2 + 1, 2, none⟩ = some (.string tb1) := o_b.cell 2
    have qb_3 : w3.cell? ⟨g2 + 1, 3, none⟩ = some (.bool nb2) := o_b.cell 3
    have qb_4 : w3.cell? ⟨g2 + 1, 4, none⟩ = some (.string sb2) := o_b.cell 4
    have qb_5 : w3.cell? ⟨g2 + 1, 5, none⟩ = some (.string tb2) := o_b.cell 5
    go_wp2_with fail
    clear qa_0 qa_1 qa_2 qa_3 qa_4 qa_5 qb_0 qb_1 qb_2 qb_3 qb_4 qb_5
    refine (H1.out _).mono ?_
    rintro e w4 ⟨rfl, hb4⟩
    replace o_a := o_a.below hb4 o_a.lt
    replace o_b := o_b.below hb4 o_b.lt
    replace hbw := below6 hbw hb4
    clear hb4
    have qa_0 : w4.cell? ⟨g2, 0, none⟩ = some (.bool na1) := o_a.cell 0
    have qa_1 : w4.cell? ⟨g2, 1, none⟩ = some (.string sa1) := o_a.cell 1
    have qa_2 : w4.cell? ⟨g2, 2, none⟩ = some (.string ta1) := o_a.cell 2
    have qa_3 : w4.cell? ⟨g2, 3, none⟩ = some (.bool na2) := o_a.cell 3
    have qa_4 : w4.cell? ⟨g2, 4, none⟩ = some (.string sa2) := o_a.cell 4
    have qa_5 : w4.cell? ⟨g2, 5, none⟩ = some (.string ta2) := o_a.cell 5
    have qb_0 : w4.cell? ⟨g2 + 1, 0, none⟩ = some (.bool nb1) := o_b.cell 0
    have qb_1 : w4.cell? ⟨g2 + 1, 1, none⟩ = some (.string sb1) := o_b.cell 1
    have qb_2 : w4.cell? ⟨g2 + 1, 2, none⟩ = some (.string tb1) := o_b.cell 2
    have qb_3 : w4.cell? ⟨g2 + 1, 3, none⟩ = some (.bool nb2) := o_b.cell 3
    have qb_4 : w4.cell? ⟨g2 + 1, 4, none⟩ = some (.string sb2) := o_b.cell 4
    have qb_5 : w4.cell? ⟨g2 + 1, 5, none⟩ = some (.string tb2) := o_b.cell 5
    go_wp2_with fail
    clear qa_0 qa_1 qa_2 qa_3 qa_4 qa_5 qb_0 qb_1 qb_2 qb_3 qb_4 qb_5
    refine (HR.out _).mono ?_
    rintro e w5 ⟨rfl, hb5⟩
    replace o_a := o_a.below hb5 o_a.lt
    replace o_b := o_b.below hb5 o_b.lt
    replace hbw := below6 hbw hb5
    clear hb5
    have qa_0 : w5.cell? ⟨g2, 0, none⟩ = some (.bool na1) := o_a.cell 0
    have qa_1 : w5.cell? ⟨g2, 1, none⟩ = some (.string sa1) := o_a.cell 1
    have qa_2 : w5.cell? ⟨g2, 2, none⟩ = some (.string ta1) := o_a.cell 2
    have qa_3 : w5.cell? ⟨g2, 3, none⟩ = some (.bool na2) := o_a.cell 3
    have qa_4 : w5.cell? ⟨g2, 4, none⟩ = some (.string sa2) := o_a.cell 4
    have qa_5 : w5.cell? ⟨g2, 5, none⟩ = some (.string ta2) := o_a.cell 5
    have qb_0 : w5.cell? ⟨g2 + 1, 0, none⟩ = some (.bool nb1) := o_b.cell 0
    have qb_1 : w5.cell? ⟨g2 + 1, 1, none⟩ = some (.string sb1) := o_b.cell 1
    have qb_2 : w5.cell? ⟨g2 + 1, 2, none⟩ = some (.string tb1) := o_b.cell 2
    have qb_3 : w5.cell? ⟨g2 + 1, 3, none⟩ = some (.bool nb2) := o_b.cell 3
    have qb_4 : w5.cell? ⟨g2 + 1, 4, none⟩ = some (.string sb2) := o_b.cell 4
    have qb_5 : w5.cell? ⟨g2 + 1, 5, none⟩ = some (.string tb2) := o_b.cell 5
    go_wp2_with fail
    clear qa_0 qa_1 qa_2 qa_3 qa_4 qa_5 qb_0 qb_1 qb_2 qb_3 qb_4 qb_5
    refine (HBA.out _).mono ?_
    rintro e w6 ⟨rfl, hb6⟩
    replace o_a := o_a.below hb6 o_a.lt
    replace o_b := o_b.below hb6 o_b.lt
    replace hbw := below6 hbw hb6
    clear hb6
    have qa_0 : w6.cell? ⟨g2, 0, none⟩ = some (.bool na1) := o_a.cell 0
    have qa_1 : w6.cell? ⟨g2, 1, none⟩ = some (.string sa1) := o_a.cell 1
    have qa_2 : w6.cell? ⟨g2, 2, none⟩ = some (.string ta1) := o_a.cell 2
    have qa_3 : w6.cell? ⟨g2, 3, none⟩ = some (.bool na2) := o_a.cell 3
    have qa_4 : w6.cell? ⟨g2, 4, none⟩ = some (.string sa2) := o_a.cell 4
    have qa_5 : w6.cell? ⟨g2, 5, none⟩ = some (.string ta2) := o_a.cell 5
    have qb_0 : w6.cell? ⟨g2 + 1, 0, none⟩ = some (.bool nb1) := o_b.cell 0
    have qb_1 : w6.cell? ⟨g2 + 1, 1, none⟩ = some (.string sb1) := o_b.cell 1
    have qb_2 : w6.cell? ⟨g2 + 1, 2, none⟩ = some (.string tb1) := o_b.cell 2
    have qb_3 : w6.cell? ⟨g2 + 1, 3, none⟩ = some (.bool nb2) := o_b.cell 3
    have qb_4 : w6.cell? ⟨g2 + 1, 4, none⟩ = some (.string sb2) := o_b.cell 4
    have qb_5 : w6.cell? ⟨g2 + 1, 5, none⟩ = some (.string tb2) := o_b.cell 5
    go_wp2_with fail
    clear qa_0 qa_1 qa_2 qa_3 qa_4 qa_5 qb_0 qb_1 qb_2 qb_3 qb_4 qb_5
    refine (HK1.out _).mono ?_
    rintro e w7 ⟨rfl, hb7⟩
    replace o_a := o_a.below hb7 o_a.lt
    replace o_b := o_b.below hb7 o_b.lt
    replace hbw := below6 hbw hb7
    clear hb7
    have qa_0 : w7.cell? ⟨g2, 0, none⟩ = some (.bool na1) := o_a.cell 0
    have qa_1 : w7.cell? ⟨g2, 1, none⟩ = some (.string sa1) := o_a.cell 1
    have qa_2 : w7.cell? ⟨g2, 2, none⟩ = some (.string ta1) := o_a.cell 2
    have qa_3 : w7.cell? ⟨g2, 3, none⟩ = some (.bool na2) := o_a.cell 3
    have qa_4 : w7.cell? ⟨g2, 4, none⟩ = some (.string sa2) := o_a.cell 4
    have qa_5 : w7.cell? ⟨g2, 5, none⟩ = some (.string ta2) := o_a.cell 5
    have qb_0 : w7.cell? ⟨g2 + 1, 0, none⟩ = some (.bool nb1) := o_b.cell 0
    have qb_1 : w7.cell? ⟨g2 + 1, 1, none⟩ = some (.string sb1) := o_b.cell 1
    have qb_2 : w7.cell? ⟨g2 + 1, 2, none⟩ = some (.string tb1) := o_b.cell 2
    have qb_3 : w7.cell? ⟨g2 + 1, 3, none⟩ = some (.bool nb2) := o_b.cell 3
    have qb_4 : w7.cell? ⟨g2 + 1, 4, none⟩ = some (.string sb2) := o_b.cell 4
    have qb_5 : w7.cell? ⟨g2 + 1, 5, none⟩ = some (.string tb2) := o_b.cell 5
    go_wp2_with fail
    clear qa_0 qa_1 qa_2 qa_3 qa_4 qa_5 qb_0 qb_1 qb_2 qb_3 qb_4 qb_5
    refine (HK2.out _).mono ?_
    rintro e w8 ⟨rfl, hb8⟩
    replace o_a := o_a.below hb8 o_a.lt
    replace o_b := o_b.below hb8 o_b.lt
    replace hbw := below6 hbw hb8
    clear hb8
    go_wp2_with fail
    refine (known37 _).mono ?_
    rintro e w9 ⟨rfl, hb9⟩
    go_wp2
    go_ret
    exact ⟨rfl, below6 hbw hb9⟩
  · clear HCA
    subst h1
    subst h2
    have d1 : decide (z1 < 0) = false := decide_eq_false h3
    have d2 : decide (z2 < 0) = true := decide_eq_true h4
    clear h3 h4
    have qa_0 : ((ws2.alloc (.cells #[.bool na1, .string sa1, .string ta1, .bool na2, .string sa2, .string ta2] 37)).alloc (.cells #[.bool nb1, .string sb1, .string tb1, .bool nb2, .string sb2, .string tb2] 37)).cell? ⟨ws2.heap.size, 0, none⟩ = some (.bool na1) := o_a.cell 0
    have qa_1 : ((ws2.alloc (.cells #[.bool na1, .string sa1, .string ta1, .bool na2, .string sa2, .string ta2] 37)).alloc (.cells #[.bool nb1, .string sb1, .string tb1, .bool nb2, .string sb2, .string tb2] 37)).cell? ⟨ws2.heap.size, 1, none⟩ = some (.string sa1) := o_a.cell 1
    have qa_2 : ((ws2.alloc (.cells #[.bool na1, .string sa1, .string ta1, .bool na2, .string sa2, .string ta2] 37)).alloc (.cells #[.bool nb1, .string sb1, .string tb1, .bool nb2, .string sb2, .string tb2] 37)).cell? ⟨ws2.heap.size, 2, none⟩ = some (.string ta1) := o_a.cell 2
    have qa_3 : ((ws2.alloc (.cells #[.bool na1, .string sa1, .string ta1, .bool na2, .string sa2, .string ta2] 37)).alloc (.cells #[.bool nb1, .string sb1, .string tb1, .bool nb2, .string sb2, .string tb2] 37)).cell? ⟨ws2.heap.size, 3, none⟩ = some (.bool na2) := o_a.cell 3
    have qa_4 : ((ws2.alloc (.cells #[.bool na1, .string sa1, .string ta1, .bool na2, .string sa2, .string ta2] 37)).alloc (.cells #[.bool nb1, .string sb1, .string tb1, .bool nb2, .string sb2, .string tb2] 37)).cell? ⟨ws2.heap.size, 4, none⟩ = some (.string sa2) := o_a.cell 4
    have qa_5 : ((ws2.alloc (.cells #[.bool na1, .string sa1, .string ta1, .bool na2, .string sa2, .string ta2] 37)).alloc (.cells #[.bool nb1, .string sb1, .string tb1, .bool nb2, .string sb2, .string tb2] 37)).cell? ⟨ws2.heap.size, 5, none⟩ = some (.string ta2) := o_a.cell 5
    have qb_0 : ((ws2.alloc (.cells #[.bool na1, .string sa1, .string ta1, .bool na2, .string sa2, .string ta2] 37)).alloc (.cells #[.bool nb1, .string sb1, .string tb1, .bool nb2, .string sb2, .string tb2] 37)).cell? ⟨ws2.heap.size + 1, 0, none⟩ = some (.bool nb1) := o_b.cell 0
    have qb_1 : ((ws2.alloc (.cells #[.bool na1, .string sa1, .string ta1, .bool na2, .string sa2, .string ta2] 37)).alloc (.cells #[.bool nb1, .string sb1, .string tb1, .bool nb2, .string sb2, .string tb2] 37)).cell? ⟨ws2.heap.size + 1, 1, none⟩ = some (.string sb1) := o_b.cell 1
    have qb_2 : ((ws2.alloc (.cells #[.bool na1, .string sa1, .string ta1, .bool na2, .string sa2, .string ta2] 37)).alloc (.cells #[.bool nb1, .string sb1, .string tb1, .bool nb2, .string sb2, .string tb2] 37)).cell? ⟨ws2.heap.size + 1, 2, none⟩ = some (.string tb1) := o_b.cell 2
    have qb_3 : ((ws2.alloc (.cells #[.bool na1, .string sa1, .string ta1, .bool na2, .string sa2, .string ta2] 37)).alloc (.cells #[.bool nb1, .string sb1, .string tb1, .bool nb2, .string sb2, .string tb2] 37)).cell? ⟨ws2.heap.size + 1, 3, none⟩ = some (.bool nb2) := o_b.cell 3
    have qb_4 : ((ws2.alloc (.cells #[.bool na1, .string sa1, .string ta1, .bool na2, .string sa2, .string ta2] 37)).alloc (.cells #[.bool nb1, .string sb1, .string tb1, .bool nb2, .string sb2, .string tb2] 37)).cell? ⟨ws2.heap.size + 1, 4, none⟩ = some (.string sb2) := o_b.cell 4
    have qb_5 : ((ws2.alloc (.cells #[.bool na1, .string sa1, .string ta1, .bool na2, .string sa2, .string ta2] 37)).alloc (.cells #[.bool nb1, .string sb1, .string tb1, .bool nb2, .string sb2, .string tb2] 37)).cell? ⟨ws2.heap.size + 1, 5, none⟩ = some (.string tb2) := o_b.cell 5
    go_wp2_with fail
    generalize ((ws2.alloc (.cells #[.bool na1, .string sa1, .string ta1, .bool na2, .string sa2, .string ta2] 37)).alloc (.cells #[.bool nb1, .string sb1, .string tb1, .bool nb2, .string sb2, .string tb2] 37)) = wa2 at o_a o_b hbw ⊢
    generalize ws2.heap.size = g2 at o_a o_b ⊢
    clear qa_0 qa_1 qa_2 qa_3 qa_4 qa_5 qb_0 qb_1 qb_2 qb_3 qb_4 qb_5
    refine (HC.out _).mono ?_
    rintro e w3 ⟨rfl, hb3⟩
    replace o_a := o_a.below hb3 o_a.lt
    replace o_b := o_b.below hb3 o_b.lt
    replace hbw := below6 hbw hb3
    clear hb3
    have qa_0 : w3.cell? ⟨g2, 0, none⟩ = some (.bool na1) := o_a.cell 0
    have qa_1 : w3.cell? ⟨g2, 1, none⟩ = some (.string sa1) := o_a.cell 1
    have qa_2 : w3.cell? ⟨g2, 2, none⟩ = some (.string ta1) := o_a.cell 2
    have qa_3 : w3.cell? ⟨g2, 3, none⟩ = some (.bool na2) := o_a.cell 3
    have qa_4 : w3.cell? ⟨g2, 4, none⟩ = some (.string sa2) := o_a.cell 4
    have qa_5 : w3.cell? ⟨g2, 5, none⟩ = some (.string ta2) := o_a.cell 5
    have qb_0 : w3.cell? ⟨g2 + 1, 0, none⟩ = some (.bool nb1) := o_b.cell 0
    have qb_1 : w3.cell? ⟨g2 + 1, 1, none⟩ = some (.string sb1) := o_b.cell 1
    have qb_2 : w3.cell? ⟨g2 + 1, 2, none⟩ = some (.string tb1) := o_b.cell 2
    have qb_3 : w3.cell? ⟨g2 + 1, 3, none⟩ = some (.bool nb2) := o_b.cell 3
    have qb_4 : w3.cell? ⟨g2 + 1, 4, none⟩ = some (.string sb2) := o_b.cell 4
    have qb_5 : w3.cell? ⟨g2 + 1, 5, none⟩ = some (.string tb2) := o_b.cell 5
    go_wp2_with fail
    clear qa_0 qa_1 qa_2 qa_3 qa_4 qa_5 qb_0 qb_1 qb_2 qb_3 qb_4 qb_5
    refine (H1.out _).mono ?_
    rintro e w4 ⟨rfl, hb4⟩
    replace o_a := o_a.below hb4 o_a.lt
    replace o_b := o_b.below hb4 o_b.lt
    replace hbw := below6 hbw hb4
    clear hb4
    have qa_0 : w4.cell? ⟨g2, 0, none⟩ = some (.bool na1) := o_a.cell 0
    have qa_1 : w4.cell? ⟨g2, 1, none⟩ = some (.string sa1) := o_a.cell 1
    have qa_2 : w4.cell? ⟨g2, 2, none⟩ = some (.string ta1) := o_a.cell 2
    have qa_3 : w4.cell? ⟨g2, 3, none⟩ = some (.bool na2) := o_a.cell 3
    have qa_4 : w4.cell? ⟨g2, 4, none⟩ = some (.string sa2) := o_a.cell 4
    have qa_5 : w4.cell? ⟨g2, 5, none⟩ = some (.string ta2) := o_a.cell 5
    have qb_0 : w4.cell? ⟨g2 + 1, 0, none⟩ = some (.bool nb1) := o_b.cell 0
    have qb_1 : w4.cell? ⟨g2 + 1, 1, none⟩ = some (.string sb1) := o_b.cell 1
    have qb_2 : w4.cell? ⟨g2 + 1, 2, none⟩ = some (.string tb1) := o_b.cell 2
    have qb_3 : w4.cell? ⟨g2 + 1, 3, none⟩ = some (.bool nb2) := o_b.cell 3
    have qb_4 : w4.cell? ⟨g2 + 1, 4, none⟩ = some (.string sb2) := o_b.cell 4
    have qb_5 : w4.cell? ⟨g2 + 1, 5, none⟩ = some (.string tb2) := o_b.cell 5
    go_wp2_with fail
    clear qa_0 qa_1 qa_2 qa_3 qa_4 qa_5 qb_0 qb_1 qb_2 qb_3 qb_4 qb_5
    refine (H2.out _).mono ?_
    rintro e w5 ⟨rfl, hb5⟩
    replace o_a := o_a.below hb5 o_a.lt
    replace o_b := o_b.below hb5 o_b.lt
    replace hbw := below6 hbw hb5
    clear hb5
    have qa_0 : w5.cell? ⟨g2, 0, none⟩ = some (.bool na1) := o_a.cell 0
    have qa_1 : w5.cell? ⟨g2, 1, none⟩ = some (.string sa1) := o_a.cell 1
    have qa_2 : w5.cell? ⟨g2, 2, none⟩ = some (.string ta1) := o_a.cell 2
    have qa_3 : w5.cell? ⟨g2, 3, none⟩ = some (.bool na2) := o_a.cell 3
    have qa_4 : w5.cell? ⟨g2, 4, none⟩ = some (.string sa2) := o_a.cell 4
    have qa_5 : w5.cell? ⟨g2, 5, none⟩ = some (.string ta2) := o_a.cell 5
    have qb_0 : w5.cell? ⟨g2 + 1, 0, none⟩ = some (.bool nb1) := o_b.cell 0
    have qb_1 : w5.cell? ⟨g2 + 1, 1, none⟩ = some (.string sb1) := o_b.cell 1
    have qb_2 : w5.cell? ⟨g2 + 1, 2, none⟩ = some (.string tb1) := o_b.cell 2
    have qb_3 : w5.cell? ⟨g2 + 1, 3, none⟩ = some (.bool nb2) := o_b.cell 3
    have qb_4 : w5.cell? ⟨g2 + 1, 4, none⟩ = some (.string sb2) := o_b.cell 4
    have qb_5 : w5.cell? ⟨g2 + 1, 5, none⟩ = some (.string tb2) := o_b.cell 5
    go_wp2_with fail
    clear qa_0 qa_1 qa_2 qa_3 qa_4 qa_5 qb_0 qb_1 qb_2 qb_3 qb_4 qb_5
    refine (HR.out _).mono ?_
    rintro e w6 ⟨rfl, hb6⟩
    replace o_a := o_a.below hb6 o_a.lt
    replace o_b := o_b.below hb6 o_b.lt
    replace hbw := below6 hbw hb6
    clear hb6
    have qa_0 : w6.cell? ⟨g2, 0, none⟩ = some (.bool na1) := o_a.cell 0
    have qa_1 : w6.cell? ⟨g2, 1, none⟩ = some (.string sa1) := o_a.cell 1
    have qa_2 : w6.cell? ⟨g2, 2, none⟩ = some (.string ta1) := o_a.cell 2
    have qa_3 : w6.cell? ⟨g2, 3, none⟩ = some (.bool na2) := o_a.cell 3
    have qa_4 : w6.cell? ⟨g2, 4, none⟩ = some (.string sa2) := o_a.cell 4
    have qa_5 : w6.cell? ⟨g2, 5, none⟩ = some (.string ta2) := o_a.cell 5
    have qb_0 : w6.cell? ⟨g2 + 1, 0, none⟩ = some (.bool nb1) := o_b.cell 0
    have qb_1 : w6.cell? ⟨g2 + 1, 1, none⟩ = some (.string sb1) := o_b.cell 1
    have qb_2 : w6.cell? ⟨g2 + 1, 2, none⟩ = some (.string tb1) := o_b.cell 2
    have qb_3 : w6.cell? ⟨g2 + 1, 3, none⟩ = some (.bool nb2) := o_b.cell 3
    have qb_4 : w6.cell? ⟨g2 + 1, 4, none⟩ = some (.string sb2) := o_b.cell 4
    have qb_5 : w6.cell? ⟨g2 + 1, 5, none⟩ = some (.string tb2) := o_b.cell 5
    go_wp2_with fail
    clear qa_0 qa_1 qa_2 qa_3 qa_4 qa_5 qb_0 qb_1 qb_2 qb_3 qb_4 qb_5
    refine (HBA.out _).mono ?_
    rintro e w7 ⟨rfl, hb7⟩
    replace o_a := o_a.below hb7 o_a.lt
    replace o_b := o_b.below hb7 o_b.lt
    replace hbw := below6 hbw hb7
    clear hb7
    have qa_0 : w7.cell? ⟨g2, 0, none⟩ = some (.bool na1) := o_a.cell 0
    have qa_1 : w7.cell? ⟨g2, 1, none⟩ = some (.string sa1) := o_a.cell 1
    have qa_2 : w7.cell? ⟨g2, 2, none⟩ = some (.string ta1) := o_a.cell 2
    have qa_3 : w7.cell? ⟨g2, 3, none⟩ = some (.bool na2) := o_a.cell 3
    have qa_4 : w7.cell? ⟨g2, 4, none⟩ = some (.string sa2) := o_a.cell 4
    have qa_5 : w7.cell? ⟨g2, 5, none⟩ = some (.string ta2) := o_a.cell 5
    have qb_0 : w7.cell? ⟨g2 + 1, 0, none⟩ = some (.bool nb1) := o_b.cell 0
    have qb_1 : w7.cell? ⟨g2 + 1, 1, none⟩ = some (.string sb1) := o_b.cell 1
    have qb_2 : w7.cell? ⟨g2 + 1, 2, none⟩ = some (.string tb1) := o_b.cell 2
    have qb_3 : w7.cell? ⟨g2 + 1, 3, none⟩ = some (.bool nb2) := o_b.cell 3
    have qb_4 : w7.cell? ⟨g2 + 1, 4, none⟩ = some (.string sb2) := o_b.cell 4
    have qb_5 : w7.cell? ⟨g2 + 1, 5, none⟩ = some (.string tb2) := o_b.cell 5
    go_wp2_with fail
    clear qa_0 qa_1 qa_2 qa_3 qa_4 qa_5 qb_0 qb_1 qb_2 qb_3 qb_4 qb_5
    refine (HK1.out _).mono ?_
    rintro e w8 ⟨rfl, hb8⟩
    replace o_a := o_a.below hb8 o_a.lt
    replace o_b := o_b.below hb8 o_b.lt
    replace hbw := below6 hbw hb8
    clear hb8
    have qa_0 : w8.cell? ⟨g2, 0, none⟩ = some (.bool na1) := o_a.cell 0
    have qa_1 : w8.cell? ⟨g2, 1, none⟩ = some (.string sa1) := o_a.cell 1
    have qa_2 : w8.cell? ⟨g2, 2, none⟩ = some (.string ta1) := o_a.cell 2
    have qa_3 : w8.cell? ⟨g2, 3, none⟩ = some (.bool na2) := o_a.cell 3
    have qa_4 : w8.cell? ⟨g2, 4, none⟩ = some (.string sa2) := o_a.cell 4
    have qa_5 : w8.cell? ⟨g2, 5, none⟩ = some (.string ta2) := o_a.cell 5
    have qb_0 : w8.cell? ⟨g2 + 1, 0, none⟩ = some (.bool nb1) := o_b.cell 0
    have qb_1 : w8.cell? ⟨g2 + 1, 1, none⟩ = some (.string sb1) := o_b.cell 1
    have qb_2 : w8.cell? ⟨g2 + 1, 2, none⟩ = some (.string tb1) := o_b.cell 2
    have qb_3 : w8.cell? ⟨g2 + 1, 3, none⟩ = some (.bool nb2) := o_b.cell 3
    have qb_4 : w8.cell? ⟨g2 + 1, 4, none⟩ = some (.string sb2) := o_b.cell 4
    have qb_5 : w8.cell? ⟨g2 + 1, 5, none⟩ = some (.string tb2) := o_b.cell 5
    go_wp2_with fail
    clear qa_0 qa_1 qa_2 qa_3 qa_4 qa_5 qb_0 qb_1 qb_2 qb_3 qb_4 qb_5
    refine (HK2.out _).mono ?_
    rintro e w9 ⟨rfl, hb9⟩
    replace o_a := o_a.below hb9 o_a.lt
    replace o_b := o_b.below hb9 o_b.lt
    replace hbw := below6 hbw hb9
    clear hb9
    go_wp2_with fail
    refine (known37 _).mono ?_
    rintro e w9 ⟨rfl, hb9⟩
    go_wp2
    go_ret
    exact ⟨rfl, below6 hbw hb9⟩
  · clear HCA
    subst h1
    subst h2
    have d1 : decide (z1 < 0) = false := decide_eq_false h3
    have d2 : decide (z2 < 0) = false := decide_eq_false h4
    clear h3 h4
    have qa_0 : ((ws2.alloc (.cells #[.bool na1, .string sa1, .string ta1, .bool na2, .string sa2, .string ta2] 37)).alloc (.cells #[.bool nb1, .string sb1, .string tb1, .bool nb2, .string sb2, .string tb2] 37)).cell? ⟨ws2.heap.size, 0, none⟩ = some (.bool na1) := o_a.cell 0
    have qa_1 : ((ws2.alloc (.cells #[.bool na1, .string sa1, .string ta1, .bool na2, .string sa2, .string ta2] 37)).alloc (.cells #[.bool nb1, .string sb1, .string tb1, .bool nb2, .string sb2, .string tb2] 37)).cell? ⟨ws2.heap.size, 1, none⟩ = some (.string sa1) := o_a.cell 1
    have qa_2 : ((ws2.alloc (.cells #[.bool na1, .string sa1, .string ta1, .bool na2, .string sa2, .string ta2] 37)).alloc (.cells #[.bool nb1, .string sb1, .string tb1, .bool nb2, .string sb2, .string tb2] 37)).cell? ⟨ws2.heap.size, 2, none⟩ = some (.string ta1) := o_a.cell 2
    have qa_3 : ((ws2.alloc (.cells #[.bool na1, .string sa1, .string ta1, .bool na2, .string sa2, .string ta2] 37)).alloc (.cells #[.bool nb1, .string sb1, .string tb1, .bool nb2, .string sb2, .string tb2] 37)).cell? ⟨ws2.heap.size, 3, none⟩ = some (.bool na2) := o_a.cell 3
    have qa_4 : ((ws2.alloc (.cells #[.bool na1, .string sa1, .string ta1, .bool na2, .string sa2, .string ta2] 37)).alloc (.cells #[.bool nb1, .string sb1, .string tb1, .bool nb2, .string sb2, .string tb2] 37)).cell? ⟨ws2.heap.size, 4, none⟩ = some (.string sa2) := o_a.cell 4
    have qa_5 : ((ws2.alloc (.cells #[.bool na1, .string sa1, .string ta1, .bool na2, .string sa2, .string ta2] 37)).alloc (.cells #[.bool nb1, .string sb1, .string tb1, .bool nb2, .string sb2, .string tb2] 37)).cell? ⟨ws2.heap.size, 5, none⟩ = some (.string ta2) := o_a.cell 5
    have qb_0 : ((ws2.alloc (.cells #[.bool na1, .string sa1, .string ta1, .bool na2, .string sa2, .string ta2] 37)).alloc (.cells #[.bool nb1, .string sb1, .string tb1, .bool nb2, .string sb2, .string tb2] 37)).cell? ⟨ws2.heap.size + 1, 0, none⟩ = some (.bool nb1) := o_b.cell 0
    have qb_1 : ((ws2.alloc (.cells #[.bool na1, .string sa1, .string ta1, .bool na2, .string sa2, .string ta2] 37)).alloc (.cells #[.bool nb1, .string sb1, .string tb1, .bool nb2, .string sb2, .string tb2] 37)).cell? ⟨ws2.heap.size + 1, 1, none⟩ = some (.string sb1) := o_b.cell 1
    have qb_2 : ((ws2.alloc (.cells #[.bool na1, .string sa1, .string ta1, .bool na2, .string sa2, .string ta2] 37)).alloc (.cells #[.bool nb1, .string sb1, .string tb1, .bool nb2, .string sb2, .string tb2] 37)).cell? ⟨ws2.heap.size + 1, 2, none⟩ = some (.string tb1) := o_b.cell 2
    have qb_3 : ((ws2.alloc (.cells #[.bool na1, .string sa1, .string ta1, .bool na2, .string sa2, .string ta2] 37)).alloc (.cells #[.bool nb1, .string sb1, .string tb1, .bool nb2, .string sb2, .string tb2] 37)).cell? ⟨ws2.heap.size + 1, 3, none⟩ = some (.bool nb2) := o_b.cell 3
    have qb_4 : ((ws2.alloc (.cells #[.bool na1, .string sa1, .string ta1, .bool na2, .string sa2, .string ta2] 37)).alloc (.cells #[.bool nb1, .string sb1, .string tb1, .bool nb2, .string sb2, .string tb2] 37)).cell? ⟨ws2.heap.size + 1, 4, none⟩ = some (.string sb2) := o_b.cell 4
    have qb_5 : ((ws2.alloc (.cells #[.bool na1, .string sa1, .string ta1, .bool na2, .string sa2, .string ta2] 37)).alloc (.cells #[.bool nb1, .string sb1, .string tb1, .bool nb2, .string sb2, .string tb2] 37)).cell? ⟨ws2.heap.size + 1, 5, none⟩ = some (.string tb2) := o_b.cell 5
    go_wp2_with fail
    generalize ((ws2.alloc (.cells #[.bool na1, .string sa1, .string ta1, .bool na2, .string sa2, .string ta2] 37)).alloc (.cells #[.bool nb1, .string sb1, .string tb1, .bool nb2, .string sb2, .string tb2] 37)) = wa2 at o_a o_b hbw ⊢
    generalize ws2.heap.size = g2 at o_a o_b ⊢
    clear qa_0 qa_1 qa_2 qa_3 qa_4 qa_5 qb_0 qb_1 qb_2 qb_3 qb_4 qb_5
    refine (HC.out _).mono ?_
    rintro e w3 ⟨rfl, hb3⟩
    replace o_a := o_a.below hb3 o_a.lt
    replace o_b := o_b.below hb3 o_b.lt
    replace hbw := below6 hbw hb3
    clear hb3
    have qa_0 : w3.cell? ⟨g2, 0, none⟩ = some (.bool na1) := o_a.cell 0
    have qa_1 : w3.cell? ⟨g2, 1, none⟩ = some (.string sa1) := o_a.cell 1
    have qa_2 : w3.cell? ⟨g2, 2, none⟩ = some (.string ta1) := o_a.cell 2
    have qa_3 : w3.cell? ⟨g2, 3, none⟩ = some (.bool na2) := o_a.cell 3
    have qa_4 : w3.cell? ⟨g2, 4, none⟩ = some (.string sa2) := o_a.cell 4
    have qa_5 : w3.cell? ⟨g2, 5, none⟩ = some (.string ta2) := o_a.cell 5
    have qb_0 : w3.cell? ⟨g2 + 1, 0, none⟩ = some (.bool nb1) := o_b.cell 0
    have qb_1 : w3.cell? ⟨g2 + 1, 1, none⟩ = some (.string sb1) := o_b.cell 1
    have qb_2 : w3.cell? ⟨g2 + 1, 2, none⟩ = some (.string tb1) := o_b.cell 2
    have qb_3 : w3.cell? ⟨g2 + 1, 3, none⟩ = some (.bool nb2) := o_b.cell 3
    have qb_4 : w3.cell? ⟨g2 + 1, 4, none⟩ = some (.string sb2) := o_b.cell 4
    have qb_5 : w3.cell? ⟨g2 + 1, 5, none⟩ = some (.string tb2) := o_b.cell 5
    go_wp2_with fail
    clear qa_0 qa_1 qa_2 qa_3 qa_4 qa_5 qb_0 qb_1 qb_2 qb_3 qb_4 qb_5
    refine (H1.out _).mono ?_
    rintro e w4 ⟨rfl, hb4⟩
    replace o_a := o_a.below hb4 o_a.lt
    replace o_b := o_b.below hb4 o_b.lt
    replace hbw := below6 hbw hb4
    clear hb4
    have qa_0 : w4.cell? ⟨g2, 0, none⟩ = some (.bool na1) := o_a.cell 0
    have qa_1 : w4.cell? ⟨g2, 1, none⟩ = some (.string sa1) := o_a.cell 1
    have qa_2 : w4.cell? ⟨g2, 2, none⟩ = some (.string ta1) := o_a.cell 2
    have qa_3 : w4.cell? ⟨g2, 3, none⟩ = some (.bool na2) := o_a.cell 3
    have qa_4 : w4.cell? ⟨g2, 4, none⟩ = some (.string sa2) := o_a.cell 4
    have qa_5 : w4.cell? ⟨g2, 5, none⟩ = some (.string ta2) := o_a.cell 5
    have qb_0 : w4.cell? ⟨g2 + 1, 0, none⟩ = some (.bool nb1) := o_b.cell 0
    have qb_1 : w4.cell? ⟨g2 + 1, 1, none⟩ = some (.string sb1) := o_b.cell 1
    have qb_2 : w4.cell? ⟨g2 + 1, 2, none⟩ = some (.string tb1) := o_b.cell 2
    have qb_3 : w4.cell? ⟨g2 + 1, 3, none⟩ = some (.bool nb2) := o_b.cell 3
    have qb_4 : w4.cell? ⟨g2 + 1, 4, none⟩ = some (.string sb2) := o_b.cell 4
    have qb_5 : w4.cell? ⟨g2 + 1, 5, none⟩ = some (.string tb2) := o_b.cell 5
    go_wp2_with fail
    clear qa_0 qa_1 qa_2 qa_3 qa_4 qa_5 qb_0 qb_1 qb_2 qb_3 qb_4 qb_5
    refine (H2.out _).mono ?_
    rintro e w5 ⟨rfl, hb5⟩
    replace o_a := o_a.below hb5 o_a.lt
    replace o_b := o_b.below hb5 o_b.lt
    replace hbw := below6 hbw hb5
    clear hb5
    have qa_0 : w5.cell? ⟨g2, 0, none⟩ = some (.bool na1) := o_a.cell 0
    have qa_1 : w5.cell? ⟨g2, 1, none⟩ = some (.string sa1) := o_a.cell 1
    have qa_2 : w5.cell? ⟨g2, 2, none⟩ = some (.string ta1) := o_a.cell 2
    have qa_3 : w5.cell? ⟨g2, 3, none⟩ = some (.bool na2) := o_a.cell 3
    have qa_4 : w5.cell? ⟨g2, 4, none⟩ = some (.string sa2) := o_a.cell 4
    have qa_5 : w5.cell? ⟨g2, 5, none⟩ = some (.string ta2) := o_a.cell 5
    have qb_0 : w5.cell? ⟨g2 + 1, 0, none⟩ = some (.bool nb1) := o_b.cell 0
    have qb_1 : w5.cell? ⟨g2 + 1, 1, none⟩ = some (.string sb1) := o_b.cell 1
    have qb_2 : w5.cell? ⟨g2 + 1, 2, none⟩ = some (.string tb1) := o_b.cell 2
    have qb_3 : w5.cell? ⟨g2 + 1, 3, none⟩ = some (.bool nb2) := o_b.cell 3
    have qb_4 : w5.cell? ⟨g2 + 1, 4, none⟩ = some (.string sb2) := o_b.cell 4
    have qb_5 : w5.cell? ⟨g2 + 1, 5, none⟩ = some (.string tb2) := o_b.cell 5
    go_wp2_with fail
    clear qa_0 qa_1 qa_2 qa_3 qa_4 qa_5 qb_0 qb_1 qb_2 qb_3 qb_4 qb_5
    refine (HR.out _).mono ?_
    rintro e w6 ⟨rfl, hb6⟩
    replace o_a := o_a.below hb6 o_a.lt
    replace o_b := o_b.below hb6 o_b.lt
    replace hbw := below6 hbw hb6
    clear hb6
    have qa_0 : w6.cell? ⟨g2, 0, none⟩ = some (.bool na1) := o_a.cell 0
    have qa_1 : w6.cell? ⟨g2, 1, none⟩ = some (.string sa1) := o_a.cell 1
    have qa_2 : w6.cell? ⟨g2, 2, none⟩ = some (.string ta1) := o_a.cell 2
    have qa_3 : w6.cell? ⟨g2, 3, none⟩ = some (.bool na2) := o_a.cell 3
    have qa_4 : w6.cell? ⟨g2, 4, none⟩ = some (.string sa2) := o_a.cell 4
    have qa_5 : w6.cell? ⟨g2, 5, none⟩ = some (.string ta2) := o_a.cell 5
    have qb_0 : w6.cell? ⟨g2 + 1, 0, none⟩ = some (.bool nb1) := o_b.cell 0
    have qb_1 : w6.cell? ⟨g2 + 1, 1, none⟩ = some (.string sb1) := o_b.cell 1
    have qb_2 : w6.cell? ⟨g2 + 1, 2, none⟩ = some (.string tb1) := o_b.cell 2
    have qb_3 : w6.cell? ⟨g2 + 1, 3, none⟩ = some (.bool nb2) := o_b.cell 3
    have qb_4 : w6.cell? ⟨g2 + 1, 4, none⟩ = some (.string sb2) := o_b.cell 4
    have qb_5 : w6.cell? ⟨g2 + 1, 5, none⟩ = some (.string tb2) := o_b.cell 5
    go_wp2_with fail
    clear qa_0 qa_1 qa_2 qa_3 qa_4 qa_5 qb_0 qb_1 qb_2 qb_3 qb_4 qb_5
    refine (HBA.out _).mono ?_
    rintro e w7 ⟨rfl, hb7⟩
    replace o_a := o_a.below hb7 o_a.lt
    replace o_b := o_b.below hb7 o_b.lt
    replace hbw := below6 hbw hb7
    clear hb7
    have qa_0 : w7.cell? ⟨g2, 0, none⟩ = some (.bool na1) := o_a.cell 0
    have qa_1 : w7.cell? ⟨g2, 1, none⟩ = some (.string sa1) := o_a.cell 1
    have qa_2 : w7.cell? ⟨g2, 2, none⟩ = some (.string ta1) := o_a.cell 2
    have qa_3 : w7.cell? ⟨g2, 3, none⟩ = some (.bool na2) := o_a.cell 3
    have qa_4 : w7.cell? ⟨g2, 4, none⟩ = some (.string sa2) := o_a.cell 4
    have qa_5 : w7.cell? ⟨g2, 5, none⟩ = some (.string ta2) := o_a.cell 5
    have qb_0 : w7.cell? ⟨g2 + 1, 0, none⟩ = some (.bool nb1) := o_b.cell 0
    have qb_1 : w7.cell? ⟨g2 + 1, 1, none⟩ = some (.string sb1) := o_b.cell 1
    have qb_2 : w7.cell? ⟨g2 + 1, 2, none⟩ = some (.string tb1) := o_b.cell 2
    have qb_3 : w7.cell? ⟨g2 + 1, 3, none⟩ = some (.bool nb2) := o_b.cell 3
    have qb_4 : w7.cell? ⟨g2 + 1, 4, none⟩ = some (.string sb2) := o_b.cell 4
    have qb_5 : w7.cell? ⟨g2 + 1, 5, none⟩ = some (.string tb2) := o_b.cell 5
    go_wp2_with fail
    clear qa_0 qa_1 qa_2 qa_3 qa_4 qa_5 qb_0 qb_1 qb_2 qb_3 qb_4 qb_5
    refine (HK1.out _).mono ?_
    rintro e w8 ⟨rfl, hb8⟩
    replace o_a := o_a.below hb8 o_a.lt
    replace o_b := o_b.below hb8 o_b.lt
    replace hbw := below6 hbw hb8
    clear hb8
    have qa_0 : w8.cell? ⟨g2, 0, none⟩ = some (.bool na1) := o_a.cell 0
    have qa_1 : w8.cell? ⟨g2, 1, none⟩ = some (.string sa1) := o_a.cell 1
    have qa_2 : w8.cell? ⟨g2, 2, none⟩ = some (.string ta1) := o_a.cell 2
    have qa_3 : w8.cell? ⟨g2, 3, none⟩ = some (.bool na2) := o_a.cell 3
    have qa_4 : w8.cell? ⟨g2, 4, none⟩ = some (.string sa2) := o_a.cell 4
    have qa_5 : w8.cell? ⟨g2, 5, none⟩ = some (.string ta2) := o_a.cell 5
    have qb_0 : w8.cell? ⟨g2 + 1, 0, none⟩ = some (.bool nb1) := o_b.cell 0
    have qb_1 : w8.cell? ⟨g2 + 1, 1, none⟩ = some (.string sb1) := o_b.cell 1
    have qb_2 : w8.cell? ⟨g2 + 1, 2, none⟩ = some (.string tb1) := o_b.cell 2
    have qb_3 : w8.cell? ⟨g2 + 1, 3, none⟩ = some (.bool nb2) := o_b.cell 3
    have qb_4 : w8.cell? ⟨g2 + 1, 4, none⟩ = some (.string sb2) := o_b.cell 4
    have qb_5 : w8.cell? ⟨g2 + 1, 5, none⟩ = some (.string tb2) := o_b.cell 5
    go_wp2_with fail
    clear qa_0 qa_1 qa_2 qa_3 qa_4 qa_5 qb_0 qb_1 qb_2 qb_3 qb_4 qb_5
    refine (HK2.out _).mono ?_
    rintro e w9 ⟨rfl, hb9⟩
    replace o_a := o_a.below hb9 o_a.lt
    replace o_b := o_b.below hb9 o_b.lt
    replace hbw := below6 hbw hb9
    clear hb9
    go_wp2_with fail
    refine (known37 _).mono ?_
    rintro e w9 ⟨rfl, hb9⟩
    go_wp2
    go_ret
    exact ⟨rfl, below6 hbw hb9⟩
end Go.Proofs.Ytdjkgjpehneejaa
