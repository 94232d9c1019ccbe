/- The law RatioOrder as a walk. -/
import Derived.Test.YtofijnhkoadfjaaPf
namespace Go.Proofs.Ytofijnhkoadfjaa
set_option linter.unusedSimpArgs false
set_option linter.unusedVariables false
set_option linter.unusedSectionVars false
open Go.RowKit Dg

theorem cmpR_neg (x y : Rat) : decide (cmpR x y < 0) = decide ((x - y).num < 0) := by
  rw [decide_eq_decide]
  have h1 : (x - y).num < 0 ↔ x - y < 0 := by
    rw [← Rat.not_le, ← Rat.num_nonneg]; omega
  rw [h1]
  unfold cmpR
  by_cases h : x < y
  · rw [if_pos h]; constructor
    · intro _; grind
    · intro _; omega
  · rw [if_neg h]
    constructor
    · intro h2; exfalso; split at h2 <;> omega
    · intro h2; exact absurd (show x < y by grind) h
theorem okS_1' : S 1 = ⟨#[49]⟩ := by
  apply ba_ext
  rw [S_list]
  rfl
theorem RV_one : RV 1 = .agg #[.bool false, .string ⟨#[49]⟩, .string ⟨#[49]⟩] := by
  show RatV _ _ _ = _
  have e1 : (1 : Rat).num = 1 := rfl
  have e2 : (1 : Rat).den = 1 := rfl
  unfold RatV
  rw [e1, e2, show (1 : Int).natAbs = 1 from rfl, okS_1']
  rfl
theorem rv_int (n : Int) : ∃ b s, RV (n : Rat) = .agg #[.bool b, .string s, .string ⟨#[49]⟩] := by
  refine ⟨decide ((n : Rat).num < 0), S (n : Rat).num.natAbs, ?_⟩
  show RatV _ _ _ = _
  unfold RatV
  rw [Rat.den_intCast, okS_1']
theorem rv_nonneg {x : Rat} (h : 0 ≤ x) : ∃ s t, RV x = .agg #[.bool false, .string s, .string t] := by
  refine ⟨S x.num.natAbs, S x.den, ?_⟩
  show RatV _ _ _ = _
  unfold RatV
  rw [decide_eq_false (by have := Rat.num_nonneg.2 h; omega)]

theorem few_one : Few 1 (1 : Rat) := ⟨dec_len_le (by decide) (by decide), dec_len_le (by decide) (by decide)⟩
set_option maxRecDepth 100000 in
set_option maxHeartbeats 8000000 in
theorem law_order (A1 : Option Addr) (l1 : List Int) (c1 : Nat) (A2 : Option Addr) (l2 : List Int) (c2 : Nat) (w : World) (hA1 : Ints w A1 l1) (hl1 : l1.length ≤ c1) (hc1 : c1 ≤ maxLen) (hw1 : Wide l1)
    (hA2 : Ints w A2 l2) (hl2 : l2.length ≤ c2) (hc2 : c2 ≤ maxLen) (hw2 : Wide l2) (h0 : Cell0 w) :
    Calls Try.prog 7 #[.slice A1 l1.length c1, .slice A2 l2.length c2] w (Holds w) := by
  have HS1 : Hid (∀ w1, Below w.heap.size w w1 → Calls Try.prog 23 #[.slice A1 l1.length c1] w1 fun e w' => (∃ x, e = .returned (RV x) ∧ Few 20 x) ∧ Below w1.heap.size w1 w') := fun w1 hb => some_any A1 l1 c1 w1 (Ints.below hA1 hb) hl1 hc1 hw1
  have HS2 : Hid (∀ w1, Below w.heap.size w w1 → Calls Try.prog 23 #[.slice A2 l2.length c2] w1 fun e w' => (∃ x, e = .returned (RV x) ∧ Few 20 x) ∧ Below w1.heap.size w1 w') := fun w1 hb => some_any A2 l2 c2 w1 (Ints.below hA2 hb) hl2 hc2 hw2
  have H0 := Lib.hid h0
  clear hA1 hA2 hw1 hw2 h0
  have hbw := Below.refl w.heap.size w
  go_enter Try.func7, Try.ntmps7
  go_wp2_with fail
  refine (HS1.out _ hbw).mono ?_
  rintro e w1 ⟨⟨a, rfl, fa⟩, hb1⟩
  replace hbw := below6 hbw hb1
  clear hb1
  go_wp2_with fail
  refine (HS2.out _ hbw).mono ?_
  rintro e w2 ⟨⟨b, rfl, fb⟩, hb2⟩
  replace hbw := below6 hbw hb2
  clear hb2
  clear HS1 HS2
  have ff := floor_few fa (by decide)
  have fd := few_sub fa fb
  have fr := few_sub fa ff
  have K_d := Lib.hid (op_sub fa fb (by decide))
  have K_f := Lib.hid (floor_ok fa (by decide) (by decide))
  have K_r := Lib.hid (op_sub fa ff (by decide))
  have K_t := Lib.hid (fun w => fmt_yes (fa.ok (by decide)) w)
  have K_p : Hid (∀ w1, Below w.heap.size w w1 → Calls Try.prog 30 #[.string (FmtS (decide (a.num < 0)) (S a.num.natAbs) (S a.den))] w1 fun e w' => e = .returned (.tuple #[RV a, .int .i64 0]) ∧ Below w1.heap.size w1 w') := fun w1 hb => parse_fmt fa (by decide) w1 (H0.out.below hb)
  have K_c : Hid (∀ w, Calls Try.prog 32 #[RV a, RV b] w fun e w' => e = .returned (.int .i64 (cmpR a b)) ∧ Below w.heap.size w w') := fun w => rcmp_yes (fa.ok (by decide)) (fb.ok (by decide)) w
  have K_e : Hid (∀ w, Calls Try.prog 32 #[RV (a - ((a.floor : Int) : Rat)), RV 1] w fun e w' => e = .returned (.int .i64 (cmpR (a - ((a.floor : Int) : Rat)) 1)) ∧ Below w.heap.size w w') := fun w => rcmp_yes (fr.ok (by decide)) (few_one.ok (by decide)) w
  have hd0 := cmpR_neg a b
  have hr0 : (0 : Rat) ≤ a - ((a.floor : Int) : Rat) := by have := Rat.floor_le a; grind
  have hr1 : decide (cmpR (a - ((a.floor : Int) : Rat)) 1 < 0) = true := by
    apply decide_eq_true
    have h : a - ((a.floor : Int) : Rat) < 1 := by have := Rat.lt_floor (x := a); grind
    unfold cmpR
    rw [if_pos h]; omega
  obtain ⟨na, sa, ta, hva⟩ := rv_open a
  obtain ⟨nb, sb, tb, hvb⟩ := rv_open b
  obtain ⟨nd, sd, td, hvd, hnd⟩ : ∃ n s t, RV (a - b) = .agg #[.bool n, .string s, .string t] ∧ decide ((a - b).num < 0) = n := ⟨_, _, _, rfl, rfl⟩
  obtain ⟨nf, sf, hvf⟩ := rv_int a.floor
  obtain ⟨sr, tr, hvr⟩ := rv_nonneg hr0
  have hv1 := RV_one
  rw [hnd] at hd0
  rw [hva, hvb]
  rw [hva, hvb, hvd] at K_d
  rw [hva, hvf] at K_f
  rw [hva, hvf, hvr] at K_r
  rw [hva] at K_t K_p
  rw [hva, hvb] at K_c
  rw [hvr, hv1] at K_e
  generalize FmtS (decide (a.num < 0)) (S a.num.natAbs) (S a.den) = tx at K_t K_p
  generalize cmpR (a - ((a.floor : Int) : Rat)) 1 = z2 at K_e hr1
  generalize cmpR a b = z1 at K_c hd0
  have e1 : (decide (z1 < 0) == nd) = true := by rw [hd0]; simp
  clear hva hvb hvd hvf hvr hv1 hnd hr0 fa fb ff fd fr H0
  obtain ⟨o_a, o_b, hz3⟩ := new2 w2 [.bool na, .string sa, .string ta] [.bool nb, .string sb, .string tb] 33 33
  replace hbw := below6 hbw hz3
  clear hz3
  have qa_0 : ((w2.alloc (.cells #[.bool na, .string sa, .string ta] 33)).alloc (.cells #[.bool nb, .string sb, .string tb] 33)).cell? ⟨w2.heap.size, 0, none⟩ = some (.bool na) := o_a.cell 0
  have qa_1 : ((w2.alloc (.cells #[.bool na, .string sa, .string ta] 33)).alloc (.cells #[.bool nb, .string sb, .string tb] 33)).cell? ⟨w2.heap.size, 1, none⟩ = some (.string sa) := o_a.cell 1
  have qa_2 : ((w2.alloc (.cells #[.bool na, .string sa, .string ta] 33)).alloc (.cells #[.bool nb, .string sb, .string tb] 33)).cell? ⟨w2.heap.size, 2, none⟩ = some (.string ta) := o_a.cell 2
  have qb_0 : ((w2.alloc (.cells #[.bool na, .string sa, .string ta] 33)).alloc (.cells #[.bool nb, .string sb, .string tb] 33)).cell? ⟨w2.heap.size + 1, 0, none⟩ = some (.bool nb) := o_b.cell 0
  have qb_1 : ((w2.alloc (.cells #[.bool na, .string sa, .string ta] 33)).alloc (.cells #[.bool nb, .string sb, .string tb] 33)).cell? ⟨w2.heap.size + 1, 1, none⟩ = some (.string sb) := o_b.cell 1
  have qb_2 : ((w2.alloc (.cells #[.bool na, .string sa, .string ta] 33)).alloc (.cells #[.bool nb, .string sb, .string tb] 33)).cell? ⟨w2.heap.size + 1, 2, none⟩ = some (.string tb) := o_b.cell 2
  go_wp2_with fail
  generalize ((w2.alloc (.cells #[.bool na, .string sa, .string ta] 33)).alloc (.cells #[.bool nb, .string sb, .string tb] 33)) = wa4 at o_a o_b hbw ⊢
  generalize w2.heap.size = g4 at o_a o_b ⊢
  clear qa_0 qa_1 qa_2 qb_0 qb_1 qb_2
  refine (K_d.out _).mono ?_
  rintro e w5 ⟨rfl, hb5⟩
  replace o_a := o_a.below hb5 o_a.lt
  replace o_b := o_b.below hb5 o_b.lt
  replace hbw := below6 hbw hb5
  clear hb5
  obtain ⟨o_d, hz6⟩ := new1 w5 [.bool nd, .string sd, .string td] 33
  replace o_a := o_a.alloc (.cells #[.bool nd, .string sd, .string td] 33)
  replace o_b := o_b.alloc (.cells #[.bool nd, .string sd, .string td] 33)
  replace hbw := below6 hbw hz6
  clear hz6
  have qa_0 : (w5.alloc (.cells #[.bool nd, .string sd, .string td] 33)).cell? ⟨g4, 0, none⟩ = some (.bool na) := o_a.cell 0
  have qa_1 : (w5.alloc (.cells #[.bool nd, .string sd, .string td] 33)).cell? ⟨g4, 1, none⟩ = some (.string sa) := o_a.cell 1
  have qa_2 : (w5.alloc (.cells #[.bool nd, .string sd, .string td] 33)).cell? ⟨g4, 2, none⟩ = some (.string ta) := o_a.cell 2
  go_wp2_with fail
  generalize (w5.alloc (.cells #[.bool nd, .string sd, .string td] 33)) = wa7 at o_a o_b o_d hbw ⊢
  generalize w5.heap.size = g7 at o_d ⊢
  clear qa_0 qa_1 qa_2
  refine (K_f.out _).mono ?_
  rintro e w8 ⟨rfl, hb8⟩
  replace o_a := o_a.below hb8 o_a.lt
  replace o_b := o_b.below hb8 o_b.lt
  replace o_d := o_d.below hb8 o_d.lt
  replace hbw := below6 hbw hb8
  clear hb8
  obtain ⟨o_f, hz9⟩ := new1 w8 [.bool nf, .string sf, .string ⟨#[49]⟩] 33
  replace o_a := o_a.alloc (.cells #[.bool nf, .string sf, .string ⟨#[49]⟩] 33)
  replace o_b := o_b.alloc (.cells #[.bool nf, .string sf, .string ⟨#[49]⟩] 33)
  replace o_d := o_d.alloc (.cells #[.bool nf, .string sf, .string ⟨#[49]⟩] 33)
  replace hbw := below6 hbw hz9
  clear hz9
  have qa_0 : (w8.alloc (.cells #[.bool nf, .string sf, .string ⟨#[49]⟩] 33)).cell? ⟨g4, 0, none⟩ = some (.bool na) := o_a.cell 0
  have qa_1 : (w8.alloc (.cells #[.bool nf, .string sf, .string ⟨#[49]⟩] 33)).cell? ⟨g4, 1, none⟩ = some (.string sa) := o_a.cell 1
  have qa_2 : (w8.alloc (.cells #[.bool nf, .string sf, .string ⟨#[49]⟩] 33)).cell? ⟨g4, 2, none⟩ = some (.string ta) := o_a.cell 2
  have qf_0 : (w8.alloc (.cells #[.bool nf, .string sf, .string ⟨#[49]⟩] 33)).cell? ⟨w8.heap.size, 0, none⟩ = some (.bool nf) := o_f.cell 0
  have qf_1 : (w8.alloc (.cells #[.bool nf, .string sf, .string ⟨#[49]⟩] 33)).cell? ⟨w8.heap.size, 1, none⟩ = some (.string sf) := o_f.cell 1
  have qf_2 : (w8.alloc (.cells #[.bool nf, .string sf, .string ⟨#[49]⟩] 33)).cell? ⟨w8.heap.size, 2, none⟩ = some (.string ⟨#[49]⟩) := o_f.cell 2
  go_wp2_with fail
  generalize (w8.alloc (.cells #[.bool nf, .string sf, .string ⟨#[49]⟩] 33)) = wa10 at o_a o_b o_d o_f hbw ⊢
  generalize w8.heap.size = g10 at o_f ⊢
  clear qa_0 qa_1 qa_2 qf_0 qf_1 qf_2
  refine (K_r.out _).mono ?_
  rintro e w11 ⟨rfl, hb11⟩
  replace o_a := o_a.below hb11 o_a.lt
  replace o_b := o_b.below hb11 o_b.lt
  replace o_d := o_d.below hb11 o_d.lt
  replace o_f := o_f.below hb11 o_f.lt
  replace hbw := below6 hbw hb11
  clear hb11
  obtain ⟨o_r, hz12⟩ := new1 w11 [.bool false, .string sr, .string tr] 33
  replace o_a := o_a.alloc (.cells #[.bool false, .string sr, .string tr] 33)
  replace o_b := o_b.alloc (.cells #[.bool false, .string sr, .string tr] 33)
  replace o_d := o_d.alloc (.cells #[.bool false, .string sr, .string tr] 33)
  replace o_f := o_f.alloc (.cells #[.bool false, .string sr, .string tr] 33)
  replace hbw := below6 hbw hz12
  clear hz12
  have qa_0 : (w11.alloc (.cells #[.bool false, .string sr, .string tr] 33)).cell? ⟨g4, 0, none⟩ = some (.bool na) := o_a.cell 0
  have qa_1 : (w11.alloc (.cells #[.bool false, .string sr, .string tr] 33)).cell? ⟨g4, 1, none⟩ = some (.string sa) := o_a.cell 1
  have qa_2 : (w11.alloc (.cells #[.bool false, .string sr, .string tr] 33)).cell? ⟨g4, 2, none⟩ = some (.string ta) := o_a.cell 2
  go_wp2_with fail
  generalize (w11.alloc (.cells #[.bool false, .string sr, .string tr] 33)) = wa13 at o_a o_b o_d o_f o_r hbw ⊢
  generalize w11.heap.size = g13 at o_r ⊢
  clear qa_0 qa_1 qa_2
  refine (K_t.out _).mono ?_
  rintro e w14 ⟨rfl, hb14⟩
  replace o_a := o_a.below hb14 o_a.lt
  replace o_b := o_b.below hb14 o_b.lt
  replace o_d := o_d.below hb14 o_d.lt
  replace o_f := o_f.below hb14 o_f.lt
  replace o_r := o_r.below hb14 o_r.lt
  replace hbw := below6 hbw hb14
  clear hb14
  go_wp2_with fail
  refine (K_p.out _ hbw).mono ?_
  rintro e w15 ⟨rfl, hb15⟩
  replace o_a := o_a.below hb15 o_a.lt
  replace o_b := o_b.below hb15 o_b.lt
  replace o_d := o_d.below hb15 o_d.lt
  replace o_f := o_f.below hb15 o_f.lt
  replace o_r := o_r.below hb15 o_r.lt
  replace hbw := below6 hbw hb15
  clear hb15
  obtain ⟨o_k, hz16⟩ := new1 w15 [.bool na, .string sa, .string ta] 33
  replace o_a := o_a.alloc (.cells #[.bool na, .string sa, .string ta] 33)
  replace o_b := o_b.alloc (.cells #[.bool na, .string sa, .string ta] 33)
  replace o_d := o_d.alloc (.cells #[.bool na, .string sa, .string ta] 33)
  replace o_f := o_f.alloc (.cells #[.bool na, .string sa, .string ta] 33)
  replace o_r := o_r.alloc (.cells #[.bool na, .string sa, .string ta] 33)
  replace hbw := below6 hbw hz16
  clear hz16
  go_upto_region 6 with (fail)
  generalize (w15.alloc (.cells #[.bool na, .string sa, .string ta] 33)) = wa17 at o_a o_b o_d o_f o_r o_k hbw ⊢
  generalize w15.heap.size = g17 at o_k ⊢
  obtain ⟨o_o, hz18⟩ := new1 wa17 [.bool false, .string ⟨#[49]⟩, .string ⟨#[49]⟩] 33
  replace o_a := o_a.alloc (.cells #[.bool false, .string ⟨#[49]⟩, .string ⟨#[49]⟩] 33)
  replace o_b := o_b.alloc (.cells #[.bool false, .string ⟨#[49]⟩, .string ⟨#[49]⟩] 33)
  replace o_d := o_d.alloc (.cells #[.bool false, .string ⟨#[49]⟩, .string ⟨#[49]⟩] 33)
  replace o_f := o_f.alloc (.cells #[.bool false, .string ⟨#[49]⟩, .string ⟨#[49]⟩] 33)
  replace o_r := o_r.alloc (.cells #[.bool false, .string ⟨#[49]⟩, .string ⟨#[49]⟩] 33)
  replace o_k := o_k.alloc (.cells #[.bool false, .string ⟨#[49]⟩, .string ⟨#[49]⟩] 33)
  replace hbw := below6 hbw hz18
  clear hz18
  go_upto_region 7 with (fail)
  generalize (wa17.alloc (.cells #[.bool false, .string ⟨#[49]⟩, .string ⟨#[49]⟩] 33)) = wa19 at o_a o_b o_d o_f o_r o_k o_o hbw ⊢
  generalize wa17.heap.size = g19 at o_o ⊢
  have qa_0 : wa19.cell? ⟨g4, 0, none⟩ = some (.bool na) := o_a.cell 0
  have qa_1 : wa19.cell? ⟨g4, 1, none⟩ = some (.string sa) := o_a.cell 1
  have qa_2 : wa19.cell? ⟨g4, 2, none⟩ = some (.string ta) := o_a.cell 2
  have qb_0 : wa19.cell? ⟨g4 + 1, 0, none⟩ = some (.bool nb) := o_b.cell 0
  have qb_1 : wa19.cell? ⟨g4 + 1, 1, none⟩ = some (.string sb) := o_b.cell 1
  have qb_2 : wa19.cell? ⟨g4 + 1, 2, none⟩ = some (.string tb) := o_b.cell 2
  have qd_0 : wa19.cell? ⟨g7, 0, none⟩ = some (.bool nd) := o_d.cell 0
  have qd_1 : wa19.cell? ⟨g7, 1, none⟩ = some (.string sd) := o_d.cell 1
  have qd_2 : wa19.cell? ⟨g7, 2, none⟩ = some (.string td) := o_d.cell 2
  have qf_0 : wa19.cell? ⟨g10, 0, none⟩ = some (.bool nf) := o_f.cell 0
  have qf_1 : wa19.cell? ⟨g10, 1, none⟩ = some (.string sf) := o_f.cell 1
  have qf_2 : wa19.cell? ⟨g10, 2, none⟩ = some (.string ⟨#[49]⟩) := o_f.cell 2
  have qr_0 : wa19.cell? ⟨g13, 0, none⟩ = some (.bool false) := o_r.cell 0
  have qr_1 : wa19.cell? ⟨g13, 1, none⟩ = some (.string sr) := o_r.cell 1
  have qr_2 : wa19.cell? ⟨g13, 2, none⟩ = some (.string tr) := o_r.cell 2
  have qk_0 : wa19.cell? ⟨g17, 0, none⟩ = some (.bool na) := o_k.cell 0
  have qk_1 : wa19.cell? ⟨g17, 1, none⟩ = some (.string sa) := o_k.cell 1
  have qk_2 : wa19.cell? ⟨g17, 2, none⟩ = some (.string ta) := o_k.cell 2
  have qo_0 : wa19.cell? ⟨g19, 0, none⟩ = some (.bool false) := o_o.cell 0
  have qo_1 : wa19.cell? ⟨g19, 1, none⟩ = some (.string ⟨#[49]⟩) := o_o.cell 1
  have qo_2 : wa19.cell? ⟨g19, 2, none⟩ = some (.string ⟨#[49]⟩) := o_o.cell 2
  have HKN := Lib.hid known_any
  clear K_d K_f K_r K_t K_p
  refine wp_reg_abs (some 44 :: some 45 :: some 46 :: some 47 :: some 48 :: some 49 :: some 50 :: some 51 :: some 52 :: some 53 :: some 54 :: some 55 :: some 56 :: some 57 :: some 58 :: some 59 :: some 60 :: some 61 :: some 62 :: some 63 :: some 64 :: some 65 :: some 66 :: some 67 :: some 68 :: some 69 :: some 70 :: some 71 :: some 72 :: some 73 :: some 74 :: some 75 :: some 76 :: some 77 :: some 78 :: some 79 :: some 80 :: some 81 :: some 82 :: some 83 :: some 84 :: some 85 :: some 86 :: some 87 :: some 88 :: some 89 :: some 90 :: some 4 :: []) (?v1_0 :: ?v1_1 :: ?v1_2 :: ?v1_3 :: ?v1_4 :: ?v1_5 :: ?v1_6 :: ?v1_7 :: ?v1_8 :: ?v1_9 :: ?v1_10 :: ?v1_11 :: ?v1_12 :: ?v1_13 :: ?v1_14 :: ?v1_15 :: ?v1_16 :: ?v1_17 :: ?v1_18 :: ?v1_19 :: ?v1_20 :: ?v1_21 :: ?v1_22 :: ?v1_23 :: ?v1_24 :: ?v1_25 :: ?v1_26 :: ?v1_27 :: ?v1_28 :: ?v1_29 :: ?v1_30 :: ?v1_31 :: ?v1_32 :: ?v1_33 :: ?v1_34 :: ?v1_35 :: ?v1_36 :: ?v1_37 :: ?v1_38 :: ?v1_39 :: ?v1_40 :: ?v1_41 :: ?v1_42 :: ?v1_43 :: ?v1_44 :: ?v1_45 :: ?v1_46 :: ?v1_47 :: []) rfl (by kernel_rfl) rfl rfl ⟨?s1_0, ?s1_1, ?s1_2, ?s1_3, ?s1_4, ?s1_5, ?s1_6, ?s1_7, ?s1_8, ?s1_9, ?s1_10, ?s1_11, ?s1_12, ?s1_13, ?s1_14, ?s1_15, ?s1_16, ?s1_17, ?s1_18, ?s1_19, ?s1_20, ?s1_21, ?s1_22, ?s1_23, ?s1_24, ?s1_25, ?s1_26, ?s1_27, ?s1_28, ?s1_29, ?s1_30, ?s1_31, ?s1_32, ?s1_33, ?s1_34, ?s1_35, ?s1_36, ?s1_37, ?s1_38, ?s1_39, ?s1_40, ?s1_41, ?s1_42, ?s1_43, ?s1_44, ?s1_45, ?s1_46, ?s1_47, trivial⟩ ?p1
  case s1_0 =>
    intro t9 w9 hT9 hV9 hO9 K9 hK9
    have o9_8 := hO9 8 _ (by kernel_rfl) rfl
    clear hV9 hO9
    go_simp
    exact hK9 _ (Grow.refl _)
  case s1_1 =>
    intro t9 w9 hT9 hV9 hO9 K9 hK9
    have p9_0 : t9[44]? = some ?v1_0 := hV9 0 44 rfl rfl (of_decide_eq_true (by kernel_rfl))
    clear hV9 hO9
    go_simp
    exact hK9 _ (Grow.refl _)
  case s1_2 =>
    intro t9 w9 hT9 hV9 hO9 K9 hK9
    have p9_1 : t9[45]? = some ?v1_1 := hV9 1 45 rfl rfl (of_decide_eq_true (by kernel_rfl))
    clear hV9 hO9
    go_simp
    exact hK9 _ (Grow.refl _)
  case s1_3 =>
    intro t9 w9 hT9 hV9 hO9 K9 hK9
    have p9_2 : t9[46]? = some ?v1_2 := hV9 2 46 rfl rfl (of_decide_eq_true (by kernel_rfl))
    have o9_10 := hO9 10 _ (by kernel_rfl) rfl
    clear hV9 hO9
    go_simp
    exact hK9 _ (Grow.refl _)
  case s1_4 =>
    intro t9 w9 hT9 hV9 hO9 K9 hK9
    have p9_2 : t9[46]? = some ?v1_2 := hV9 2 46 rfl rfl (of_decide_eq_true (by kernel_rfl))
    have p9_3 : t9[47]? = some ?v1_3 := hV9 3 47 rfl rfl (of_decide_eq_true (by kernel_rfl))
    clear hV9 hO9
    go_simp
    exact hK9 _ (Grow.refl _)
  case s1_5 =>
    intro t9 w9 hT9 hV9 hO9 K9 hK9
    have p9_2 : t9[46]? = some ?v1_2 := hV9 2 46 rfl rfl (of_decide_eq_true (by kernel_rfl))
    have p9_4 : t9[48]? = some ?v1_4 := hV9 4 48 rfl rfl (of_decide_eq_true (by kernel_rfl))
    clear hV9 hO9
    go_simp
    exact hK9 _ (Grow.refl _)
  case s1_6 =>
    intro t9 w9 hT9 hV9 hO9 K9 hK9
    have p9_5 : t9[49]? = some ?v1_5 := hV9 5 49 rfl rfl (of_decide_eq_true (by kernel_rfl))
    clear hV9 hO9
    go_simp
    exact hK9 _ (Grow.refl _)
  case s1_7 =>
    intro t9 w9 hT9 hV9 hO9 K9 hK9
    have p9_6 : t9[50]? = some ?v1_6 := hV9 6 50 rfl rfl (of_decide_eq_true (by kernel_rfl))
    have o9_12 := hO9 12 _ (by kernel_rfl) rfl
    clear hV9 hO9
    go_simp
    exact hK9 _ (Grow.refl _)
  case s1_8 =>
    intro t9 w9 hT9 hV9 hO9 K9 hK9
    have p9_6 : t9[50]? = some ?v1_6 := hV9 6 50 rfl rfl (of_decide_eq_true (by kernel_rfl))
    have p9_7 : t9[51]? = some ?v1_7 := hV9 7 51 rfl rfl (of_decide_eq_true (by kernel_rfl))
    clear hV9 hO9
    go_simp
    exact hK9 _ (Grow.refl _)
  case s1_9 =>
    intro t9 w9 hT9 hV9 hO9 K9 hK9
    have p9_6 : t9[50]? = some ?v1_6 := hV9 6 50 rfl rfl (of_decide_eq_true (by kernel_rfl))
    have p9_8 : t9[52]? = some ?v1_8 := hV9 8 52 rfl rfl (of_decide_eq_true (by kernel_rfl))
    clear hV9 hO9
    go_simp
    exact hK9 _ (Grow.refl _)
  case s1_10 =>
    intro t9 w9 hT9 hV9 hO9 K9 hK9
    have p9_9 : t9[53]? = some ?v1_9 := hV9 9 53 rfl rfl (of_decide_eq_true (by kernel_rfl))
    clear hV9 hO9
    go_simp
    exact hK9 _ (Grow.refl _)
  case s1_11 =>
    intro t9 w9 hT9 hV9 hO9 K9 hK9
    have p9_10 : t9[54]? = some ?v1_10 := hV9 10 54 rfl rfl (of_decide_eq_true (by kernel_rfl))
    have o9_14 := hO9 14 _ (by kernel_rfl) rfl
    clear hV9 hO9
    go_simp
    exact hK9 _ (Grow.refl _)
  case s1_12 =>
    intro t9 w9 hT9 hV9 hO9 K9 hK9
    have p9_10 : t9[54]? = some ?v1_10 := hV9 10 54 rfl rfl (of_decide_eq_true (by kernel_rfl))
    have p9_11 : t9[55]? = some ?v1_11 := hV9 11 55 rfl rfl (of_decide_eq_true (by kernel_rfl))
    clear hV9 hO9
    go_simp
    exact hK9 _ (Grow.refl _)
  case s1_13 =>
    intro t9 w9 hT9 hV9 hO9 K9 hK9
    have p9_10 : t9[54]? = some ?v1_10 := hV9 10 54 rfl rfl (of_decide_eq_true (by kernel_rfl))
    have p9_12 : t9[56]? = some ?v1_12 := hV9 12 56 rfl rfl (of_decide_eq_true (by kernel_rfl))
    clear hV9 hO9
    go_simp
    exact hK9 _ (Grow.refl _)
  case s1_14 =>
    intro t9 w9 hT9 hV9 hO9 K9 hK9
    have p9_13 : t9[57]? = some ?v1_13 := hV9 13 57 rfl rfl (of_decide_eq_true (by kernel_rfl))
    clear hV9 hO9
    go_simp
    exact hK9 _ (Grow.refl _)
  case s1_15 =>
    intro t9 w9 hT9 hV9 hO9 K9 hK9
    have p9_14 : t9[58]? = some ?v1_14 := hV9 14 58 rfl rfl (of_decide_eq_true (by kernel_rfl))
    have o9_5 := hO9 5 _ (by kernel_rfl) rfl
    clear hV9 hO9
    have d9_0 := grow_cell hT9 qa_0
    have d9_1 := grow_cell hT9 qa_1
    have d9_2 := grow_cell hT9 qa_2
    have d9_3 := grow_cell hT9 qb_0
    have d9_4 := grow_cell hT9 qb_1
    have d9_5 := grow_cell hT9 qb_2
    have d9_6 := grow_cell hT9 qd_0
    have d9_7 := grow_cell hT9 qd_1
    have d9_8 := grow_cell hT9 qd_2
    have d9_9 := grow_cell hT9 qf_0
    have d9_10 := grow_cell hT9 qf_1
    have d9_11 := grow_cell hT9 qf_2
    have d9_12 := grow_cell hT9 qr_0
    have d9_13 := grow_cell hT9 qr_1
    have d9_14 := grow_cell hT9 qr_2
    have d9_15 := grow_cell hT9 qk_0
    have d9_16 := grow_cell hT9 qk_1
    have d9_17 := grow_cell hT9 qk_2
    have d9_18 := grow_cell hT9 qo_0
    have d9_19 := grow_cell hT9 qo_1
    have d9_20 := grow_cell hT9 qo_2
    go_simp
    exact hK9 _ (Grow.refl _)
  case s1_16 =>
    intro t9 w9 hT9 hV9 hO9 K9 hK9
    have p9_14 : t9[58]? = some ?v1_14 := hV9 14 58 rfl rfl (of_decide_eq_true (by kernel_rfl))
    have o9_6 := hO9 6 _ (by kernel_rfl) rfl
    clear hV9 hO9
    have d9_0 := grow_cell hT9 qa_0
    have d9_1 := grow_cell hT9 qa_1
    have d9_2 := grow_cell hT9 qa_2
    have d9_3 := grow_cell hT9 qb_0
    have d9_4 := grow_cell hT9 qb_1
    have d9_5 := grow_cell hT9 qb_2
    have d9_6 := grow_cell hT9 qd_0
    have d9_7 := grow_cell hT9 qd_1
    have d9_8 := grow_cell hT9 qd_2
    have d9_9 := grow_cell hT9 qf_0
    have d9_10 := grow_cell hT9 qf_1
    have d9_11 := grow_cell hT9 qf_2
    have d9_12 := grow_cell hT9 qr_0
    have d9_13 := grow_cell hT9 qr_1
    have d9_14 := grow_cell hT9 qr_2
    have d9_15 := grow_cell hT9 qk_0
    have d9_16 := grow_cell hT9 qk_1
    have d9_17 := grow_cell hT9 qk_2
    have d9_18 := grow_cell hT9 qo_0
    have d9_19 := grow_cell hT9 qo_1
    have d9_20 := grow_cell hT9 qo_2
    go_simp
    exact hK9 _ (Grow.refl _)
  case s1_17 =>
    intro t9 w9 hT9 hV9 hO9 K9 hK9
    have p9_14 : t9[58]? = some ?v1_14 := hV9 14 58 rfl rfl (of_decide_eq_true (by kernel_rfl))
    have p9_15 : t9[59]? = some ?v1_15 := hV9 15 59 rfl rfl (of_decide_eq_true (by kernel_rfl))
    have p9_16 : t9[60]? = some ?v1_16 := hV9 16 60 rfl rfl (of_decide_eq_true (by kernel_rfl))
    clear hV9 hO9
    go_simp
    first | exact hK9 _ (Grow.refl _) | (refine (K_c.out _).mono ?_; rintro _ w8 ⟨rfl, hb8⟩; exact hK9 _ hb8)
  case s1_18 =>
    intro t9 w9 hT9 hV9 hO9 K9 hK9
    have p9_14 : t9[58]? = some ?v1_14 := hV9 14 58 rfl rfl (of_decide_eq_true (by kernel_rfl))
    have p9_17 : t9[61]? = some ?v1_17 := hV9 17 61 rfl rfl (of_decide_eq_true (by kernel_rfl))
    clear hV9 hO9
    go_simp
    exact hK9 _ (Grow.refl _)
  case s1_19 =>
    intro t9 w9 hT9 hV9 hO9 K9 hK9
    have p9_14 : t9[58]? = some ?v1_14 := hV9 14 58 rfl rfl (of_decide_eq_true (by kernel_rfl))
    have o9_7 := hO9 7 _ (by kernel_rfl) rfl
    clear hV9 hO9
    go_simp
    exact hK9 _ (Grow.refl _)
  case s1_20 =>
    intro t9 w9 hT9 hV9 hO9 K9 hK9
    have p9_14 : t9[58]? = some ?v1_14 := hV9 14 58 rfl rfl (of_decide_eq_true (by kernel_rfl))
    have p9_19 : t9[63]? = some ?v1_19 := hV9 19 63 rfl rfl (of_decide_eq_true (by kernel_rfl))
    clear hV9 hO9
    have d9_0 := grow_cell hT9 qa_0
    have d9_1 := grow_cell hT9 qa_1
    have d9_2 := grow_cell hT9 qa_2
    have d9_3 := grow_cell hT9 qb_0
    have d9_4 := grow_cell hT9 qb_1
    have d9_5 := grow_cell hT9 qb_2
    have d9_6 := grow_cell hT9 qd_0
    have d9_7 := grow_cell hT9 qd_1
    have d9_8 := grow_cell hT9 qd_2
    have d9_9 := grow_cell hT9 qf_0
    have d9_10 := grow_cell hT9 qf_1
    have d9_11 := grow_cell hT9 qf_2
    have d9_12 := grow_cell hT9 qr_0
    have d9_13 := grow_cell hT9 qr_1
    have d9_14 := grow_cell hT9 qr_2
    have d9_15 := grow_cell hT9 qk_0
    have d9_16 := grow_cell hT9 qk_1
    have d9_17 := grow_cell hT9 qk_2
    have d9_18 := grow_cell hT9 qo_0
    have d9_19 := grow_cell hT9 qo_1
    have d9_20 := grow_cell hT9 qo_2
    go_simp
    exact hK9 _ (Grow.refl _)
  case s1_21 =>
    intro t9 w9 hT9 hV9 hO9 K9 hK9
    have p9_14 : t9[58]? = some ?v1_14 := hV9 14 58 rfl rfl (of_decide_eq_true (by kernel_rfl))
    have p9_18 : t9[62]? = some ?v1_18 := hV9 18 62 rfl rfl (of_decide_eq_true (by kernel_rfl))
    have p9_20 : t9[64]? = some ?v1_20 := hV9 20 64 rfl rfl (of_decide_eq_true (by kernel_rfl))
    clear hV9 hO9
    go_simp
    exact hK9 _ (Grow.refl _)
  case s1_22 =>
    intro t9 w9 hT9 hV9 hO9 K9 hK9
    have p9_14 : t9[58]? = some ?v1_14 := hV9 14 58 rfl rfl (of_decide_eq_true (by kernel_rfl))
    have p9_21 : t9[65]? = some ?v1_21 := hV9 21 65 rfl rfl (of_decide_eq_true (by kernel_rfl))
    clear hV9 hO9
    go_simp
    exact hK9 _ (Grow.refl _)
  case s1_23 =>
    intro t9 w9 hT9 hV9 hO9 K9 hK9
    have p9_22 : t9[66]? = some ?v1_22 := hV9 22 66 rfl rfl (of_decide_eq_true (by kernel_rfl))
    clear hV9 hO9
    go_simp
    exact hK9 _ (Grow.refl _)
  case s1_24 =>
    intro t9 w9 hT9 hV9 hO9 K9 hK9
    have p9_23 : t9[67]? = some ?v1_23 := hV9 23 67 rfl rfl (of_decide_eq_true (by kernel_rfl))
    have o9_9 := hO9 9 _ (by kernel_rfl) rfl
    clear hV9 hO9
    go_simp
    exact hK9 _ (Grow.refl _)
  case s1_25 =>
    intro t9 w9 hT9 hV9 hO9 K9 hK9
    have p9_23 : t9[67]? = some ?v1_23 := hV9 23 67 rfl rfl (of_decide_eq_true (by kernel_rfl))
    have p9_24 : t9[68]? = some ?v1_24 := hV9 24 68 rfl rfl (of_decide_eq_true (by kernel_rfl))
    clear hV9 hO9
    have d9_0 := grow_cell hT9 qa_0
    have d9_1 := grow_cell hT9 qa_1
    have d9_2 := grow_cell hT9 qa_2
    have d9_3 := grow_cell hT9 qb_0
    have d9_4 := grow_cell hT9 qb_1
    have d9_5 := grow_cell hT9 qb_2
    have d9_6 := grow_cell hT9 qd_0
    have d9_7 := grow_cell hT9 qd_1
    have d9_8 := grow_cell hT9 qd_2
    have d9_9 := grow_cell hT9 qf_0
    have d9_10 := grow_cell hT9 qf_1
    have d9_11 := grow_cell hT9 qf_2
    have d9_12 := grow_cell hT9 qr_0
    have d9_13 := grow_cell hT9 qr_1
    have d9_14 := grow_cell hT9 qr_2
    have d9_15 := grow_cell hT9 qk_0
    have d9_16 := grow_cell hT9 qk_1
    have d9_17 := grow_cell hT9 qk_2
    have d9_18 := grow_cell hT9 qo_0
    have d9_19 := grow_cell hT9 qo_1
    have d9_20 := grow_cell hT9 qo_2
    go_simp
    exact hK9 _ (Grow.refl _)
  case s1_26 =>
    intro t9 w9 hT9 hV9 hO9 K9 hK9
    have p9_23 : t9[67]? = some ?v1_23 := hV9 23 67 rfl rfl (of_decide_eq_true (by kernel_rfl))
    have p9_25 : t9[69]? = some ?v1_25 := hV9 25 69 rfl rfl (of_decide_eq_true (by kernel_rfl))
    clear hV9 hO9
    go_simp
    exact hK9 _ (Grow.refl _)
  case s1_27 =>
    intro t9 w9 hT9 hV9 hO9 K9 hK9
    have p9_23 : t9[67]? = some ?v1_23 := hV9 23 67 rfl rfl (of_decide_eq_true (by kernel_rfl))
    have p9_26 : t9[70]? = some ?v1_26 := hV9 26 70 rfl rfl (of_decide_eq_true (by kernel_rfl))
    clear hV9 hO9
    go_simp
    exact hK9 _ (Grow.refl _)
  case s1_28 =>
    intro t9 w9 hT9 hV9 hO9 K9 hK9
    have p9_27 : t9[71]? = some ?v1_27 := hV9 27 71 rfl rfl (of_decide_eq_true (by kernel_rfl))
    clear hV9 hO9
    go_simp
    exact hK9 _ (Grow.refl _)
  case s1_29 =>
    intro t9 w9 hT9 hV9 hO9 K9 hK9
    have p9_28 : t9[72]? = some ?v1_28 := hV9 28 72 rfl rfl (of_decide_eq_true (by kernel_rfl))
    have o9_11 := hO9 11 _ (by kernel_rfl) rfl
    clear hV9 hO9
    go_simp
    exact hK9 _ (Grow.refl _)
  case s1_30 =>
    intro t9 w9 hT9 hV9 hO9 K9 hK9
    have p9_28 : t9[72]? = some ?v1_28 := hV9 28 72 rfl rfl (of_decide_eq_true (by kernel_rfl))
    have p9_29 : t9[73]? = some ?v1_29 := hV9 29 73 rfl rfl (of_decide_eq_true (by kernel_rfl))
    clear hV9 hO9
    have d9_0 := grow_cell hT9 qa_0
    have d9_1 := grow_cell hT9 qa_1
    have d9_2 := grow_cell hT9 qa_2
    have d9_3 := grow_cell hT9 qb_0
    have d9_4 := grow_cell hT9 qb_1
    have d9_5 := grow_cell hT9 qb_2
    have d9_6 := grow_cell hT9 qd_0
    have d9_7 := grow_cell hT9 qd_1
    have d9_8 := grow_cell hT9 qd_2
    have d9_9 := grow_cell hT9 qf_0
    have d9_10 := grow_cell hT9 qf_1
    have d9_11 := grow_cell hT9 qf_2
    have d9_12 := grow_cell hT9 qr_0
    have d9_13 := grow_cell hT9 qr_1
    have d9_14 := grow_cell hT9 qr_2
    have d9_15 := grow_cell hT9 qk_0
    have d9_16 := grow_cell hT9 qk_1
    have d9_17 := grow_cell hT9 qk_2
    have d9_18 := grow_cell hT9 qo_0
    have d9_19 := grow_cell hT9 qo_1
    have d9_20 := grow_cell hT9 qo_2
    go_simp
    exact hK9 _ (Grow.refl _)
  case s1_31 =>
    intro t9 w9 hT9 hV9 hO9 K9 hK9
    have p9_28 : t9[72]? = some ?v1_28 := hV9 28 72 rfl rfl (of_decide_eq_true (by kernel_rfl))
    have p9_30 : t9[74]? = some ?v1_30 := hV9 30 74 rfl rfl (of_decide_eq_true (by kernel_rfl))
    clear hV9 hO9
    go_simp
    exact hK9 _ (Grow.refl _)
  case s1_32 =>
    intro t9 w9 hT9 hV9 hO9 K9 hK9
    have p9_28 : t9[72]? = some ?v1_28 := hV9 28 72 rfl rfl (of_decide_eq_true (by kernel_rfl))
    have p9_31 : t9[75]? = some ?v1_31 := hV9 31 75 rfl rfl (of_decide_eq_true (by kernel_rfl))
    clear hV9 hO9
    go_simp
    exact hK9 _ (Grow.refl _)
  case s1_33 =>
    intro t9 w9 hT9 hV9 hO9 K9 hK9
    have p9_32 : t9[76]? = some ?v1_32 := hV9 32 76 rfl rfl (of_decide_eq_true (by kernel_rfl))
    clear hV9 hO9
    go_simp
    exact hK9 _ (Grow.refl _)
  case s1_34 =>
    intro t9 w9 hT9 hV9 hO9 K9 hK9
    have p9_33 : t9[77]? = some ?v1_33 := hV9 33 77 rfl rfl (of_decide_eq_true (by kernel_rfl))
    have o9_11 := hO9 11 _ (by kernel_rfl) rfl
    clear hV9 hO9
    have d9_0 := grow_cell hT9 qa_0
    have d9_1 := grow_cell hT9 qa_1
    have d9_2 := grow_cell hT9 qa_2
    have d9_3 := grow_cell hT9 qb_0
    have d9_4 := grow_cell hT9 qb_1
    have d9_5 := grow_cell hT9 qb_2
    have d9_6 := grow_cell hT9 qd_0
    have d9_7 := grow_cell hT9 qd_1
    have d9_8 := grow_cell hT9 qd_2
    have d9_9 := grow_cell hT9 qf_0
    have d9_10 := grow_cell hT9 qf_1
    have d9_11 := grow_cell hT9 qf_2
    have d9_12 := grow_cell hT9 qr_0
    have d9_13 := grow_cell hT9 qr_1
    have d9_14 := grow_cell hT9 qr_2
    have d9_15 := grow_cell hT9 qk_0
    have d9_16 := grow_cell hT9 qk_1
    have d9_17 := grow_cell hT9 qk_2
    have d9_18 := grow_cell hT9 qo_0
    have d9_19 := grow_cell hT9 qo_1
    have d9_20 := grow_cell hT9 qo_2
    go_simp
    exact hK9 _ (Grow.refl _)
  case s1_35 =>
    intro t9 w9 hT9 hV9 hO9 K9 hK9
    have p9_33 : t9[77]? = some ?v1_33 := hV9 33 77 rfl rfl (of_decide_eq_true (by kernel_rfl))
    have o9_15 := hO9 15 _ (by kernel_rfl) rfl
    clear hV9 hO9
    have d9_0 := grow_cell hT9 qa_0
    have d9_1 := grow_cell hT9 qa_1
    have d9_2 := grow_cell hT9 qa_2
    have d9_3 := grow_cell hT9 qb_0
    have d9_4 := grow_cell hT9 qb_1
    have d9_5 := grow_cell hT9 qb_2
    have d9_6 := grow_cell hT9 qd_0
    have d9_7 := grow_cell hT9 qd_1
    have d9_8 := grow_cell hT9 qd_2
    have d9_9 := grow_cell hT9 qf_0
    have d9_10 := grow_cell hT9 qf_1
    have d9_11 := grow_cell hT9 qf_2
    have d9_12 := grow_cell hT9 qr_0
    have d9_13 := grow_cell hT9 qr_1
    have d9_14 := grow_cell hT9 qr_2
    have d9_15 := grow_cell hT9 qk_0
    have d9_16 := grow_cell hT9 qk_1
    have d9_17 := grow_cell hT9 qk_2
    have d9_18 := grow_cell hT9 qo_0
    have d9_19 := grow_cell hT9 qo_1
    have d9_20 := grow_cell hT9 qo_2
    go_simp
    exact hK9 _ (Grow.refl _)
  case s1_36 =>
    intro t9 w9 hT9 hV9 hO9 K9 hK9
    have p9_33 : t9[77]? = some ?v1_33 := hV9 33 77 rfl rfl (of_decide_eq_true (by kernel_rfl))
    have p9_34 : t9[78]? = some ?v1_34 := hV9 34 78 rfl rfl (of_decide_eq_true (by kernel_rfl))
    have p9_35 : t9[79]? = some ?v1_35 := hV9 35 79 rfl rfl (of_decide_eq_true (by kernel_rfl))
    clear hV9 hO9
    go_simp
    first | exact hK9 _ (Grow.refl _) | (refine (K_e.out _).mono ?_; rintro _ w8 ⟨rfl, hb8⟩; exact hK9 _ hb8)
  case s1_37 =>
    intro t9 w9 hT9 hV9 hO9 K9 hK9
    have p9_33 : t9[77]? = some ?v1_33 := hV9 33 77 rfl rfl (of_decide_eq_true (by kernel_rfl))
    have p9_36 : t9[80]? = some ?v1_36 := hV9 36 80 rfl rfl (of_decide_eq_true (by kernel_rfl))
    clear hV9 hO9
    go_simp
    exact hK9 _ (Grow.refl _)
  case s1_38 =>
    intro t9 w9 hT9 hV9 hO9 K9 hK9
    have p9_33 : t9[77]? = some ?v1_33 := hV9 33 77 rfl rfl (of_decide_eq_true (by kernel_rfl))
    have p9_37 : t9[81]? = some ?v1_37 := hV9 37 81 rfl rfl (of_decide_eq_true (by kernel_rfl))
    clear hV9 hO9
    go_simp
    exact hK9 _ (Grow.refl _)
  case s1_39 =>
    intro t9 w9 hT9 hV9 hO9 K9 hK9
    have p9_38 : t9[82]? = some ?v1_38 := hV9 38 82 rfl rfl (of_decide_eq_true (by kernel_rfl))
    clear hV9 hO9
    go_simp
    exact hK9 _ (Grow.refl _)
  case s1_40 =>
    intro t9 w9 hT9 hV9 hO9 K9 hK9
    have p9_39 : t9[83]? = some ?v1_39 := hV9 39 83 rfl rfl (of_decide_eq_true (by kernel_rfl))
    have o9_13 := hO9 13 _ (by kernel_rfl) rfl
    clear hV9 hO9
    have d9_0 := grow_cell hT9 qa_0
    have d9_1 := grow_cell hT9 qa_1
    have d9_2 := grow_cell hT9 qa_2
    have d9_3 := grow_cell hT9 qb_0
    have d9_4 := grow_cell hT9 qb_1
    have d9_5 := grow_cell hT9 qb_2
    have d9_6 := grow_cell hT9 qd_0
    have d9_7 := grow_cell hT9 qd_1
    have d9_8 := grow_cell hT9 qd_2
    have d9_9 := grow_cell hT9 qf_0
    have d9_10 := grow_cell hT9 qf_1
    have d9_11 := grow_cell hT9 qf_2
    have d9_12 := grow_cell hT9 qr_0
    have d9_13 := grow_cell hT9 qr_1
    have d9_14 := grow_cell hT9 qr_2
    have d9_15 := grow_cell hT9 qk_0
    have d9_16 := grow_cell hT9 qk_1
    have d9_17 := grow_cell hT9 qk_2
    have d9_18 := grow_cell hT9 qo_0
    have d9_19 := grow_cell hT9 qo_1
    have d9_20 := grow_cell hT9 qo_2
    go_simp
    exact hK9 _ (Grow.refl _)
  case s1_41 =>
    intro t9 w9 hT9 hV9 hO9 K9 hK9
    have p9_39 : t9[83]? = some ?v1_39 := hV9 39 83 rfl rfl (of_decide_eq_true (by kernel_rfl))
    have o9_5 := hO9 5 _ (by kernel_rfl) rfl
    clear hV9 hO9
    have d9_0 := grow_cell hT9 qa_0
    have d9_1 := grow_cell hT9 qa_1
    have d9_2 := grow_cell hT9 qa_2
    have d9_3 := grow_cell hT9 qb_0
    have d9_4 := grow_cell hT9 qb_1
    have d9_5 := grow_cell hT9 qb_2
    have d9_6 := grow_cell hT9 qd_0
    have d9_7 := grow_cell hT9 qd_1
    have d9_8 := grow_cell hT9 qd_2
    have d9_9 := grow_cell hT9 qf_0
    have d9_10 := grow_cell hT9 qf_1
    have d9_11 := grow_cell hT9 qf_2
    have d9_12 := grow_cell hT9 qr_0
    have d9_13 := grow_cell hT9 qr_1
    have d9_14 := grow_cell hT9 qr_2
    have d9_15 := grow_cell hT9 qk_0
    have d9_16 := grow_cell hT9 qk_1
    have d9_17 := grow_cell hT9 qk_2
    have d9_18 := grow_cell hT9 qo_0
    have d9_19 := grow_cell hT9 qo_1
    have d9_20 := grow_cell hT9 qo_2
    go_simp
    exact hK9 _ (Grow.refl _)
  case s1_42 =>
    intro t9 w9 hT9 hV9 hO9 K9 hK9
    have p9_39 : t9[83]? = some ?v1_39 := hV9 39 83 rfl rfl (of_decide_eq_true (by kernel_rfl))
    have p9_40 : t9[84]? = some ?v1_40 := hV9 40 84 rfl rfl (of_decide_eq_true (by kernel_rfl))
    have p9_41 : t9[85]? = some ?v1_41 := hV9 41 85 rfl rfl (of_decide_eq_true (by kernel_rfl))
    clear hV9 hO9
    go_simp
    exact hK9 _ (Grow.refl _)
  case s1_43 =>
    intro t9 w9 hT9 hV9 hO9 K9 hK9
    have p9_39 : t9[83]? = some ?v1_39 := hV9 39 83 rfl rfl (of_decide_eq_true (by kernel_rfl))
    have p9_42 : t9[86]? = some ?v1_42 := hV9 42 86 rfl rfl (of_decide_eq_true (by kernel_rfl))
    clear hV9 hO9
    go_simp
    exact hK9 _ (Grow.refl _)
  case s1_44 =>
    intro t9 w9 hT9 hV9 hO9 K9 hK9
    have p9_43 : t9[87]? = some ?v1_43 := hV9 43 87 rfl rfl (of_decide_eq_true (by kernel_rfl))
    clear hV9 hO9
    go_simp
    exact hK9 _ (Grow.refl _)
  case s1_45 =>
    intro t9 w9 hT9 hV9 hO9 K9 hK9
    have p9_44 : t9[88]? = some ?v1_44 := hV9 44 88 rfl rfl (of_decide_eq_true (by kernel_rfl))
    clear hV9 hO9
    go_simp
    first | exact hK9 _ (Grow.refl _) | (refine (HKN.out _).mono ?_; rintro _ w8 ⟨rfl, hb8⟩; exact hK9 _ hb8)
  case s1_46 =>
    intro t9 w9 hT9 hV9 hO9 K9 hK9
    have p9_44 : t9[88]? = some ?v1_44 := hV9 44 88 rfl rfl (of_decide_eq_true (by kernel_rfl))
    have p9_45 : t9[89]? = some ?v1_45 := hV9 45 89 rfl rfl (of_decide_eq_true (by kernel_rfl))
    clear hV9 hO9
    go_simp
    exact hK9 _ (Grow.refl _)
  case s1_47 =>
    intro t9 w9 hT9 hV9 hO9 K9 hK9
    have p9_46 : t9[90]? = some ?v1_46 := hV9 46 90 rfl rfl (of_decide_eq_true (by kernel_rfl))
    clear hV9 hO9
    go_simp
    exact hK9 _ (Grow.refl _)
  intro w9 hb9
  simp only [putAll, Act.put, List.setIfInBounds_toArray, List.set_cons_succ, List.set_cons_zero, List.getD_cons_succ, List.getD_cons_zero, Nat.reduceAdd, Nat.zero_add]
  go_wp2
  go_ret
  exact ⟨rfl, below6 hbw hb9⟩
end Go.Proofs.Ytofijnhkoadfjaa
