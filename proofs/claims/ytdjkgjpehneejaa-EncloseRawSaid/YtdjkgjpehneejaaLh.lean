/- The law EncloseFiner as a walk. -/
import Derived.Test.YtdjkgjpehneejaaLf
namespace Go.Proofs.Ytdjkgjpehneejaa
set_option linter.unusedSimpArgs false
set_option linter.unusedVariables false
set_option linter.unusedSectionVars false
open Go.RowKit Dg

theorem cmpR_le {x y : Rat} : cmpR x y ≤ 0 ↔ x ≤ y := by
  have h := cmpR_gt (x := x) (y := y)
  rw [← Rat.not_lt, ← h]; omega
theorem uq_le {a b : Int} {j k : Nat} : uq a j ≤ uq b k ↔ a * ((2 ^ k : Nat) : Int) ≤ b * ((2 ^ j : Nat) : Int) := by
  rw [uq_eq, uq_eq]
  have hj : (0 : Rat) < ((2 ^ j : Nat) : Rat) := Rat.natCast_pos.2 (Nat.pow_pos (by decide))
  have hk : (0 : Rat) < ((2 ^ k : Nat) : Rat) := Rat.natCast_pos.2 (Nat.pow_pos (by decide))
  rw [← Rat.not_lt, Rat.lt_div_iff hj]
  have e : ∀ p q r : Rat, p / q * r = p * r / q := by intro p q r; rw [Rat.div_def, Rat.div_def, Rat.mul_assoc, Rat.mul_comm q⁻¹, ← Rat.mul_assoc]
  rw [e, Rat.div_lt_iff hk]
  have e1 : ∀ (a : Int) (n : Nat), (a : Rat) * (n : Rat) = ((a * n : Int) : Rat) := by intro a n; rw [Rat.intCast_mul]; rfl
  rw [e1, e1, Rat.intCast_lt_intCast]
  omega
/-- The ends of Bits at two precisions. -/
theorem finer {x : Rat} {a b : Int} {k m : Nat} (ha : IsLog (x ^ (2 ^ k)) a) (hb : IsLog (x ^ (2 ^ (k + m))) b) :
    uq a k ≤ uq b (k + m) ∧ (if p2 b = x ^ (2 ^ (k + m)) then uq b (k + m) else uq (b + 1) (k + m)) ≤ (if p2 a = x ^ (2 ^ k) then uq a k else uq (a + 1) k) ∧ uq b (k + m) ≤ (if p2 b = x ^ (2 ^ (k + m)) then uq b (k + m) else uq (b + 1) (k + m)) := by
  have e : x ^ (2 ^ (k + m)) = (x ^ (2 ^ k)) ^ (2 ^ m) := by
    rw [Nat.pow_add]
    generalize 2 ^ k = K
    generalize 2 ^ m = M
    induction M with
    | zero => simp
    | succ M ih =>
      have e2 : K * (M + 1) = K * M + K := by rw [Nat.mul_add, Nat.mul_one]
      rw [e2, Rat.pow_succ, ← ih]
      have : ∀ i j : Nat, x ^ (i + j) = x ^ i * x ^ j := by
        intro i j
        induction j with
        | zero => simp
        | succ j ih => rw [← Nat.add_assoc, Rat.pow_succ, ih, Rat.pow_succ, Rat.mul_assoc]
      exact this _ _
  rw [e] at hb ⊢
  have hK : 0 < 2 ^ m := Nat.pow_pos (by decide)
  obtain ⟨h1, h2⟩ := log_pow hK ha hb
  have hp : ((2 ^ (k + m) : Nat) : Int) = ((2 ^ k : Nat) : Int) * ((2 ^ m : Nat) : Int) := by rw [Nat.pow_add]; simp
  have key : ∀ u v : Int, u * ((2 ^ m : Nat) : Int) ≤ v → uq u k ≤ uq v (k + m) := by
    intro u v h
    rw [uq_le, hp, Int.mul_comm ((2 ^ k : Nat) : Int), ← Int.mul_assoc]
    exact Int.mul_le_mul_of_nonneg_right h (Int.natCast_nonneg _)
  have key2 : ∀ u v : Int, v ≤ u * ((2 ^ m : Nat) : Int) → uq v (k + m) ≤ uq u k := by
    intro u v h
    rw [uq_le, hp, Int.mul_comm ((2 ^ k : Nat) : Int), ← Int.mul_assoc]
    exact Int.mul_le_mul_of_nonneg_right h (Int.natCast_nonneg _)
  have up : ∀ v : Int, uq v (k + m) ≤ uq (v + 1) (k + m) := by
    intro v
    rw [uq_le]
    exact Int.mul_le_mul_of_nonneg_right (by omega) (Int.natCast_nonneg _)
  refine ⟨key a b h1, ?_, ?_⟩
  · by_cases he : p2 a = x ^ (2 ^ k)
    · obtain ⟨g1, g2⟩ := log_pow_exact he hb
      rw [if_pos g2, if_pos he]
      exact key2 a b (by rw [g1]; omega)
    · rw [if_neg he]
      split
      · exact key2 (a + 1) b (by omega)
      · exact key2 (a + 1) (b + 1) (by omega)
  · split
    · exact Rat.le_refl
    · exact up b
theorem evalid_yes {x y : Rat} (hx : OkR x) (hy : OkR y) : RetV 26 #[IV x y] (.bool (decide (x ≤ y))) := by
  have h := evalid_core _ _ _ _ _ _ true true (cmpR x y) (fun w => isratio_yes w hx) (fun w => isratio_yes w hy) (fun _ _ w => rcmp_yes hx hy w)
  have e : (true && (true && decide (cmpR x y ≤ 0))) = decide (x ≤ y) := by
    simp [cmpR_le]
  rw [e] at h
  exact h
theorem iv_open (x y : Rat) : ∃ n s t, RV x = .agg #[.bool n, .string s, .string t] ∧ ∃ m u v, RV y = .agg #[.bool m, .string u, .string v] ∧ IV x y = .agg #[.bool n, .string s, .string t, .bool m, .string u, .string v] := ⟨_, _, _, rfl, _, _, _, rfl, rfl⟩

set_option maxRecDepth 100000 in
set_option maxHeartbeats 8000000 in
theorem law_finer (A : Option Addr) (l : List Int) (c : Nat) (k0 m0 : Int) (w : World) (hA : Ints w A l) (hl : l.length ≤ c) (hc : c ≤ maxLen) (hw : Wide l) (hk1 : -9223372036854775808 ≤ k0) (hk2 : k0 ≤ 9223372036854775807) (hm1 : -9223372036854775808 ≤ m0) (hm2 : m0 ≤ 9223372036854775807) :
    Calls Try.prog 8 #[.slice A l.length c, .int .i64 k0, .int .i64 m0] w (Holds w) := by
  have HN := Lib.hid (new_any A l c w hA hl hc hw)
  obtain ⟨kk, hkk, hmod⟩ := mod_small k0 4 hk1 hk2 (by decide) (by decide)
  obtain ⟨mm, hmm, hmod2⟩ := mod_small m0 4 hm1 hm2 (by decide) (by decide)
  have HM := Lib.hid hmod
  have HM2 := Lib.hid hmod2
  clear hA hw hmod hk1 hk2 hmod2 hm1 hm2
  go_enter Try.func8, Try.ntmps8
  go_wp2_with fail
  refine HN.out.mono ?_
  rintro e w1 ⟨rfl, ⟨l', hT⟩, hbw⟩
  have hS : ∀ k, k < w.heap.size → ¬ (k = w.heap.size) := fun k hk e => by omega
  have HS := Lib.hid hS
  clear HN hS
  generalize hpp : w.heap.size = p at hT HS ⊢
  rw [← hpp] at HS
  have HPP := Lib.hid hpp
  clear hpp
  go_wp2_with fail
  refine (some37 true p A l' c 0 _ hT).mono ?_
  rintro e ws1 ⟨⟨x, rfl, fx, px⟩, ⟨a1, hT'⟩, hc1⟩
  replace hbw := hbw.trans (hc1.below (B := w.heap.size) (fun k hk e => HS.out k hk (by rw [HPP.out]; exact e)) hbw.size)
  clear hT hc1
  have hT := hT'
  clear hT'
  clear hT HS HPP
  have x0 := px (by simp)
  obtain ⟨na, ha, ha1, ha2, -, hla⟩ := ebits_yes (k := kk) (fx.mono (by decide)) x0 (by omega) w
  obtain ⟨nb, hb, hb1, hb2, -, hlb⟩ := ebits_yes (k := kk + mm) (fx.mono (by decide)) x0 (by omega) w
  obtain ⟨f1, f2, f3⟩ := finer ha hb
  have okl : OkR (uq na kk) := (uq_few (by omega) (by omega) (by omega)).ok (by decide)
  have okl2 : OkR (uq nb (kk + mm)) := (uq_few (by omega) (by omega) (by omega)).ok (by decide)
  have okh : OkR (if p2 na = x ^ 2 ^ kk then uq na kk else uq (na + 1) kk) := by
    split
    · exact okl
    · exact (uq_few (by omega) (by omega) (by omega)).ok (by decide)
  have okh2 : OkR (if p2 nb = x ^ 2 ^ (kk + mm) then uq nb (kk + mm) else uq (nb + 1) (kk + mm)) := by
    split
    · exact okl2
    · exact (uq_few (by omega) (by omega) (by omega)).ok (by decide)
  generalize (if p2 na = x ^ 2 ^ kk then uq na kk else uq (na + 1) kk) = ah at *
  generalize (if p2 nb = x ^ 2 ^ (kk + mm) then uq nb (kk + mm) else uq (nb + 1) (kk + mm)) = bh at *
  generalize uq na kk = al at *
  generalize uq nb (kk + mm) = bl at *
  have HC1 : Hid (∃ z : Int, z ≤ 0 ∧ -1 ≤ z ∧ RetV 23 #[RV al, RV bl] (.int .i64 z)) := ⟨_, cmpR_le.2 f1, (cmpR_bd al bl).1, fun w => rcmp_yes okl okl2 w⟩
  have HC2 : Hid (∃ z : Int, z ≤ 0 ∧ -1 ≤ z ∧ RetV 23 #[RV bh, RV ah] (.int .i64 z)) := ⟨_, cmpR_le.2 f2, (cmpR_bd bh ah).1, fun w => rcmp_yes okh2 okh w⟩
  have HV : Hid (RetV 26 #[IV bl bh] (.bool true)) := by
    have := evalid_yes okl2 okh2
    rw [decide_eq_true f3] at this
    exact this
  obtain ⟨z1, hz1, hz1', hc1⟩ := HC1.out
  obtain ⟨z2, hz2, hz2', hc2⟩ := HC2.out
  have HC1 := Lib.hid hc1
  have HC2 := Lib.hid hc2
  have HLA := Lib.hid hla
  have HLB := Lib.hid hlb
  obtain ⟨nx, sx, tx, hx⟩ := rv_open' x
  obtain ⟨na1, sa1, ta1, e1, na2, sa2, ta2, e2, e3⟩ := iv_open al ah
  obtain ⟨nb1, sb1, tb1, e4, nb2, sb2, tb2, e5, e6⟩ := iv_open bl bh
  rw [e1, e4] at HC1
  rw [e5, e2] at HC2
  rw [e6] at HV
  rw [hx, e3] at HLA
  rw [hx, e6] at HLB
  rw [hx]
  have d1 : decide (z1 ≤ 0) = true := decide_eq_true hz1
  have d2 : decide (z2 ≤ 0) = true := decide_eq_true hz2
  have zk : IntKind.i64.wrap ((kk : Int) + (mm : Int)) = (kk : Int) + (mm : Int) := IntWalk.i64_in _ (by omega)
  have ek : ((kk + mm : Nat) : Int) = (kk : Int) + (mm : Int) := by simp
  rw [ek] at HLB
  have hkI : (kk : Int) < 4 := by omega
  have hmI : (mm : Int) < 4 := by omega
  clear hla hlb hc1 hc2 hx e1 e2 e3 e4 e5 e6 ha hb fx x0 px hkk hmm f1 f2 f3 okl okl2 okh okh2 ek
  obtain ⟨o_x, hz1⟩ := new1 ws1 [.bool nx, .string sx, .string tx] 26
  replace hbw := below6 hbw hz1
  clear hz1
  go_wp2_with fail
  generalize (ws1.alloc (.cells #[.bool nx, .string sx, .string tx] 26)) = wa2 at o_x hbw ⊢
  generalize ws1.heap.size = g2 at o_x ⊢
  refine (HM.out _).mono ?_
  rintro e wm ⟨rfl, rfl⟩
  go_wp2_with fail
  refine (HM2.out _).mono ?_
  rintro e wm ⟨rfl, rfl⟩
  have qx_0 : wa2.cell? ⟨g2, 0, none⟩ = some (.bool nx) := o_x.cell 0
  have qx_1 : wa2.cell? ⟨g2, 1, none⟩ = some (.string sx) := o_x.cell 1
  have qx_2 : wa2.cell? ⟨g2, 2, none⟩ = some (.string tx) := o_x.cell 2
  go_wp2_with fail
  clear qx_0 qx_1 qx_2
  refine (HLA.out _).mono ?_
  rintro e w3 ⟨rfl, hb3⟩
  replace o_x := o_x.below hb3 o_x.lt
  replace hbw := below6 hbw hb3
  clear hb3
  obtain ⟨o_a, hz4⟩ := new1 w3 [.bool na1, .string sa1, .string ta1, .bool na2, .string sa2, .string ta2] 37
  replace o_x := o_x.alloc (.cells #[.bool na1, .string sa1, .string ta1, .bool na2, .string sa2, .string ta2] 37)
  replace hbw := below6 hbw hz4
  clear hz4
  have qx_0 : (w3.alloc (.cells #[.bool na1, .string sa1, .string ta1, .bool na2, .string sa2, .string ta2] 37)).cell? ⟨g2, 0, none⟩ = some (.bool nx) := o_x.cell 0
  have qx_1 : (w3.alloc (.cells #[.bool na1, .string sa1, .string ta1, .bool na2, .string sa2, .string ta2] 37)).cell? ⟨g2, 1, none⟩ = some (.string sx) := o_x.cell 1
  have qx_2 : (w3.alloc (.cells #[.bool na1, .string sa1, .string ta1, .bool na2, .string sa2, .string ta2] 37)).cell? ⟨g2, 2, none⟩ = some (.string tx) := o_x.cell 2
  go_wp2_with fail
  generalize (w3.alloc (.cells #[.bool na1, .string sa1, .string ta1, .bool na2, .string sa2, .string ta2] 37)) = wa5 at o_x o_a hbw ⊢
  generalize w3.heap.size = g5 at o_a ⊢
  clear qx_0 qx_1 qx_2
  refine (HLB.out _).mono ?_
  rintro e w6 ⟨rfl, hb6⟩
  replace o_x := o_x.below hb6 o_x.lt
  replace o_a := o_a.below hb6 o_a.lt
  replace hbw := below6 hbw hb6
  clear hb6
  obtain ⟨o_b, hz7⟩ := new1 w6 [.bool nb1, .string sb1, .string tb1, .bool nb2, .string sb2, .string tb2] 37
  replace o_x := o_x.alloc (.cells #[.bool nb1, .string sb1, .string tb1, .bool nb2, .string sb2, .string tb2] 37)
  replace o_a := o_a.alloc (.cells #[.bool nb1, .string sb1, .string tb1, .bool nb2, .string sb2, .string tb2] 37)
  replace hbw := below6 hbw hz7
  clear hz7
  have qa_0 : (w6.alloc (.cells #[.bool nb1, .string sb1, .string tb1, .bool nb2, .string sb2, .string tb2] 37)).cell? ⟨g5, 0, none⟩ = some (.bool na1) := o_a.cell 0
  have qa_1 : (w6.alloc (.cells #[.bool nb1, .string sb1, .string tb1, .bool nb2, .string sb2, .string tb2] 37)).cell? ⟨g5, 1, none⟩ = some (.string sa1) := o_a.cell 1
  have qa_2 : (w6.alloc (.cells #[.bool nb1, .string sb1, .string tb1, .bool nb2, .string sb2, .string tb2] 37)).cell? ⟨g5, 2, none⟩ = some (.string ta1) := o_a.cell 2
  have qa_3 : (w6.alloc (.cells #[.bool nb1, .string sb1, .string tb1, .bool nb2, .string sb2, .string tb2] 37)).cell? ⟨g5, 3, none⟩ = some (.bool na2) := o_a.cell 3
  have qa_4 : (w6.alloc (.cells #[.bool nb1, .string sb1, .string tb1, .bool nb2, .string sb2, .string tb2] 37)).cell? ⟨g5, 4, none⟩ = some (.string sa2) := o_a.cell 4
  have qa_5 : (w6.alloc (.cells #[.bool nb1, .string sb1, .string tb1, .bool nb2, .string sb2, .string tb2] 37)).cell? ⟨g5, 5, none⟩ = some (.string ta2) := o_a.cell 5
  have qb_0 : (w6.alloc (.cells #[.bool nb1, .string sb1, .string tb1, .bool nb2, .string sb2, .string tb2] 37)).cell? ⟨w6.heap.size, 0, none⟩ = some (.bool nb1) := o_b.cell 0
  have qb_1 : (w6.alloc (.cells #[.bool nb1, .string sb1, .string tb1, .bool nb2, .string sb2, .string tb2] 37)).cell? ⟨w6.heap.size, 1, none⟩ = some (.string sb1) := o_b.cell 1
  have qb_2 : (w6.alloc (.cells #[.bool nb1, .string sb1, .string tb1, .bool nb2, .string sb2, .string tb2] 37)).cell? ⟨w6.heap.size, 2, none⟩ = some (.string tb1) := o_b.cell 2
  have qb_3 : (w6.alloc (.cells #[.bool nb1, .string sb1, .string tb1, .bool nb2, .string sb2, .string tb2] 37)).cell? ⟨w6.heap.size, 3, none⟩ = some (.bool nb2) := o_b.cell 3
  have qb_4 : (w6.alloc (.cells #[.bool nb1, .string sb1, .string tb1, .bool nb2, .string sb2, .string tb2] 37)).cell? ⟨w6.heap.size, 4, none⟩ = some (.string sb2) := o_b.cell 4
  have qb_5 : (w6.alloc (.cells #[.bool nb1, .string sb1, .string tb1, .bool nb2, .string sb2, .string tb2] 37)).cell? ⟨w6.heap.size, 5, none⟩ = some (.string tb2) := o_b.cell 5
  go_wp2_with fail
  generalize (w6.alloc (.cells #[.bool nb1, .string sb1, .string tb1, .bool nb2, .string sb2, .string tb2] 37)) = wa8 at o_x o_a o_b hbw ⊢
  generalize w6.heap.size = g8 at o_b ⊢
  clear qa_0 qa_1 qa_2 qa_3 qa_4 qa_5 qb_0 qb_1 qb_2 qb_3 qb_4 qb_5
  refine (HC1.out _).mono ?_
  rintro e w9 ⟨rfl, hb9⟩
  replace o_x := o_x.below hb9 o_x.lt
  replace o_a := o_a.below hb9 o_a.lt
  replace o_b := o_b.below hb9 o_b.lt
  replace hbw := below6 hbw hb9
  clear hb9
  have qa_0 : w9.cell? ⟨g5, 0, none⟩ = some (.bool na1) := o_a.cell 0
  have qa_1 : w9.cell? ⟨g5, 1, none⟩ = some (.string sa1) := o_a.cell 1
  have qa_2 : w9.cell? ⟨g5, 2, none⟩ = some (.string ta1) := o_a.cell 2
  have qa_3 : w9.cell? ⟨g5, 3, none⟩ = some (.bool na2) := o_a.cell 3
  have qa_4 : w9.cell? ⟨g5, 4, none⟩ = some (.string sa2) := o_a.cell 4
  have qa_5 : w9.cell? ⟨g5, 5, none⟩ = some (.string ta2) := o_a.cell 5
  have qb_0 : w9.cell? ⟨g8, 0, none⟩ = some (.bool nb1) := o_b.cell 0
  have qb_1 : w9.cell? ⟨g8, 1, none⟩ = some (.string sb1) := o_b.cell 1
  have qb_2 : w9.cell? ⟨g8, 2, none⟩ = some (.string tb1) := o_b.cell 2
  have qb_3 : w9.cell? ⟨g8, 3, none⟩ = some (.bool nb2) := o_b.cell 3
  have qb_4 : w9.cell? ⟨g8, 4, none⟩ = some (.string sb2) := o_b.cell 4
  have qb_5 : w9.cell? ⟨g8, 5, none⟩ = some (.string tb2) := o_b.cell 5
  go_wp2_with fail
  clear qa_0 qa_1 qa_2 qa_3 qa_4 qa_5 qb_0 qb_1 qb_2 qb_3 qb_4 qb_5
  refine (HC2.out _).mono ?_
  rintro e w10 ⟨rfl, hb10⟩
  replace o_x := o_x.below hb10 o_x.lt
  replace o_a := o_a.below hb10 o_a.lt
  replace o_b := o_b.below hb10 o_b.lt
  replace hbw := below6 hbw hb10
  clear hb10
  have qb_0 : w10.cell? ⟨g8, 0, none⟩ = some (.bool nb1) := o_b.cell 0
  have qb_1 : w10.cell? ⟨g8, 1, none⟩ = some (.string sb1) := o_b.cell 1
  have qb_2 : w10.cell? ⟨g8, 2, none⟩ = some (.string tb1) := o_b.cell 2
  have qb_3 : w10.cell? ⟨g8, 3, none⟩ = some (.bool nb2) := o_b.cell 3
  have qb_4 : w10.cell? ⟨g8, 4, none⟩ = some (.string sb2) := o_b.cell 4
  have qb_5 : w10.cell? ⟨g8, 5, none⟩ = some (.string tb2) := o_b.cell 5
  go_wp2_with fail
  clear qb_0 qb_1 qb_2 qb_3 qb_4 qb_5
  refine (HV.out _).mono ?_
  rintro e w11 ⟨rfl, hb11⟩
  replace o_x := o_x.below hb11 o_x.lt
  replace o_a := o_a.below hb11 o_a.lt
  replace o_b := o_b.below hb11 o_b.lt
  replace hbw := below6 hbw hb11
  clear hb11
  go_wp2_with fail
  refine (known37 _).mono ?_
  rintro e w9 ⟨rfl, hb9⟩
  go_wp2
  go_ret
  exact ⟨rfl, below6 hbw hb9⟩
end Go.Proofs.Ytdjkgjpehneejaa
