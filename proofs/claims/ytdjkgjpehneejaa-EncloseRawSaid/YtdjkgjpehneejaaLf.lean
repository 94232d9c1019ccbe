/- The laws EncloseProducts and EncloseInverse as walks. -/
import Derived.Test.YtdjkgjpehneejaaLs
import Derived.Test.YtdjkgjpehneejaaLa
namespace Go.Proofs.Ytdjkgjpehneejaa
set_option linter.unusedSimpArgs false
set_option linter.unusedVariables false
set_option linter.unusedSectionVars false
open Go.RowKit Dg

theorem Few.mono {j k : Nat} {x : Rat} (h : Few j x) (hjk : j ≤ k) : Few k x := ⟨Nat.le_trans h.1 hjk, Nat.le_trans h.2 hjk⟩
theorem few_mul' {j k : Nat} (h0 : 0 < j + k) {x y : Rat} (hx : Few j x) (hy : Few k y) : Few (j + k) (x * y) := by
  have e : x * y = rat (decide (x.num < 0) != decide (y.num < 0)) (x.num.natAbs * y.num.natAbs) (x.den * y.den) := by rw [rat_mul, rat_self, rat_self]
  have hd : 0 < x.den * y.den := Nat.mul_pos (den_pos x) (den_pos y)
  have few_lt : ∀ {n k : Nat}, (dec n).length ≤ k → n < 10 ^ k := fun h => Nat.lt_of_lt_of_le (dec_lt _) (Nat.pow_le_pow_right (by decide) h)
  rw [e]
  refine few_rat hd (dec_len_le h0 ?_) (dec_len_le h0 ?_)
  · rw [Nat.pow_add]; exact Nat.mul_lt_mul'' (few_lt hx.1) (few_lt hy.1)
  · rw [Nat.pow_add]; exact Nat.mul_lt_mul'' (few_lt hx.2) (few_lt hy.2)
theorem few_inv' {k : Nat} {x : Rat} (h0 : x ≠ 0) (h : Few k x) : Few k x⁻¹ := by
  have e : x⁻¹ = rat (decide (x.num < 0)) x.den x.num.natAbs := by rw [rat_inv (c := x.num.natAbs), rat_self]
  rw [e]
  exact few_rat (num_pos h0) h.2 h.1
theorem pow_mul_rat (x y : Rat) (n : Nat) : (x * y) ^ n = x ^ n * y ^ n := by
  induction n with
  | zero => simp
  | succ n ih => rw [Rat.pow_succ, Rat.pow_succ, Rat.pow_succ, ih]; grind
theorem pow_inv_rat (x : Rat) (n : Nat) (h : x ≠ 0) : (x⁻¹) ^ n = (x ^ n)⁻¹ := by
  refine (Rat.inv_eq_of_mul_eq_one ?_).symm
  rw [← pow_mul_rat, Rat.mul_inv_cancel x h]
  induction n with
  | zero => simp
  | succ n ih => rw [Rat.pow_succ, ih, Rat.mul_one]
theorem RV_one : RV 1 = .agg #[.bool false, .string ⟨#[49]⟩, .string ⟨#[49]⟩] := rfl
theorem few_one : Few 1 (1 : Rat) := by unfold Few; decide
/-- Mod of a number by a small one. -/
theorem mod_small (x : Int) (n : Nat) (h1 : -9223372036854775808 ≤ x) (h2 : x ≤ 9223372036854775807) (hn : 0 < n) (hn2 : n ≤ 1000000) : ∃ k : Nat, k < n ∧ ∀ w, Calls Try.prog 13 #[.int .i64 x, .int .i64 (n : Int)] w fun e w' => e = .returned (.int .i64 (k : Int)) ∧ w = w' := by
  have hr1 := Int.emod_nonneg x (show (n : Int) ≠ 0 by omega)
  have hr2 := Int.emod_lt_of_pos x (show (0 : Int) < n by omega)
  obtain ⟨r, hr⟩ : ∃ r : Nat, x % (n : Int) = (r : Int) := ⟨(x % (n : Int)).toNat, by omega⟩
  exact ⟨r, by omega, fun w => (mod_any x n w hn hn2 h1 h2).mono fun e w' ⟨h1, h2⟩ => ⟨by rw [h1, hr], h2⟩⟩

set_option maxRecDepth 100000 in
set_option maxHeartbeats 8000000 in
theorem law_products (A : Option Addr) (l : List Int) (c : Nat) (k0 : Int) (w : World) (hA : Ints w A l) (hl : l.length ≤ c) (hc : c ≤ maxLen) (hw : Wide l) (hk1 : -9223372036854775808 ≤ k0) (hk2 : k0 ≤ 9223372036854775807) :
    Calls Try.prog 3 #[.slice A l.length c, .int .i64 k0] w (Holds w) := by
  have HN := Lib.hid (new_any A l c w hA hl hc hw)
  obtain ⟨kk, hkk, hmod⟩ := mod_small k0 5 hk1 hk2 (by decide) (by decide)
  have HM := Lib.hid hmod
  clear hA hw hmod hk1 hk2
  go_enter Try.func3, Try.ntmps3
  go_wp2_with fail
  refine HN.out.mono ?_
  rintro e w1 ⟨rfl, ⟨l', hT⟩, hbw⟩
  have hS : ∀ k, k < w.heap.size → ¬ (k = w.heap.size) := fun k hk e => by omega
  have HS := Lib.hid hS
  clear HN hS
  generalize hpp : w.heap.size = p at hT HS ⊢
  rw [← hpp] at HS
  have HPP := Lib.hid hpp
  clear hpp
  go_wp2_with fail
  refine (some37 true p A l' c 0 _ hT).mono ?_
  rintro e ws1 ⟨⟨x, rfl, fx, px⟩, ⟨a1, hT'⟩, hc1⟩
  replace hbw := hbw.trans (hc1.below (B := w.heap.size) (fun k hk e => HS.out k hk (by rw [HPP.out]; exact e)) hbw.size)
  clear hT hc1
  have hT := hT'
  clear hT'
  go_wp2_with fail
  refine (some37 true p A l' c a1 _ hT).mono ?_
  rintro e ws2 ⟨⟨y, rfl, fy, py⟩, ⟨a2, hT'⟩, hc2⟩
  replace hbw := hbw.trans (hc2.below (B := w.heap.size) (fun k hk e => HS.out k hk (by rw [HPP.out]; exact e)) hbw.size)
  clear hT hc2
  have hT := hT'
  clear hT'
  clear hT HS HPP
  have x0 := px (by simp)
  have y0 := py (by simp)
  have fxy := few_mul' (by decide) fx fy
  have xy0 := Rat.mul_pos x0 y0
  obtain ⟨na, ha, ha1, ha2, hla, -⟩ := ebits_yes (k := kk) (fx.mono (by decide)) x0 (by omega) w
  obtain ⟨nb, hb, hb1, hb2, hlb, -⟩ := ebits_yes (k := kk) (fy.mono (by decide)) y0 (by omega) w
  obtain ⟨nc, hc9, hc1, hc2, hlc, -⟩ := ebits_yes (k := kk) (fxy.mono (by decide)) xy0 (by omega) w
  rw [pow_mul_rat] at hc9
  have HOR := Lib.hid (log_mul ha hb hc9)
  have HMU : Hid (RetV 14 #[RV x, RV y] (.tuple #[RV (x * y), .int .i64 0])) := fun w => (rmul_yes (fx.ok (by decide)) (fy.ok (by decide)) w).mono fun e w' ⟨h1, h2⟩ => ⟨h1.ok (fxy.ok (by decide)), h2⟩
  generalize decide (p2 na = x ^ 2 ^ kk) = ea at hla
  generalize decide (p2 nb = y ^ 2 ^ kk) = eb at hlb
  generalize decide (p2 nc = (x * y) ^ 2 ^ kk) = ec at hlc
  have HLA := Lib.hid hla
  have HLB := Lib.hid hlb
  have HLC := Lib.hid hlc
  obtain ⟨nx, sx, tx, hx⟩ := rv_open' x
  obtain ⟨ny, sy, ty, hy⟩ := rv_open' y
  obtain ⟨nz, sz, tz, hz⟩ := rv_open' (x * y)
  rw [hx, hy, hz] at HMU
  rw [hx] at HLA ⊢
  rw [hy] at HLB ⊢
  rw [hz] at HLC
  have hkI : (kk : Int) < 5 := by omega
  clear hla hlb hlc hx hy hz ha hb hc9 fx fy fxy x0 y0 xy0 px py hkk
  obtain ⟨o_x, o_y, hz1⟩ := new2 ws2 [.bool nx, .string sx, .string tx] [.bool ny, .string sy, .string ty] 26 26
  replace hbw := below6 hbw hz1
  clear hz1
  go_wp2_with fail
  generalize ((ws2.alloc (.cells #[.bool nx, .string sx, .string tx] 26)).alloc (.cells #[.bool ny, .string sy, .string ty] 26)) = wa2 at o_x o_y hbw ⊢
  generalize ws2.heap.size = g2 at o_x o_y ⊢
  refine (HM.out _).mono ?_
  rintro e wm ⟨rfl, rfl⟩
  have qx_0 : wa2.cell? ⟨g2, 0, none⟩ = some (.bool nx) := o_x.cell 0
  have qx_1 : wa2.cell? ⟨g2, 1, none⟩ = some (.string sx) := o_x.cell 1
  have qx_2 : wa2.cell? ⟨g2, 2, none⟩ = some (.string tx) := o_x.cell 2
  have qy_0 : wa2.cell? ⟨g2 + 1, 0, none⟩ = some (.bool ny) := o_y.cell 0
  have qy_1 : wa2.cell? ⟨g2 + 1, 1, none⟩ = some (.string sy) := o_y.cell 1
  have qy_2 : wa2.cell? ⟨g2 + 1, 2, none⟩ = some (.string ty) := o_y.cell 2
  go_wp2_with fail
  clear qx_0 qx_1 qx_2 qy_0 qy_1 qy_2
  refine (HMU.out _).mono ?_
  rintro e w3 ⟨rfl, hb3⟩
  replace o_x := o_x.below hb3 o_x.lt
  replace o_y := o_y.below hb3 o_y.lt
  replace hbw := below6 hbw hb3
  clear hb3
  obtain ⟨o_z, hz4⟩ := new1 w3 [.bool nz, .string sz, .string tz] 26
  replace o_x := o_x.alloc (.cells #[.bool nz, .string sz, .string tz] 26)
  replace o_y := o_y.alloc (.cells #[.bool nz, .string sz, .string tz] 26)
  replace hbw := below6 hbw hz4
  clear hz4
  have qx_0 : (w3.alloc (.cells #[.bool nz, .string sz, .string tz] 26)).cell? ⟨g2, 0, none⟩ = some (.bool nx) := o_x.cell 0
  have qx_1 : (w3.alloc (.cells #[.bool nz, .string sz, .string tz] 26)).cell? ⟨g2, 1, none⟩ = some (.string sx) := o_x.cell 1
  have qx_2 : (w3.alloc (.cells #[.bool nz, .string sz, .string tz] 26)).cell? ⟨g2, 2, none⟩ = some (.string tx) := o_x.cell 2
  go_wp2_with fail
  generalize (w3.alloc (.cells #[.bool nz, .string sz, .string tz] 26)) = wa5 at o_x o_y o_z hbw ⊢
  generalize w3.heap.size = g5 at o_z ⊢
  clear qx_0 qx_1 qx_2
  refine (HLA.out _).mono ?_
  rintro e w6 ⟨rfl, hb6⟩
  replace o_x := o_x.below hb6 o_x.lt
  replace o_y := o_y.below hb6 o_y.lt
  replace o_z := o_z.below hb6 o_z.lt
  replace hbw := below6 hbw hb6
  clear hb6
  have qy_0 : w6.cell? ⟨g2 + 1, 0, none⟩ = some (.bool ny) := o_y.cell 0
  have qy_1 : w6.cell? ⟨g2 + 1, 1, none⟩ = some (.string sy) := o_y.cell 1
  have qy_2 : w6.cell? ⟨g2 + 1, 2, none⟩ = some (.string ty) := o_y.cell 2
  go_wp2_with fail
  clear qy_0 qy_1 qy_2
  refine (HLB.out _).mono ?_
  rintro e w7 ⟨rfl, hb7⟩
  replace o_x := o_x.below hb7 o_x.lt
  replace o_y := o_y.below hb7 o_y.lt
  replace o_z := o_z.below hb7 o_z.lt
  replace hbw := below6 hbw hb7
  clear hb7
  have qz_0 : w7.cell? ⟨g5, 0, none⟩ = some (.bool nz) := o_z.cell 0
  have qz_1 : w7.cell? ⟨g5, 1, none⟩ = some (.string sz) := o_z.cell 1
  have qz_2 : w7.cell? ⟨g5, 2, none⟩ = some (.string tz) := o_z.cell 2
  go_wp2_with fail
  clear qz_0 qz_1 qz_2
  refine (HLC.out _).mono ?_
  rintro e w8 ⟨rfl, hb8⟩
  replace o_x := o_x.below hb8 o_x.lt
  replace o_y := o_y.below hb8 o_y.lt
  replace o_z := o_z.below hb8 o_z.lt
  replace hbw := below6 hbw hb8
  clear hb8
  rcases HOR.out with h | h
  · subst h
    go_wp2_with fail
    refine (known37 _).mono ?_
    rintro e w9 ⟨rfl, hb9⟩
    go_wp2
    go_ret
    exact ⟨rfl, below6 hbw hb9⟩
  · subst h
    have q1 : ((na + nb + 1 : Int) == na + nb) = false := beq_eq_false_iff_ne.2 (by omega)
    go_wp2_with fail
    refine (known37 _).mono ?_
    rintro e w9 ⟨rfl, hb9⟩
    go_wp2
    go_ret
    exact ⟨rfl, below6 hbw hb9⟩
set_option maxRecDepth 100000 in
set_option maxHeartbeats 8000000 in
theorem law_inverse37 (A : Option Addr) (l : List Int) (c : Nat) (k0 : Int) (w : World) (hA : Ints w A l) (hl : l.length ≤ c) (hc : c ≤ maxLen) (hw : Wide l) (hk1 : -9223372036854775808 ≤ k0) (hk2 : k0 ≤ 9223372036854775807) :
    Calls Try.prog 4 #[.slice A l.length c, .int .i64 k0] w (Holds w) := by
  have HN := Lib.hid (new_any A l c w hA hl hc hw)
  obtain ⟨kk, hkk, hmod⟩ := mod_small k0 5 hk1 hk2 (by decide) (by decide)
  have HM := Lib.hid hmod
  clear hA hw hmod hk1 hk2
  go_enter Try.func4, Try.ntmps4
  go_wp2_with fail
  refine HN.out.mono ?_
  rintro e w1 ⟨rfl, ⟨l', hT⟩, hbw⟩
  have hS : ∀ k, k < w.heap.size → ¬ (k = w.heap.size) := fun k hk e => by omega
  have HS := Lib.hid hS
  clear HN hS
  generalize hpp : w.heap.size = p at hT HS ⊢
  rw [← hpp] at HS
  have HPP := Lib.hid hpp
  clear hpp
  go_wp2_with fail
  refine (some37 true p A l' c 0 _ hT).mono ?_
  rintro e ws1 ⟨⟨x, rfl, fx, px⟩, ⟨a1, hT'⟩, hc1⟩
  replace hbw := hbw.trans (hc1.below (B := w.heap.size) (fun k hk e => HS.out k hk (by rw [HPP.out]; exact e)) hbw.size)
  clear hT hc1
  have hT := hT'
  clear hT'
  clear hT HS HPP
  have x0 := px (by simp)
  have xne : x ≠ 0 := by intro e; rw [e] at x0; exact absurd x0 Rat.lt_irrefl
  have fy := few_inv' xne fx
  have y0 := Rat.inv_pos.2 x0
  obtain ⟨na, ha, ha1, ha2, hla, -⟩ := ebits_yes (k := kk) (fx.mono (by decide)) x0 (by omega) w
  obtain ⟨nb, hb, hb1, hb2, hlb, -⟩ := ebits_yes (k := kk) (fy.mono (by decide)) y0 (by omega) w
  rw [pow_inv_rat x _ xne] at hb hlb
  have HQU : Hid (RetV 17 #[.agg #[.bool false, .string ⟨#[49]⟩, .string ⟨#[49]⟩], RV x] (.tuple #[RV (x⁻¹), .int .i64 0])) := fun w => (rquo_yes (few_one.ok (by decide)) (fx.ok (by decide)) xne w).mono fun e w' ⟨h1, h2⟩ => ⟨by rw [Rat.div_def, Rat.one_mul] at h1; exact h1.ok (fy.ok (by decide)), h2⟩
  obtain ⟨nx, sx, tx, hx⟩ := rv_open' x
  obtain ⟨ny, sy, ty, hy⟩ := rv_open' (x⁻¹)
  rw [hx, hy] at HQU
  rw [hx] at hla ⊢
  rw [hy] at hlb
  have hkI : (kk : Int) < 5 := by omega
  have HAB : Hid ((p2 na = x ^ 2 ^ kk ∧ nb = -na ∧ p2 nb = (x ^ 2 ^ kk)⁻¹) ∨ (p2 na ≠ x ^ 2 ^ kk ∧ nb = -na - 1 ∧ p2 nb ≠ (x ^ 2 ^ kk)⁻¹)) := by
    by_cases he : p2 na = x ^ 2 ^ kk
    · have := log_inv_exact he hb
      exact .inl ⟨he, this⟩
    · have := log_inv ha he hb
      exact .inr ⟨he, this⟩
  clear hx hy ha hb fx fy x0 y0 xne px hkk
  obtain ⟨o_x, hz1⟩ := new1 ws1 [.bool nx, .string sx, .string tx] 26
  replace hbw := below6 hbw hz1
  clear hz1
  rcases HAB.out with ⟨h1, h2, h3⟩ | ⟨h1, h2, h3⟩
  · rw [decide_eq_true h1] at hla
    have HLA := Lib.hid hla
    rw [decide_eq_true h3] at hlb
    have HLB := Lib.hid hlb
    clear hla hlb HAB h1 h3
    subst h2
    go_wp2_with fail
    generalize (ws1.alloc (.cells #[.bool nx, .string sx, .string tx] 26)) = wa2 at o_x hbw ⊢
    generalize ws1.heap.size = g2 at o_x ⊢
    refine (HM.out _).mono ?_
    rintro e wm ⟨rfl, rfl⟩
    have qx_0 : wa2.cell? ⟨g2, 0, none⟩ = some (.bool nx) := o_x.cell 0
    have qx_1 : wa2.cell? ⟨g2, 1, none⟩ = some (.string sx) := o_x.cell 1
    have qx_2 : wa2.cell? ⟨g2, 2, none⟩ = some (.string tx) := o_x.cell 2
    go_wp2_with fail
    clear qx_0 qx_1 qx_2
    refine (HQU.out _).mono ?_
    rintro e w3 ⟨rfl, hb3⟩
    replace o_x := o_x.below hb3 o_x.lt
    replace hbw := below6 hbw hb3
    clear hb3
    obtain ⟨o_y, hz4⟩ := new1 w3 [.bool ny, .string sy, .string ty] 26
    replace o_x := o_x.alloc (.cells #[.bool ny, .string sy, .string ty] 26)
    replace hbw := below6 hbw hz4
    clear hz4
    have qx_0 : (w3.alloc (.cells #[.bool ny, .string sy, .string ty] 26)).cell? ⟨g2, 0, none⟩ = some (.bool nx) := o_x.cell 0
    have qx_1 : (w3.alloc (.cells #[.bool ny, .string sy, .string ty] 26)).cell? ⟨g2, 1, none⟩ = some (.string sx) := o_x.cell 1
    have qx_2 : (w3.alloc (.cells #[.bool ny, .string sy, .string ty] 26)).cell? ⟨g2, 2, none⟩ = some (.string tx) := o_x.cell 2
    go_wp2_with fail
    generalize (w3.alloc (.cells #[.bool ny, .string sy, .string ty] 26)) = wa5 at o_x o_y hbw ⊢
    generalize w3.heap.size = g5 at o_y ⊢
    clear qx_0 qx_1 qx_2
    refine (HLA.out _).mono ?_
    rintro e w6 ⟨rfl, hb6⟩
    replace o_x := o_x.below hb6 o_x.lt
    replace o_y := o_y.below hb6 o_y.lt
    replace hbw := below6 hbw hb6
    clear hb6
    have qy_0 : w6.cell? ⟨g5, 0, none⟩ = some (.bool ny) := o_y.cell 0
    have qy_1 : w6.cell? ⟨g5, 1, none⟩ = some (.string sy) := o_y.cell 1
    have qy_2 : w6.cell? ⟨g5, 2, none⟩ = some (.string ty) := o_y.cell 2
    go_wp2_with fail
    clear qy_0 qy_1 qy_2
    refine (HLB.out _).mono ?_
    rintro e w7 ⟨rfl, hb7⟩
    replace o_x := o_x.below hb7 o_x.lt
    replace o_y := o_y.below hb7 o_y.lt
    replace hbw := below6 hbw hb7
    clear hb7
    go_wp2_with fail
    refine (known37 _).mono ?_
    rintro e w9 ⟨rfl, hb9⟩
    go_wp2
    go_ret
    exact ⟨rfl, below6 hbw hb9⟩
  · rw [decide_eq_false h1] at hla
    have HLA := Lib.hid hla
    rw [decide_eq_false h3] at hlb
    have HLB := Lib.hid hlb
    clear hla hlb HAB h1 h3
    subst h2
    go_wp2_with fail
    generalize (ws1.alloc (.cells #[.bool nx, .string sx, .string tx] 26)) = wa2 at o_x hbw ⊢
    generalize ws1.heap.size = g2 at o_x ⊢
    refine (HM.out _).mono ?_
    rintro e wm ⟨rfl, rfl⟩
    have qx_0 : wa2.cell? ⟨g2, 0, none⟩ = some (.bool nx) := o_x.cell 0
    have qx_1 : wa2.cell? ⟨g2, 1, none⟩ = some (.string sx) := o_x.cell 1
    have qx_2 : wa2.cell? ⟨g2, 2, none⟩ = some (.string tx) := o_x.cell 2
    go_wp2_with fail
    clear qx_0 qx_1 qx_2
    refine (HQU.out _).mono ?_
    rintro e w3 ⟨rfl, hb3⟩
    replace o_x := o_x.below hb3 o_x.lt
    replace hbw := below6 hbw hb3
    clear hb3
    obtain ⟨o_y, hz4⟩ := new1 w3 [.bool ny, .string sy, .string ty] 26
    replace o_x := o_x.alloc (.cells #[.bool ny, .string sy, .string ty] 26)
    replace hbw := below6 hbw hz4
    clear hz4
    have qx_0 : (w3.alloc (.cells #[.bool ny, .string sy, .string ty] 26)).cell? ⟨g2, 0, none⟩ = some (.bool nx) := o_x.cell 0
    have qx_1 : (w3.alloc (.cells #[.bool ny, .string sy, .string ty] 26)).cell? ⟨g2, 1, none⟩ = some (.string sx) := o_x.cell 1
    have qx_2 : (w3.alloc (.cells #[.bool ny, .string sy, .string ty] 26)).cell? ⟨g2, 2, none⟩ = some (.string tx) := o_x.cell 2
    go_wp2_with fail
    generalize (w3.alloc (.cells #[.bool ny, .string sy, .string ty] 26)) = wa5 at o_x o_y hbw ⊢
    generalize w3.heap.size = g5 at o_y ⊢
    clear qx_0 qx_1 qx_2
    refine (HLA.out _).mono ?_
    rintro e w6 ⟨rfl, hb6⟩
    replace o_x := o_x.below hb6 o_x.lt
    replace o_y := o_y.below hb6 o_y.lt
    replace hbw := below6 hbw hb6
    clear hb6
    have qy_0 : w6.cell? ⟨g5, 0, none⟩ = some (.bool ny) := o_y.cell 0
    have qy_1 : w6.cell? ⟨g5, 1, none⟩ = some (.string sy) := o_y.cell 1
    have qy_2 : w6.cell? ⟨g5, 2, none⟩ = some (.string ty) := o_y.cell 2
    go_wp2_with fail
    clear qy_0 qy_1 qy_2
    refine (HLB.out _).mono ?_
    rintro e w7 ⟨rfl, hb7⟩
    replace o_x := o_x.below hb7 o_x.lt
    replace o_y := o_y.below hb7 o_y.lt
    replace hbw := below6 hbw hb7
    clear hb7
    go_wp2_with fail
    refine (known37 _).mono ?_
    rintro e w9 ⟨rfl, hb9⟩
    go_wp2
    go_ret
    exact ⟨rfl, below6 hbw hb9⟩
end Go.Proofs.Ytdjkgjpehneejaa
