/- Parts of the proof: Pw, Lg, Lo. No condition of its own. -/
import Derived.Test.YtjimfbmegmnocaaGreatDoorNv
import Derived.Test.YtjimfbmegmnocaaGreatDoorIt
import Derived.Tactics2
import Derived.Defers
import Derived.Recover
import Derived.Laws.Pointers
set_option linter.unusedSimpArgs false
set_option linter.unusedVariables false
set_option maxRecDepth 100000
set_option maxHeartbeats 4000000
namespace Go.Proofs.YtjimfbmegmnocaaGreatDoor
open Go.RowKit Dg

theorem pow_bit (m k t : Nat) : m ^ (k / 2 ^ t) = m ^ (k / 2 ^ (t + 1)) * m ^ (k / 2 ^ (t + 1)) * (if k / 2 ^ t % 2 = 1 then m else 1) := by
 have h : k / 2 ^ (t + 1) = k / 2 ^ t / 2 := by rw [Nat.pow_succ, Nat.div_div_eq_div_mul]
 rw [h]; generalize k / 2 ^ t = j; rw [<- Nat.pow_add]
 rcases Nat.mod_two_eq_zero_or_one j with e | e
 ·rw [if_neg (by omega), Nat.mul_one]
  congr 1; omega
 ·rw [if_pos e, <- Nat.pow_succ]
  congr 1; omega
theorem land_bit (k t : Nat) : k &&& 2 ^ t = if k / 2 ^ t % 2 = 1 then 2 ^ t else 0 := by
 have hb : k.testBit t = decide (k / 2 ^ t % 2 = 1) := Nat.testBit_eq_decide_div_mod_eq
 apply Nat.eq_of_testBit_eq
 intro i; rw [Nat.testBit_and, Nat.testBit_two_pow]
 by_cases h : t = i
 ·subst h; rw [hb]
  by_cases h2 : k / 2 ^ t % 2 = 1
  ·rw [if_pos h2, Nat.testBit_two_pow]; simp [h2]
  ·rw [if_neg h2]; simp [h2]
 ·have : decide (t = i) = false := decide_eq_false h; rw [this, Bool.and_false]
  by_cases h2 : k / 2 ^ t % 2 = 1
  ·rw [if_pos h2, Nat.testBit_two_pow, this]
  ·rw [if_neg h2]; simp
theorem pow_ge_two {m k : Nat} (hm : 2 <= m) : 2 ^ ((blen m - 1) * k) <= m ^ k := by
 rw [Nat.pow_mul]; exact Nat.pow_le_pow_left (blen_ge (by omega)) k
theorem big_two (N : Nat) (hN : N ≠ 0) : 10 ^ (4 * N) < 2 ^ (16 * N) := by
 rw [Nat.pow_mul, Nat.pow_mul]; exact Nat.pow_lt_pow_left (by decide) hN
theorem pow_long {m k : Nat} (hm : 2 <= m) (h : 80000 < k * (blen m - 1)) : ¬ OkN (m ^ k) := by
 intro ho; obtain ⟨N, hN⟩ : ∃ N, N = 5000 := ⟨_, rfl⟩; have e1 : 20000 = 4 * N := by omega
 have e2 : 80000 = 16 * N := by omega
 unfold OkN at ho; rw [e1] at ho; rw [e2] at h; have h1 := dec_lt (m ^ k); have h2 : m ^ k < 10 ^ (4 * N) := Nat.lt_of_lt_of_le h1 (Nat.pow_le_pow_right (by decide) ho); have h3 := pow_ge_two (k := k) hm; have h4 : 2 ^ (16 * N) <= 2 ^ ((blen m - 1) * k) := Nat.pow_le_pow_right (by decide) (by rw [Nat.mul_comm (blen m - 1)]; omega); have h5 := big_two N (by omega); exact absurd (Nat.lt_trans h2 h5) (Nat.not_lt.2 (Nat.le_trans h4 h3))
theorem pow_words {m k j : Nat} (hm : 2 <= m) (hj : j <= k) (h : k * (blen m - 1) <= 80000) : (dw (m ^ j)).length <= 5001 := by
 have hb : blen m <= 2 * (blen m - 1) := by
  have := dg_lt (Nat.le_refl 2) m; have h2 : 2 <= blen m := by
   rcases Nat.lt_or_ge (blen m) 2 with h | h
   ·have h1 := blen_lt m; have : 2 ^ blen m <= 2 ^ 1 := Nat.pow_le_pow_right (by decide) (by omega)
    omega
   ·exact h
  omega
 have h1 : m ^ j <= (2 ^ blen m) ^ j := Nat.pow_le_pow_left (Nat.le_of_lt (blen_lt m)) j; rw [<- Nat.pow_mul] at h1; have h2 : blen m * j <= 160000 := by
  have : blen m * j <= 2 * (blen m - 1) * k := Nat.mul_le_mul hb hj; have e : 2 * (blen m - 1) * k = 2 * (k * (blen m - 1)) := by rw [Nat.mul_assoc, Nat.mul_comm (blen m - 1) k]
  omega
 obtain ⟨N, hN⟩ : ∃ N, N = 5001 := ⟨_, rfl⟩; have h3 : m ^ j < 4294967296 ^ N := by
  refine Nat.lt_of_le_of_lt h1 ?_; have e : (4294967296 : Nat) ^ N = 2 ^ (32 * N) := by rw [Nat.pow_mul]
  rw [e]; exact Nat.pow_lt_pow_right (by decide) (by omega)
 rw [<- hN]; exact dg_le b32 h3
open Go.RowKit Dg

def bitv : Nat -> Nat
 | 0 => 0
 | t + 1 => 2 ^ t
theorem bitv_half (t : Nat) : bitv (t + 1) / 2 = bitv t := by
 cases t with
 | zero => rfl
 | succ t => show 2 ^ (t + 1) / 2 = 2 ^ t; rw [Nat.pow_succ]; omega
theorem bitv_le {t : Nat} (h : t <= 21) : bitv t <= 1048576 := by
 cases t with
 | zero => show 0 <= _; omega
 | succ t => exact Nat.le_trans (Nat.pow_le_pow_right (by decide) (show t <= 20 by omega)) (by decide)
theorem pow_div0 {k : Nat} (h : k < 2097152) : k / 2 ^ 21 = 0 := Nat.div_eq_of_lt (by omega)
theorem bits_and_i64 (a b : Nat) (ha : a < 9223372036854775808) (hb : b < 9223372036854775808) : bits .and .i64 (a : Int) (b : Int) = ((a &&& b : Nat) : Int) := by
 have hx : a &&& b < 2 ^ 63 := Nat.and_lt_two_pow _ (by omega); have h1 : (BitVec.ofInt 64 (a : Int)).toNat = a := by
  rw [BitVec.ofInt_natCast, BitVec.toNat_ofNat]; exact Nat.mod_eq_of_lt (by omega)
 have h2 : (BitVec.ofInt 64 (b : Int)).toNat = b := by
  rw [BitVec.ofInt_natCast, BitVec.toNat_ofNat]; exact Nat.mod_eq_of_lt (by omega)
 show IntKind.i64.wrap ((BitVec.ofInt 64 (a : Int) &&& BitVec.ofInt 64 (b : Int)).toNat : Int) = _
 rw [BitVec.toNat_and, h1, h2]; exact IntWalk.i64_in _ (by omega)

theorem natpow_any (m k : Nat) (w : World) (hm : OkN m) (hk : k < 4611686018427387904) :
  Calls Tryz.prog 123 #[.string (S m), .int .i64 (k : Int)] w fun e w' => TextRes (m ^ k) e /\ Below w.heap.size w w' := by
 have HV := Z' hm.vld; have HP := fun w => Z' (parse_S m w hm); have hdm := hm.dw; have hk0 : (0 : Int) <= (k : Int) := by omega
 rcases Nat.eq_zero_or_pos k with rfl | hkp
 ·have HR : Hid (TextRes (m ^ 0) (.returned (.tuple #[.string ⟨#[49]⟩, .int .i64 0]))) := by
   show TextRes _ _
   rw [Nat.pow_zero]; exact .inl ⟨okn1, by rw [okS_1]⟩
  clear hm; generalize S m = sm at *
  go_enter Tryz.func123, Tryz.ntmps123
  go_wp2_with fail
  refine (valid_yes _ HV.out).mono ?_; rintro e w1 ⟨rfl, rfl⟩
  go_wp2
  go_ret2
  exact ⟨HR.out, Below.refl _ _⟩
 have hbk : ((k : Int) == 0) = false := beq_eq_false_iff_ne.2 (by omega); have hkI : (0 : Int) < (k : Int) := by omega
 by_cases h1 : m = 1
 ·subst h1; have HR : Hid (TextRes (1 ^ k) (.returned (.tuple #[.string ⟨#[49]⟩, .int .i64 0]))) := by
   show TextRes _ _
   rw [Nat.one_pow]; exact .inl ⟨okn1, by rw [okS_1]⟩
  rw [okS_1] at HV |-; clear hm hkp hdm HP
  go_enter Tryz.func123, Tryz.ntmps123
  go_wp2_with fail
  refine (valid_yes _ HV.out).mono ?_; rintro e w1 ⟨rfl, rfl⟩
  go_wp2
  go_ret2
  exact ⟨HR.out, Below.refl _ _⟩
 have hb1 : ((S m).toList == [49]) = false := by
  rw [beq_eq_false_iff_ne]; intro e
  apply h1
  refine S_inj ?_; rw [okS_1]
  apply ba_ext
  rw [<- ByteArray.toList_eq, e]
 by_cases h0 : m = 0
 ·subst h0; have HR : Hid (TextRes (0 ^ k) (.returned (.tuple #[.string ⟨#[48]⟩, .int .i64 0]))) := by
   show TextRes _ _
   rw [Nat.zero_pow hkp]; exact .inl ⟨okn0, by rw [okS_0]⟩
  rw [okS_0] at HV hb1 |-; clear hm hkp hdm HP h1
  go_enter Tryz.func123, Tryz.ntmps123
  go_wp2_with fail
  refine (valid_yes _ HV.out).mono ?_; rintro e w1 ⟨rfl, rfl⟩
  go_wp2
  go_ret2
  exact ⟨HR.out, Below.refl _ _⟩
 have hm2 : 2 <= m := by omega
 have hb0 : ((S m).toList == [48]) = false := str_ne (by rw [<- okS_0]; exact S_ne_0 (by omega)); have hbl : 2 <= blen m := by
  rcases Nat.lt_or_ge (blen m) 2 with h | h
  ·have g1 := blen_lt m; have g2 : 2 ^ blen m <= 2 ^ 1 := Nat.pow_le_pow_right (by decide) (by omega)
   omega
  ·exact h
 have hbu : blen m <= 80000 := blen_dec hm; have HM2 := Z' hm2; obtain ⟨q, hq⟩ : ∃ q : Nat, 80000 / (blen m - 1) = q := ⟨_, rfl⟩; have hq1 : q <= 80000 := by rw [<- hq]; exact Nat.div_le_self _ _
 obtain ⟨bm, hbm⟩ : ∃ bm : Nat, blen m = bm + 1 := ⟨blen m - 1, by omega⟩; have HQ : Hid (80000 / bm = q) := by show _ = _; rw [<- hq, hbm]; simp
 have hbm1 : 1 <= bm := by omega
 have hbm2 : bm <= 80000 := by omega
 have HBM := Z' hbm; have zz1 : IntKind.i64.wrap ((bm : Int) + 1 - 1) = (bm : Int) := by
  have : (bm : Int) + 1 - 1 = bm := by omega
  rw [this]; exact IntWalk.i64_in _ (by omega)
 have zz2 : ((80000 : Int) / (bm : Int)) = (q : Int) := by have := HQ.out; rw [<- this]; simp
 clear hm h1 h0 hm2 hq hbl hbu hbm
 by_cases hbig : q < k
 ·have HR : Hid (TextRes (m ^ k) (.returned (.tuple #[.string ⟨#[]⟩, .int .i64 2]))) := .inr ⟨pow_long HM2.out (by
   rw [HBM.out]; have := HQ.out; have h3 := (Nat.div_lt_iff_lt_mul (show 0 < bm by omega)).1 (show 80000 / bm < k by omega)
   simpa using h3), rfl⟩
  have hbI : (q : Int) < (k : Int) := by omega
  clear hbig hkp; generalize S m = sm at *
  go_enter Tryz.func123, Tryz.ntmps123
  go_wp2_with fail
  refine (valid_yes _ HV.out).mono ?_; rintro e w1 ⟨rfl, rfl⟩
  go_wp2_with fail
  refine (HP _).out.mono ?_; rintro e w1 ⟨v, rfl, hv, hb⟩
  go_wp2_with fail
  refine (bits_any _ hv (by omega)).mono ?_; rintro e w2 ⟨rfl, rfl⟩; rw [HBM.out]
  go_wp2
  go_ret2
  exact ⟨HR.out, hb⟩
 ·have hkq : k <= q := by omega
  have hkb : k * (blen m - 1) <= 80000 := by
   rw [HBM.out]; have := HQ.out; rw [<- this] at hkq
   simpa using Nat.le_trans (Nat.mul_le_mul_right bm hkq) (Nat.div_mul_le_self 80000 bm)
  have HKB := Z' hkb; have hbI : ¬ ((q : Int) < (k : Int)) := by omega
  have hk5 : k <= 80000 := by omega
  clear hbig hkp hkb; generalize S m = sm at *
  go_enter Tryz.func123, Tryz.ntmps123
  go_wp2_with fail
  refine (valid_yes _ HV.out).mono ?_; rintro e w1 ⟨rfl, rfl⟩
  go_wp2_with fail
  refine (HP _).out.mono ?_; rintro e w1 ⟨v, rfl, hv, hb⟩
  go_wp2_with fail
  refine (bits_any _ hv (by omega)).mono ?_; rintro e w2 ⟨rfl, rfl⟩; rw [HBM.out]
  go_wp2_with fail
  refine (of_any 1 _ (by decide)).mono ?_; rintro e w3 ⟨vo, rfl, hvo, hb3⟩; replace hv := hv.below hb3; replace hb := below6 hb hb3; clear hb3; have hvo0 : NatV w3 vo (m ^ (k / 2 ^ 21)) := by rw [pow_div0 (by omega), Nat.pow_zero]; exact hvo
  have HV0 := Z' hvo0; have HVX := Z' hv; clear hvo hvo0 hv; have HW : Hid (∀ j, j <= k -> (dw (m ^ j)).length <= 5001) := fun j hj => pow_words HM2.out hj HKB.out
  go_wp2_with fail
  go_loopg [7, 8] 21 (fun qq v7 v8 wr => ∃ (t B : Nat), qq = t /\ t <= 21 /\ B = bitv t /\ v8 = .int .i64 (B : Int) /\ NatV wr v7 (m ^ (k / 2 ^ t)) /\ NatV wr v m /\ Below w.heap.size w wr)
  case atStart => exact ⟨21, 1048576, rfl, Nat.le_refl _, rfl, rfl, HV0.out, HVX.out, hb⟩
  case round =>
   obtain ⟨t, B, hq9, ht, hB, rfl, hvr, hvx, hbw⟩ := hrel; have HQ9 := Z' hq9; clear hq9
   have HB := Z' hB; have hB1 : B <= 1048576 := by rw [hB]; exact bitv_le ht
   rcases Nat.eq_zero_or_pos t with rfl | ht0
   ·have hB0 : B = 0 := hB; subst hB0; rw [Nat.pow_zero, Nat.div_one] at hvr; have HR := Z' hvr; have HWK := HW.out k (Nat.le_refl _); clear hB hvr
    go_wp2_with fail
    refine (text_any _ HR.out (by omega)).mono ?_; rintro e w5 ⟨htx, hb5⟩; replace hbw := below6 hbw hb5
    rcases htx with ⟨h, rfl⟩ | ⟨h, rfl⟩
    all_goals
     have hh := Z' h; clear h
     go_wp2
     go_ret2
     first | exact ⟨.inl ⟨hh.out, rfl⟩, hbw⟩ | exact ⟨.inr ⟨hh.out, rfl⟩, hbw⟩
   ·obtain ⟨j, rfl⟩ : ∃ j, t = j + 1 := ⟨t - 1, by omega⟩; have hB0 : 0 < B := by rw [hB]; exact Nat.pow_pos (by decide)
    have hhalf : B / 2 = bitv j := by rw [hB]; exact bitv_half j
    have HH := Z' hhalf; have hland : k &&& B = if k / 2 ^ j % 2 = 1 then B else 0 := by rw [hB]; exact land_bit k j
    have hw1 := HW.out (k / 2 ^ (j + 1)) (Nat.div_le_self _ _); have hw2 := HW.out (k / 2 ^ j) (Nat.div_le_self _ _); have hpb := pow_bit m k j; have HPB := Z' hpb; have hBI : (0 : Int) < (B : Int) := by omega
    have hm1 := dw_mul (m ^ (k / 2 ^ (j + 1))) (m ^ (k / 2 ^ (j + 1))); clear hB hhalf hpb ht0
    go_wp2_with fail
    refine (mul_any _ hvr hvr (by omega) (by omega)).mono ?_; rintro e w5 ⟨v5, rfl, hv5, hb5⟩; replace hvx := hvx.below hb5; replace hbw := below6 hbw hb5; clear hb5 hvr
    by_cases hbit : k / 2 ^ j % 2 = 1
    ·have hand : k &&& B = B := by rw [hland, if_pos hbit]
     have HN : Hid (m ^ (k / 2 ^ (j + 1)) * m ^ (k / 2 ^ (j + 1)) * m = m ^ (k / 2 ^ j)) := by show _ = _; rw [HPB.out, if_pos hbit]
     have HAND := bits_and_i64 k B (by omega) (by omega); rw [hand] at HAND; have hbne : ((B : Int) != 0) = true := by simp; omega
     clear hland hbit hand
     go_wp2_with fail
     refine (mul_any _ hv5 hvx (by omega) (by omega)).mono ?_; rintro e w6 ⟨v6, rfl, hv6, hb6⟩; replace hvx := hvx.below hb6; replace hbw := below6 hbw hb6; rw [HN.out] at hv6; clear hb6 hv5 HAND hbne
     go_wp2_with fail
     go_roundg j
     case measure => have := HQ9.out; omega
     case rel => exact ⟨j, B / 2, rfl, by omega, HH.out, by go_num, hv6, hvx, hbw⟩
    ·have hand : k &&& B = 0 := by rw [hland, if_neg hbit]
     have HN : Hid (m ^ (k / 2 ^ (j + 1)) * m ^ (k / 2 ^ (j + 1)) = m ^ (k / 2 ^ j)) := by show _ = _; rw [HPB.out, if_neg hbit, Nat.mul_one]
     have HAND := bits_and_i64 k B (by omega) (by omega); rw [hand] at HAND; rw [HN.out] at hv5; clear hland hbit hand
     go_wp2_with fail
     go_roundg j
     case measure => have := HQ9.out; omega
     case rel => exact ⟨j, B / 2, rfl, by omega, HH.out, by go_num, hv5, hvx, hbw⟩
open Go.RowKit Dg

def p2 (n : Int) : Rat := (2 : Rat) ^ n
theorem p2_pos (n : Int) : 0 < p2 n := Rat.zpow_pos (by decide)
theorem p2_add (m n : Int) : p2 (m + n) = p2 m * p2 n := Rat.zpow_add (by decide) m n
theorem p2_neg (n : Int) : p2 (-n) = (p2 n)⁻¹ := Rat.zpow_neg 2 n
theorem p2_nat (n : Nat) : p2 (n : Int) = ((2 ^ n : Nat) : Rat) := by
 unfold p2; rw [Rat.zpow_natCast, Rat.natCast_pow]
 rfl
theorem p2_lt {m n : Int} (h : m < n) : p2 m < p2 n := by
 obtain ⟨d, hd⟩ : ∃ d : Nat, n = m + ((d + 1 : Nat) : Int) := ⟨(n - m - 1).toNat, by omega⟩; rw [hd, p2_add, p2_nat]; have h1 : (1 : Rat) < ((2 ^ (d + 1) : Nat) : Rat) := by
  have : (1 : Rat) = ((1 : Nat) : Rat) := rfl; rw [this, Rat.natCast_lt_natCast]; exact Nat.one_lt_two_pow (by omega)
 have := Rat.mul_lt_mul_of_pos_left h1 (p2_pos m)
 rwa [Rat.mul_one] at this
theorem p2_lt_iff {m n : Int} : p2 m < p2 n ↔ m < n := by
 constructor
 ·intro h
  rcases Int.lt_trichotomy m n with h1 | h1 | h1
  ·exact h1
  ·subst h1; exact absurd h Rat.lt_irrefl
  ·have := p2_lt h1; exact absurd (show p2 m < p2 m by grind) Rat.lt_irrefl
 ·exact p2_lt
def IsLog (y : Rat) (n : Int) : Prop := p2 n <= y /\ y < p2 (n + 1)
theorem IsLog.eq {y : Rat} {m n : Int} (h : IsLog y m) (h' : IsLog y n) : m = n := by
 have h1 : p2 m < p2 (n + 1) := by have := h.1; have := h'.2; grind
 have h2 : p2 n < p2 (m + 1) := by have := h'.1; have := h.2; grind
 have := p2_lt_iff.1 h1; have := p2_lt_iff.1 h2
 omega
theorem rat_quo (a b : Nat) : rat false a b = (a : Rat) / (b : Rat) := by
 unfold rat
 simp only [Bool.false_eq_true, if_false]
 rw [Rat.mkRat_eq_div]
 rfl
theorem cmp_quo {a b c d : Nat} (hb : 0 < b) (hd : 0 < d) : (rat false a b < rat false c d ↔ a * d < c * b) /\ (rat false a b = rat false c d ↔ a * d = c * b) := by
 constructor
 ·rw [rat_quo, rat_quo]; have hb9 : (0 : Rat) < (b : Rat) := Rat.natCast_pos.2 hb; have hd9 : (0 : Rat) < (d : Rat) := Rat.natCast_pos.2 hd; rw [Rat.div_lt_iff hb9]; have e : ∀ p q r : Rat, p / q * r = p * r / q := by intro p q r; rw [Rat.div_def, Rat.div_def, Rat.mul_assoc, Rat.mul_comm q⁻¹, <- Rat.mul_assoc]
  rw [e, Rat.lt_div_iff hd9, <- Rat.natCast_mul, <- Rat.natCast_mul, Rat.natCast_lt_natCast]
 ·unfold rat
  simp only [Bool.false_eq_true, if_false]
  rw [Rat.mkRat_eq_iff (by omega) (by omega)]
  omega
theorem p2_quo (j : Nat) : p2 (j : Int) = rat false (2 ^ j) 1 /\ p2 (-(j : Int)) = rat false 1 (2 ^ j) := by
 constructor
 ·rw [p2_nat, rat_quo, Rat.div_def]; have e : ((1 : Nat) : Rat)⁻¹ = 1 := Rat.inv_eq_of_mul_eq_one (by show (1 : Rat) * 1 = 1; rw [Rat.mul_one]); rw [e, Rat.mul_one]
 ·rw [p2_neg, p2_nat, rat_quo, Rat.div_def]
  show _ = (1 : Rat) * _
  rw [Rat.one_mul]
theorem times_pos {P Q : Nat} (hQ : 0 < Q) (j : Nat) : (p2 (j : Int) < rat false P Q ↔ Q * 2 ^ j < P) /\ (p2 (j : Int) = rat false P Q ↔ Q * 2 ^ j = P) := by
 rw [(p2_quo j).1]; have h := cmp_quo (a := 2 ^ j) (b := 1) (c := P) (d := Q) (by omega) hQ; rw [Nat.mul_one, Nat.mul_comm] at h; exact h
theorem times_neg {P Q : Nat} (hQ : 0 < Q) (j : Nat) : (p2 (-(j : Int)) < rat false P Q ↔ Q < P * 2 ^ j) /\ (p2 (-(j : Int)) = rat false P Q ↔ Q = P * 2 ^ j) := by
 rw [(p2_quo j).2]; have h := cmp_quo (a := 1) (b := 2 ^ j) (c := P) (d := Q) (Nat.pow_pos (by decide)) hQ; rw [Nat.one_mul] at h; exact h
theorem log_guess {P Q : Nat} (hP : 0 < P) (hQ : 0 < Q) : p2 ((blen P : Int) - blen Q - 1) < rat false P Q /\ rat false P Q < p2 ((blen P : Int) - blen Q + 1) := by
 have p1 := blen_lt P; have p3 := blen_ge hP; have q1 := blen_lt Q; have q3 := blen_ge hQ; have hp := blen_pos hP; have hq := blen_pos hQ; obtain ⟨p, hp⟩ : ∃ p, blen P = p + 1 := ⟨blen P - 1, by omega⟩; obtain ⟨q, hq⟩ : ∃ q, blen Q = q + 1 := ⟨blen Q - 1, by omega⟩; rw [hp] at p1 p3 |-; rw [hq] at q1 q3 |-
 simp only [Nat.add_sub_cancel] at p3 q3
 have e : ∀ n : Int, p2 n * (Q : Rat) < (P : Rat) ↔ p2 n < rat false P Q := by
  intro n; rw [rat_quo, Rat.lt_div_iff (Rat.natCast_pos.2 hQ)]
 have e2 : ∀ n : Int, (P : Rat) < p2 n * (Q : Rat) ↔ rat false P Q < p2 n := by
  intro n; rw [rat_quo, Rat.div_lt_iff (Rat.natCast_pos.2 hQ)]
 have c1 : (Q : Rat) < p2 ((q + 1 : Nat) : Int) := by rw [p2_nat, Rat.natCast_lt_natCast]; exact q1
 have c2 : p2 (q : Int) <= (Q : Rat) := by rw [p2_nat, Rat.natCast_le_natCast]; exact q3
 have c3 : (P : Rat) < p2 ((p + 1 : Nat) : Int) := by rw [p2_nat, Rat.natCast_lt_natCast]; exact p1
 have c4 : p2 (p : Int) <= (P : Rat) := by rw [p2_nat, Rat.natCast_le_natCast]; exact p3
 constructor
 ·rw [<- e]; have h1 := Rat.mul_lt_mul_of_pos_left c1 (p2_pos (((p + 1 : Nat) : Int) - ((q + 1 : Nat) : Int) - 1)); rw [<- p2_add] at h1; have e3 : ((p + 1 : Nat) : Int) - ((q + 1 : Nat) : Int) - 1 + ((q + 1 : Nat) : Int) = (p : Int) := by omega
  rw [e3] at h1
  grind
 ·rw [<- e2]; have h1 := Rat.mul_le_mul_of_nonneg_left c2 (Rat.le_of_lt (p2_pos (((p + 1 : Nat) : Int) - ((q + 1 : Nat) : Int) + 1))); rw [<- p2_add] at h1; have e3 : ((p + 1 : Nat) : Int) - ((q + 1 : Nat) : Int) + 1 + (q : Int) = ((p + 1 : Nat) : Int) := by omega
  rw [e3] at h1
  grind
theorem log_up {P Q : Nat} (hP : 0 < P) (hQ : 0 < Q) (h : p2 ((blen P : Int) - blen Q) <= rat false P Q) : IsLog (rat false P Q) ((blen P : Int) - blen Q) := ⟨h, (log_guess hP hQ).2⟩
theorem log_down {P Q : Nat} (hP : 0 < P) (hQ : 0 < Q) (h : rat false P Q < p2 ((blen P : Int) - blen Q)) : IsLog (rat false P Q) ((blen P : Int) - blen Q - 1) := by
 refine ⟨Rat.le_of_lt (log_guess hP hQ).1, ?_⟩; have : (blen P : Int) - blen Q - 1 + 1 = (blen P : Int) - blen Q := by omega
 rwa [this]
open Go.RowKit Dg

theorem power_any (m k : Nat) (w : World) (hm : OkN m) (hk : k <= 8) (hp : OkN (m ^ (2 ^ k))) :
  Calls Tryz.prog 101 #[.string (S m), .int .i64 (k : Int)] w fun e w' => ∃ v, e = .returned v /\ NatV w' v (m ^ (2 ^ k)) /\ Below w.heap.size w w' := by
 have hk2 : 2 ^ k <= 256 := Nat.le_trans (Nat.pow_le_pow_right (by decide) hk) (by decide); have HP := fun w => Z' (natpow_any m (2 ^ k) w hm (by omega)); have HS := fun w => Z' (parse_S (m ^ (2 ^ k)) w hp); have HOK := Z' hp; generalize m ^ (2 ^ k) = P at *; generalize S m = sm at *; clear hm hp; have hkI : (k : Int) <= 8 := by omega
 have hkI0 : (0 : Int) <= (k : Int) := by omega
 go_enter Tryz.func101, Tryz.ntmps101
 have zw : wrap64 ((2 : Int) ^ k) = ((2 ^ k : Nat) : Int) := by
  have e : (2 : Int) ^ k = ((2 ^ k : Nat) : Int) := by simp
  rw [e]; have h9 : ∀ K : Nat, K <= 256 -> wrap64 (K : Int) = K := fun K h => by unfold wrap64; omega
  exact h9 _ hk2
 have ZW := Z' zw; clear zw
 go_wp2_with fail
 rw [ZW.out]; refine (HP _).out.mono ?_; rintro e w1 ⟨htx, hb1⟩; have he := htx.ok HOK.out; subst he; clear htx
 go_wp2_with fail
 refine (HS _).out.mono ?_; rintro e w2 ⟨v, rfl, hv, hb2⟩
 go_wp2
 go_ret
 exact ⟨v, rfl, hv, below6 hb1 hb2⟩
theorem cmpR_of {x y : Rat} {a b : Nat} (h1 : x < y ↔ a < b) (h2 : x = y ↔ a = b) : cmpR x y = cmpI a b := by
 unfold cmpR cmpI
 simp only [h1, h2]
theorem times_any {v1 v2 : Value} {P Q : Nat} (n : Int) (w : World) (h1 : NatV w v1 P) (h2 : NatV w v2 Q) (hQ : 0 < Q) (hn1 : -1000000 <= n) (hn2 : n <= 1000000) (l1 : (dw P).length <= 100000) (l2 : (dw Q).length <= 100000) :
  Calls Tryz.prog 103 #[v1, v2, .int .i64 n] w fun e w' => e = .returned (.int .i64 (cmpR (p2 n) (rat false P Q))) /\ Below w.heap.size w w' := by
 by_cases hn : n < 0
 ·obtain ⟨j, rfl⟩ : ∃ j : Nat, n = -(j : Int) := ⟨(-n).toNat, by omega⟩; have HR := Z' (cmpR_of (times_neg hQ j (P := P)).1 (times_neg hQ j (P := P)).2); have HS := Z' (shift_any (n := j) w h1 (by omega) (by omega)); have H2 := Z' h2; have z1 : IntKind.i64.wrap (-(-(j : Int))) = (j : Int) := by rw [Int.neg_neg]; exact IntWalk.i64_in _ (by omega)
  have z2 : -(-(j : Int)) = (j : Int) := Int.neg_neg _; clear h1 h2 hQ
  go_enter Tryz.func103, Tryz.ntmps103
  go_wp2_with fail
  refine HS.out.mono ?_; rintro e w1 ⟨v3, rfl, hv3, hb1⟩
  go_wp2_with fail
  refine (cmp_any _ (H2.out.below hb1) hv3).mono ?_; rintro e w2 ⟨rfl, hb2⟩
  go_wp2
  go_ret
  exact ⟨ret_int HR.out.symm, below6 hb1 hb2⟩
 ·obtain ⟨j, rfl⟩ : ∃ j : Nat, n = (j : Int) := ⟨n.toNat, by omega⟩; have HR := Z' (cmpR_of (times_pos hQ j (P := P)).1 (times_pos hQ j (P := P)).2); have HS := Z' (shift_any (n := j) w h2 (by omega) (by omega)); have H1 := Z' h1; clear h1 h2 hQ
  go_enter Tryz.func103, Tryz.ntmps103
  go_wp2_with fail
  refine HS.out.mono ?_; rintro e w1 ⟨v3, rfl, hv3, hb1⟩
  go_wp2_with fail
  refine (cmp_any _ hv3 (H1.out.below hb1)).mono ?_; rintro e w2 ⟨rfl, hb2⟩
  go_wp2
  go_ret
  exact ⟨ret_int HR.out.symm, below6 hb1 hb2⟩
theorem log_catch (a b c : Option Addr) (w : World) :
  CallsD Tryz.prog 100 #[.pointer a, .pointer b, .pointer c] .returning w fun e u' w' => e = .returned (.tuple #[]) /\ u' = .returning /\ w' = w := by
 have hta : ∀ w : World, (Instr.typeAssert Value.nilIface 20 36 true).run Tryz.prog w = .ok (.tuple #[.int .i64 0, .bool false]) w := fun _ => by kernel_rfl
 refine callsD_of_wpS Tryz.func100 rfl fun c₀ cs hu => ?_
 apply wpS_seq
 apply wpS_region
 simp [wpOpsS, go_sem, recoverD, hu, hta, Tryz.ntmps100, Exit.thenS]
 apply wpS_seq
 apply wpS_region
 simp [wpOpsS, go_sem, Exit.thenS]
 refine wpS_cond (t := false) (by simp [Act.eval, Array.replicate]) ?_
 simp only [Bool.false_eq_true, if_false]
 refine wpS_of_wp (wp_skip ?_)
 cases c₀
 simp_all [bodyPostS, results, Tryz.results100]
end Go.Proofs.YtjimfbmegmnocaaGreatDoor
