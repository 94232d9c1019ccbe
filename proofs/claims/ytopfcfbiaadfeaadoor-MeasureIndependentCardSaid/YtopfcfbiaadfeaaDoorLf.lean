/- The laws EncloseProducts and EncloseInverse as walks. -/
import Derived.Test.YtopfcfbiaadfeaaDoorLs
import Derived.Test.YtopfcfbiaadfeaaDoorLa
namespace Go.Proofs.YtopfcfbiaadfeaaDoor
set_option linter.unusedSimpArgs false
set_option linter.unusedVariables false
set_option linter.unusedSectionVars false
open Go.RowKit Dg

theorem Few.mono {j k : Nat} {x : Rat} (h : Few j x) (hjk : j ≤ k) : Few k x := ⟨Nat.le_trans h.1 hjk, Nat.le_trans h.2 hjk⟩
theorem few_mul' {j k : Nat} (h0 : 0 < j + k) {x y : Rat} (hx : Few j x) (hy : Few k y) : Few (j + k) (x * y) := by
  have e : x * y = rat (decide (x.num < 0) != decide (y.num < 0)) (x.num.natAbs * y.num.natAbs) (x.den * y.den) := by rw [rat_mul, rat_self, rat_self]
  have hd : 0 < x.den * y.den := Nat.mul_pos (den_pos x) (den_pos y)
  have few_lt : ∀ {n k : Nat}, (dec n).length ≤ k → n < 10 ^ k := fun h => Nat.lt_of_lt_of_le (dec_lt _) (Nat.pow_le_pow_right (by decide) h)
  rw [e]
  refine few_rat hd (dec_len_le h0 ?_) (dec_len_le h0 ?_)
  · rw [Nat.pow_add]; exact Nat.mul_lt_mul'' (few_lt hx.1) (few_lt hy.1)
  · rw [Nat.pow_add]; exact Nat.mul_lt_mul'' (few_lt hx.2) (few_lt hy.2)
theorem few_inv' {k : Nat} {x : Rat} (h0 : x ≠ 0) (h : Few k x) : Few k x⁻¹ := by
  have e : x⁻¹ = rat (decide (x.num < 0)) x.den x.num.natAbs := by rw [rat_inv (c := x.num.natAbs), rat_self]
  rw [e]
  exact few_rat (num_pos h0) h.2 h.1
theorem pow_mul_rat (x y : Rat) (n : Nat) : (x * y) ^ n = x ^ n * y ^ n := by
  induction n with
  | zero => simp
  | succ n ih => rw [Rat.pow_succ, Rat.pow_succ, Rat.pow_succ, ih]; grind
theorem pow_inv_rat (x : Rat) (n : Nat) (h : x ≠ 0) : (x⁻¹) ^ n = (x ^ n)⁻¹ := by
  refine (Rat.inv_eq_of_mul_eq_one ?_).symm
  rw [← pow_mul_rat, Rat.mul_inv_cancel x h]
  induction n with
  | zero => simp
  | succ n ih => rw [Rat.pow_succ, ih, Rat.mul_one]
theorem RV_one : RV 1 = .agg #[.bool false, .string ⟨#[49]⟩, .string ⟨#[49]⟩] := rfl
theorem few_one : Few 1 (1 : Rat) := by unfold Few; decide
/-- Mod of a number by a small one. -/
theorem mod_small (x : Int) (n : Nat) (h1 : -9223372036854775808 ≤ x) (h2 : x ≤ 9223372036854775807) (hn : 0 < n) (hn2 : n ≤ 1000000) : ∃ k : Nat, k < n ∧ ∀ w, Calls Tryd.prog 18 #[.int .i64 x, .int .i64 (n : Int)] w fun e w' => e = .returned (.int .i64 (k : Int)) ∧ w = w' := by
  have hr1 := Int.emod_nonneg x (show (n : Int) ≠ 0 by omega)
  have hr2 := Int.emod_lt_of_pos x (show (0 : Int) < n by omega)
  obtain ⟨r, hr⟩ : ∃ r : Nat, x % (n : Int) = (r : Int) := ⟨(x % (n : Int)).toNat, by omega⟩
  exact ⟨r, by omega, fun w => (mod_any x n w hn hn2 h1 h2).mono fun e w' ⟨h1, h2⟩ => ⟨by rw [h1, hr], h2⟩⟩

end Go.Proofs.YtopfcfbiaadfeaaDoor
