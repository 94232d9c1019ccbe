/- The law EncloseFiner as a walk. -/
import Derived.Test.YtopfcfbiaadfeaaDoorLf
namespace Go.Proofs.YtopfcfbiaadfeaaDoor
set_option linter.unusedSimpArgs false
set_option linter.unusedVariables false
set_option linter.unusedSectionVars false
open Go.RowKit Dg

theorem cmpR_le {x y : Rat} : cmpR x y ≤ 0 ↔ x ≤ y := by
  have h := cmpR_gt (x := x) (y := y)
  rw [← Rat.not_lt, ← h]; omega
theorem uq_le {a b : Int} {j k : Nat} : uq a j ≤ uq b k ↔ a * ((2 ^ k : Nat) : Int) ≤ b * ((2 ^ j : Nat) : Int) := by
  rw [uq_eq, uq_eq]
  have hj : (0 : Rat) < ((2 ^ j : Nat) : Rat) := Rat.natCast_pos.2 (Nat.pow_pos (by decide))
  have hk : (0 : Rat) < ((2 ^ k : Nat) : Rat) := Rat.natCast_pos.2 (Nat.pow_pos (by decide))
  rw [← Rat.not_lt, Rat.lt_div_iff hj]
  have e : ∀ p q r : Rat, p / q * r = p * r / q := by intro p q r; rw [Rat.div_def, Rat.div_def, Rat.mul_assoc, Rat.mul_comm q⁻¹, ← Rat.mul_assoc]
  rw [e, Rat.div_lt_iff hk]
  have e1 : ∀ (a : Int) (n : Nat), (a : Rat) * (n : Rat) = ((a * n : Int) : Rat) := by intro a n; rw [Rat.intCast_mul]; rfl
  rw [e1, e1, Rat.intCast_lt_intCast]
  omega
/-- The ends of Bits at two precisions. -/
theorem finer {x : Rat} {a b : Int} {k m : Nat} (ha : IsLog (x ^ (2 ^ k)) a) (hb : IsLog (x ^ (2 ^ (k + m))) b) :
    uq a k ≤ uq b (k + m) ∧ (if p2 b = x ^ (2 ^ (k + m)) then uq b (k + m) else uq (b + 1) (k + m)) ≤ (if p2 a = x ^ (2 ^ k) then uq a k else uq (a + 1) k) ∧ uq b (k + m) ≤ (if p2 b = x ^ (2 ^ (k + m)) then uq b (k + m) else uq (b + 1) (k + m)) := by
  have e : x ^ (2 ^ (k + m)) = (x ^ (2 ^ k)) ^ (2 ^ m) := by
    rw [Nat.pow_add]
    generalize 2 ^ k = K
    generalize 2 ^ m = M
    induction M with
    | zero => simp
    | succ M ih =>
      have e2 : K * (M + 1) = K * M + K := by rw [Nat.mul_add, Nat.mul_one]
      rw [e2, Rat.pow_succ, ← ih]
      have : ∀ i j : Nat, x ^ (i + j) = x ^ i * x ^ j := by
        intro i j
        induction j with
        | zero => simp
        | succ j ih => rw [← Nat.add_assoc, Rat.pow_succ, ih, Rat.pow_succ, Rat.mul_assoc]
      exact this _ _
  rw [e] at hb ⊢
  have hK : 0 < 2 ^ m := Nat.pow_pos (by decide)
  obtain ⟨h1, h2⟩ := log_pow hK ha hb
  have hp : ((2 ^ (k + m) : Nat) : Int) = ((2 ^ k : Nat) : Int) * ((2 ^ m : Nat) : Int) := by rw [Nat.pow_add]; simp
  have key : ∀ u v : Int, u * ((2 ^ m : Nat) : Int) ≤ v → uq u k ≤ uq v (k + m) := by
    intro u v h
    rw [uq_le, hp, Int.mul_comm ((2 ^ k : Nat) : Int), ← Int.mul_assoc]
    exact Int.mul_le_mul_of_nonneg_right h (Int.natCast_nonneg _)
  have key2 : ∀ u v : Int, v ≤ u * ((2 ^ m : Nat) : Int) → uq v (k + m) ≤ uq u k := by
    intro u v h
    rw [uq_le, hp, Int.mul_comm ((2 ^ k : Nat) : Int), ← Int.mul_assoc]
    exact Int.mul_le_mul_of_nonneg_right h (Int.natCast_nonneg _)
  have up : ∀ v : Int, uq v (k + m) ≤ uq (v + 1) (k + m) := by
    intro v
    rw [uq_le]
    exact Int.mul_le_mul_of_nonneg_right (by omega) (Int.natCast_nonneg _)
  refine ⟨key a b h1, ?_, ?_⟩
  · by_cases he : p2 a = x ^ (2 ^ k)
    · obtain ⟨g1, g2⟩ := log_pow_exact he hb
      rw [if_pos g2, if_pos he]
      exact key2 a b (by rw [g1]; omega)
    · rw [if_neg he]
      split
      · exact key2 (a + 1) b (by omega)
      · exact key2 (a + 1) (b + 1) (by omega)
  · split
    · exact Rat.le_refl
    · exact up b
theorem evalid_yes {x y : Rat} (hx : OkR x) (hy : OkR y) : RetV 40 #[IV x y] (.bool (decide (x ≤ y))) := by
  have h := evalid_core _ _ _ _ _ _ true true (cmpR x y) (fun w => isratio_yes w hx) (fun w => isratio_yes w hy) (fun _ _ w => rcmp_yes hx hy w)
  have e : (true && (true && decide (cmpR x y ≤ 0))) = decide (x ≤ y) := by
    simp [cmpR_le]
  rw [e] at h
  exact h
theorem iv_open (x y : Rat) : ∃ n s t, RV x = .agg #[.bool n, .string s, .string t] ∧ ∃ m u v, RV y = .agg #[.bool m, .string u, .string v] ∧ IV x y = .agg #[.bool n, .string s, .string t, .bool m, .string u, .string v] := ⟨_, _, _, rfl, _, _, _, rfl, rfl⟩

end Go.Proofs.YtopfcfbiaadfeaaDoor
