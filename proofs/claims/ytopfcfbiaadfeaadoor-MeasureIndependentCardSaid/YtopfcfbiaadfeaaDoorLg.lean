/- Powers of two with any sign, and between which of them a number lies. No program in sight. -/
import Derived.Test.YtopfcfbiaadfeaaDoorId
namespace Go.Proofs.YtopfcfbiaadfeaaDoor
set_option linter.unusedSimpArgs false
set_option linter.unusedVariables false
set_option linter.unusedSectionVars false
open Go.RowKit Dg

def p2 (n : Int) : Rat := (2 : Rat) ^ n
theorem p2_pos (n : Int) : 0 < p2 n := Rat.zpow_pos (by decide)
theorem p2_add (m n : Int) : p2 (m + n) = p2 m * p2 n := Rat.zpow_add (by decide) m n
theorem p2_neg (n : Int) : p2 (-n) = (p2 n)⁻¹ := Rat.zpow_neg 2 n
theorem p2_zero : p2 0 = 1 := Rat.zpow_zero 2
theorem p2_one : p2 1 = 2 := Rat.zpow_one 2
theorem p2_nat (n : Nat) : p2 (n : Int) = ((2 ^ n : Nat) : Rat) := by
  unfold p2
  rw [Rat.zpow_natCast, Rat.natCast_pow]
  rfl
theorem p2_lt {m n : Int} (h : m < n) : p2 m < p2 n := by
  obtain ⟨d, hd⟩ : ∃ d : Nat, n = m + ((d + 1 : Nat) : Int) := ⟨(n - m - 1).toNat, by omega⟩
  rw [hd, p2_add, p2_nat]
  have h1 : (1 : Rat) < ((2 ^ (d + 1) : Nat) : Rat) := by
    have : (1 : Rat) = ((1 : Nat) : Rat) := rfl
    rw [this, Rat.natCast_lt_natCast]
    exact Nat.one_lt_two_pow (by omega)
  have := Rat.mul_lt_mul_of_pos_left h1 (p2_pos m)
  rwa [Rat.mul_one] at this
theorem p2_lt_iff {m n : Int} : p2 m < p2 n ↔ m < n := by
  constructor
  · intro h
    rcases Int.lt_trichotomy m n with h1 | h1 | h1
    · exact h1
    · subst h1; exact absurd h Rat.lt_irrefl
    · have := p2_lt h1
      exact absurd (show p2 m < p2 m by grind) Rat.lt_irrefl
  · exact p2_lt
theorem p2_le_iff {m n : Int} : p2 m ≤ p2 n ↔ m ≤ n := by
  rw [← Rat.not_lt, p2_lt_iff]; omega
theorem p2_inj {m n : Int} (h : p2 m = p2 n) : m = n := by
  have h1 := (p2_le_iff (m := m) (n := n)).1 (by rw [h]; exact Rat.le_refl)
  have h2 := (p2_le_iff (m := n) (n := m)).1 (by rw [h]; exact Rat.le_refl)
  omega
theorem p2_mul (n : Int) (k : Nat) : p2 (n * k) = p2 n ^ k := by
  induction k with
  | zero => simp [p2_zero]
  | succ k ih =>
    rw [Rat.pow_succ, ← ih, ← p2_add]
    congr 1
    grind
/-- The logarithm, rounded down. -/
def IsLog (y : Rat) (n : Int) : Prop := p2 n ≤ y ∧ y < p2 (n + 1)
theorem IsLog.eq {y : Rat} {m n : Int} (h : IsLog y m) (h' : IsLog y n) : m = n := by
  have h1 : p2 m < p2 (n + 1) := by have := h.1; have := h'.2; grind
  have h2 : p2 n < p2 (m + 1) := by have := h'.1; have := h.2; grind
  have := p2_lt_iff.1 h1
  have := p2_lt_iff.1 h2
  omega
theorem rat_quo (a b : Nat) : rat false a b = (a : Rat) / (b : Rat) := by
  unfold rat
  simp only [Bool.false_eq_true, if_false]
  rw [Rat.mkRat_eq_div]
  rfl
theorem cmp_quo {a b c d : Nat} (hb : 0 < b) (hd : 0 < d) : (rat false a b < rat false c d ↔ a * d < c * b) ∧ (rat false a b = rat false c d ↔ a * d = c * b) := by
  constructor
  · rw [rat_quo, rat_quo]
    have hb9 : (0 : Rat) < (b : Rat) := Rat.natCast_pos.2 hb
    have hd9 : (0 : Rat) < (d : Rat) := Rat.natCast_pos.2 hd
    rw [Rat.div_lt_iff hb9]
    have e : ∀ p q r : Rat, p / q * r = p * r / q := by intro p q r; rw [Rat.div_def, Rat.div_def, Rat.mul_assoc, Rat.mul_comm q⁻¹, ← Rat.mul_assoc]
    rw [e, Rat.lt_div_iff hd9, ← Rat.natCast_mul, ← Rat.natCast_mul, Rat.natCast_lt_natCast]
  · unfold rat
    simp only [Bool.false_eq_true, if_false]
    rw [Rat.mkRat_eq_iff (by omega) (by omega)]
    omega
theorem p2_quo (j : Nat) : p2 (j : Int) = rat false (2 ^ j) 1 ∧ p2 (-(j : Int)) = rat false 1 (2 ^ j) := by
  constructor
  · rw [p2_nat, rat_quo, Rat.div_def]
    have e : ((1 : Nat) : Rat)⁻¹ = 1 := Rat.inv_eq_of_mul_eq_one (by show (1 : Rat) * 1 = 1; rw [Rat.mul_one])
    rw [e, Rat.mul_one]
  · rw [p2_neg, p2_nat, rat_quo, Rat.div_def]
    show _ = (1 : Rat) * _
    rw [Rat.one_mul]
/-- What times compares. -/
theorem times_pos {P Q : Nat} (hQ : 0 < Q) (j : Nat) : (p2 (j : Int) < rat false P Q ↔ Q * 2 ^ j < P) ∧ (p2 (j : Int) = rat false P Q ↔ Q * 2 ^ j = P) := by
  rw [(p2_quo j).1]
  have h := cmp_quo (a := 2 ^ j) (b := 1) (c := P) (d := Q) (by omega) hQ
  rw [Nat.mul_one, Nat.mul_comm] at h
  exact h
theorem times_neg {P Q : Nat} (hQ : 0 < Q) (j : Nat) : (p2 (-(j : Int)) < rat false P Q ↔ Q < P * 2 ^ j) ∧ (p2 (-(j : Int)) = rat false P Q ↔ Q = P * 2 ^ j) := by
  rw [(p2_quo j).2]
  have h := cmp_quo (a := 1) (b := 2 ^ j) (c := P) (d := Q) (Nat.pow_pos (by decide)) hQ
  rw [Nat.one_mul] at h
  exact h
/-- The guess by the numbers of binary digits. -/
theorem log_guess {P Q : Nat} (hP : 0 < P) (hQ : 0 < Q) : p2 ((blen P : Int) - blen Q - 1) < rat false P Q ∧ rat false P Q < p2 ((blen P : Int) - blen Q + 1) := by
  have p1 := blen_lt P
  have p3 := blen_ge hP
  have q1 := blen_lt Q
  have q3 := blen_ge hQ
  have hp := blen_pos hP
  have hq := blen_pos hQ
  obtain ⟨p, hp⟩ : ∃ p, blen P = p + 1 := ⟨blen P - 1, by omega⟩
  obtain ⟨q, hq⟩ : ∃ q, blen Q = q + 1 := ⟨blen Q - 1, by omega⟩
  rw [hp] at p1 p3 ⊢
  rw [hq] at q1 q3 ⊢
  simp only [Nat.add_sub_cancel] at p3 q3
  have e : ∀ n : Int, p2 n * (Q : Rat) < (P : Rat) ↔ p2 n < rat false P Q := by
    intro n
    rw [rat_quo, Rat.lt_div_iff (Rat.natCast_pos.2 hQ)]
  have e2 : ∀ n : Int, (P : Rat) < p2 n * (Q : Rat) ↔ rat false P Q < p2 n := by
    intro n
    rw [rat_quo, Rat.div_lt_iff (Rat.natCast_pos.2 hQ)]
  have c1 : (Q : Rat) < p2 ((q + 1 : Nat) : Int) := by rw [p2_nat, Rat.natCast_lt_natCast]; exact q1
  have c2 : p2 (q : Int) ≤ (Q : Rat) := by rw [p2_nat, Rat.natCast_le_natCast]; exact q3
  have c3 : (P : Rat) < p2 ((p + 1 : Nat) : Int) := by rw [p2_nat, Rat.natCast_lt_natCast]; exact p1
  have c4 : p2 (p : Int) ≤ (P : Rat) := by rw [p2_nat, Rat.natCast_le_natCast]; exact p3
  constructor
  · rw [← e]
    have h1 := Rat.mul_lt_mul_of_pos_left c1 (p2_pos (((p + 1 : Nat) : Int) - ((q + 1 : Nat) : Int) - 1))
    rw [← p2_add] at h1
    have e3 : ((p + 1 : Nat) : Int) - ((q + 1 : Nat) : Int) - 1 + ((q + 1 : Nat) : Int) = (p : Int) := by omega
    rw [e3] at h1
    grind
  · rw [← e2]
    have h1 := Rat.mul_le_mul_of_nonneg_left c2 (Rat.le_of_lt (p2_pos (((p + 1 : Nat) : Int) - ((q + 1 : Nat) : Int) + 1)))
    rw [← p2_add] at h1
    have e3 : ((p + 1 : Nat) : Int) - ((q + 1 : Nat) : Int) + 1 + (q : Int) = ((p + 1 : Nat) : Int) := by omega
    rw [e3] at h1
    grind
theorem log_up {P Q : Nat} (hP : 0 < P) (hQ : 0 < Q) (h : p2 ((blen P : Int) - blen Q) ≤ rat false P Q) : IsLog (rat false P Q) ((blen P : Int) - blen Q) := ⟨h, (log_guess hP hQ).2⟩
theorem log_down {P Q : Nat} (hP : 0 < P) (hQ : 0 < Q) (h : rat false P Q < p2 ((blen P : Int) - blen Q)) : IsLog (rat false P Q) ((blen P : Int) - blen Q - 1) := by
  refine ⟨Rat.le_of_lt (log_guess hP hQ).1, ?_⟩
  have : (blen P : Int) - blen Q - 1 + 1 = (blen P : Int) - blen Q := by omega
  rwa [this]
/-- Consequences. -/
theorem log_mul {X Y : Rat} {a b c : Int} (hX : IsLog X a) (hY : IsLog Y b) (hc : IsLog (X * Y) c) : c = a + b ∨ c = a + b + 1 := by
  have x0 : 0 < X := by have := hX.1; have := p2_pos a; grind
  have y0 : 0 < Y := by have := hY.1; have := p2_pos b; grind
  have h1 : p2 (a + b) ≤ X * Y := by
    rw [p2_add]
    have g1 := Rat.mul_le_mul_of_nonneg_right hX.1 (Rat.le_of_lt (p2_pos b))
    have g2 := Rat.mul_le_mul_of_nonneg_left hY.1 (Rat.le_of_lt x0)
    grind
  have h2 : X * Y < p2 (a + 1 + (b + 1)) := by
    rw [p2_add]
    have g1 := Rat.mul_lt_mul_of_pos_right hX.2 y0
    have g2 := Rat.mul_lt_mul_of_pos_left hY.2 (p2_pos (a + 1))
    grind
  have k1 : p2 (a + b) < p2 (c + 1) := by have := hc.2; grind
  have k2 : p2 c < p2 (a + 1 + (b + 1)) := by have := hc.1; grind
  have := p2_lt_iff.1 k1
  have := p2_lt_iff.1 k2
  omega
theorem log_inv_exact {X : Rat} {a b : Int} (h : p2 a = X) (hb : IsLog X⁻¹ b) : b = -a ∧ p2 b = X⁻¹ := by
  have e : p2 (-a) = X⁻¹ := by rw [p2_neg, h]
  have : b = -a := hb.eq ⟨by rw [e]; exact Rat.le_refl, by rw [← e]; exact p2_lt (by omega)⟩
  exact ⟨this, by rw [this, e]⟩
theorem inv_lt {x y : Rat} (hx : 0 < x) (h : x < y) : y⁻¹ < x⁻¹ := by
  have hy : 0 < y := by grind
  have h1 : x * (x⁻¹ * y⁻¹) < y * (x⁻¹ * y⁻¹) := Rat.mul_lt_mul_of_pos_right h (Rat.mul_pos (Rat.inv_pos.2 hx) (Rat.inv_pos.2 hy))
  have e1 : x * (x⁻¹ * y⁻¹) = y⁻¹ := by rw [← Rat.mul_assoc, Rat.mul_inv_cancel x (by grind), Rat.one_mul]
  have e2 : y * (x⁻¹ * y⁻¹) = x⁻¹ := by rw [Rat.mul_comm x⁻¹, ← Rat.mul_assoc, Rat.mul_inv_cancel y (by grind), Rat.one_mul]
  rwa [e1, e2] at h1
theorem log_inv {X : Rat} {a b : Int} (h : IsLog X a) (hn : p2 a ≠ X) (hb : IsLog X⁻¹ b) : b = -a - 1 ∧ p2 b ≠ X⁻¹ := by
  have h1 : p2 a < X := Rat.lt_of_le_of_ne h.1 hn
  have x0 : 0 < X := by have := p2_pos a; grind
  have g1 := inv_lt (p2_pos a) h1
  have g2 := inv_lt x0 h.2
  rw [← p2_neg] at g1 g2
  have e : -(a + 1) = -a - 1 := by omega
  rw [e] at g2
  have hb2 : b = -a - 1 := hb.eq ⟨Rat.le_of_lt g2, by have e3 : -a - 1 + 1 = -a := by omega
                                                      rw [e3]; exact g1⟩
  refine ⟨hb2, ?_⟩
  rw [hb2]
  exact Rat.ne_of_lt g2
theorem pow_lt {x y : Rat} (h0 : 0 ≤ x) (h : x < y) : ∀ k : Nat, 0 < k → x ^ k < y ^ k := by
  intro k
  induction k with
  | zero => intro h; omega
  | succ k ih =>
    intro _
    rw [Rat.pow_succ, Rat.pow_succ]
    rcases Nat.eq_zero_or_pos k with rfl | hk
    · simp; exact h
    · have h1 := ih hk
      have y0 : 0 < y := by grind
      have hx : 0 ≤ x ^ k := Rat.pow_nonneg h0
      have g1 := Rat.mul_le_mul_of_nonneg_left (Rat.le_of_lt h) hx
      have g2 := Rat.mul_lt_mul_of_pos_right h1 y0
      grind
theorem pow_le {x y : Rat} (h0 : 0 ≤ x) (h : x ≤ y) (k : Nat) : x ^ k ≤ y ^ k := by
  rcases Nat.eq_zero_or_pos k with rfl | hk
  · simp
  · rcases Rat.le_iff_lt_or_eq.1 h with h1 | h1
    · exact Rat.le_of_lt (pow_lt h0 h1 k hk)
    · rw [h1]; exact Rat.le_refl
/-- The logarithm of a power. -/
theorem log_pow {X : Rat} {a b : Int} {K : Nat} (hK : 0 < K) (ha : IsLog X a) (hb : IsLog (X ^ K) b) : a * K ≤ b ∧ b < (a + 1) * K := by
  have x0 : 0 ≤ X := by have := ha.1; have := p2_pos a; grind
  have h1 := pow_le (Rat.le_of_lt (p2_pos a)) ha.1 K
  have h2 := pow_lt x0 ha.2 K hK
  rw [← p2_mul] at h1 h2
  have k1 : p2 (a * K) < p2 (b + 1) := by have := hb.2; grind
  have k2 : p2 b < p2 ((a + 1) * K) := by have := hb.1; grind
  have := p2_lt_iff.1 k1
  have := p2_lt_iff.1 k2
  omega
theorem log_pow_exact {X : Rat} {a b : Int} {K : Nat} (h : p2 a = X) (hb : IsLog (X ^ K) b) : b = a * K ∧ p2 b = X ^ K := by
  have e : p2 (a * K) = X ^ K := by rw [p2_mul, h]
  have : b = a * K := hb.eq ⟨by rw [e]; exact Rat.le_refl, by rw [← e]; exact p2_lt (by omega)⟩
  exact ⟨this, by rw [this, e]⟩
end Go.Proofs.YtopfcfbiaadfeaaDoor
