/- Ratios as rational numbers: what a ratio's value reads as, and what lowest returns in these words. -/
import Derived.Test.YtopfcfbiaadfeaaDoorNv
namespace Go.Proofs.YtopfcfbiaadfeaaDoor
set_option linter.unusedSimpArgs false
set_option linter.unusedVariables false
set_option linter.unusedSectionVars false
open Go.RowKit Dg

/-- A rational number as a value. -/
abbrev RV (x : Rat) : Value := RatV (decide (x.num < 0)) x.num.natAbs x.den
/-- Its texts are not too long. -/
def OkR (x : Rat) : Prop := OkN x.num.natAbs ∧ OkN x.den
/-- A number with a sign over another one. -/
def rat (neg : Bool) (a b : Nat) : Rat := mkRat (if neg then -(a : Int) else a) b
/-- What a function returns whose result is a ratio. -/
def RatRes (x : Rat) (e : Ending) : Prop := (OkR x ∧ e = .returned (.tuple #[RV x, .int .i64 0])) ∨ (¬ OkR x ∧ e = .returned (.tuple #[Rat0, .int .i64 2]))
theorem RatRes.ok {x : Rat} {e : Ending} (h : RatRes x e) (hx : OkR x) : e = .returned (.tuple #[RV x, .int .i64 0]) := by
  rcases h with h | h
  · exact h.2
  · exact absurd hx h.1
theorem RatRes.eq {x : Rat} {e e' : Ending} (h : RatRes x e) (h' : RatRes x e') : e = e' := by
  rcases h with h | h
  · rw [h.2, h'.ok h.1]
  · rcases h' with h' | h'
    · exact absurd h'.1 h.1
    · rw [h.2, h'.2]
theorem natAbs_sgn (neg : Bool) (a : Nat) : (if neg then -(a : Int) else a).natAbs = a := by cases neg <;> simp
theorem rat_den (neg : Bool) {a b : Nat} (hb : 0 < b) : (rat neg a b).den = b / Nat.gcd a b := by
  unfold rat
  rw [Rat.den_mkRat, if_neg (by omega), natAbs_sgn, Nat.gcd_comm]
theorem rat_num (neg : Bool) {a b : Nat} (hb : 0 < b) : (rat neg a b).num = if neg then -((a / Nat.gcd a b : Nat) : Int) else ((a / Nat.gcd a b : Nat) : Int) := by
  unfold rat
  rw [Rat.num_mkRat, if_neg (by omega), natAbs_sgn, Nat.gcd_comm]
  cases neg with
  | false => simp
  | true =>
    simp only [if_true]
    rw [Int.neg_ediv_of_dvd (Int.natCast_dvd_natCast.2 (Nat.gcd_dvd_left a b))]
    simp
theorem rat_abs (neg : Bool) {a b : Nat} (hb : 0 < b) : (rat neg a b).num.natAbs = a / Nat.gcd a b := by
  rw [rat_num neg hb]
  exact natAbs_sgn _ _
theorem gcd_pos_right {a b : Nat} (hb : 0 < b) : 0 < Nat.gcd a b := Nat.gcd_pos_of_pos_right a hb
theorem rat_neg (neg : Bool) {a b : Nat} (hb : 0 < b) : decide ((rat neg a b).num < 0) = (neg && decide (0 < a)) := by
  rw [rat_num neg hb]
  have h : 0 < a / Nat.gcd a b ↔ 0 < a := by
    constructor
    · intro h
      rcases Nat.eq_zero_or_pos a with e | e
      · rw [e, Nat.zero_div] at h; omega
      · exact e
    · intro h
      exact Nat.div_pos (Nat.gcd_le_left b h) (gcd_pos_right hb)
  cases neg with
  | false =>
    have : ¬ ((a / Nat.gcd a b : Nat) : Int) < 0 := Int.not_lt.2 (Int.natCast_nonneg _)
    simp only [Bool.false_eq_true, if_false, this, decide_false, Bool.false_and]
  | true =>
    simp only [if_true, Bool.true_and]
    rw [decide_eq_decide]
    omega
theorem rat_RV (neg : Bool) {a b : Nat} (hb : 0 < b) : RV (rat neg a b) = RatV (neg && decide (0 < a)) (a / Nat.gcd a b) (b / Nat.gcd a b) := by
  show RatV _ _ _ = _
  rw [rat_neg neg hb, rat_abs neg hb, rat_den neg hb]
theorem LowRes.toRat {neg : Bool} {a b : Nat} {e : Ending} (hb : 0 < b) (h : LowRes neg a b e) : RatRes (rat neg a b) e := by
  have hok : OkR (rat neg a b) ↔ OkN (a / Nat.gcd a b) ∧ OkN (b / Nat.gcd a b) := by
    unfold OkR
    rw [rat_abs neg hb, rat_den neg hb]
  rcases h with ⟨h1, h2, rfl⟩ | ⟨h1, rfl⟩
  · exact .inl ⟨hok.2 ⟨h1, h2⟩, by rw [← rat_RV neg hb]⟩
  · exact .inr ⟨fun h => h1 (hok.1 h), rfl⟩
/-- Every rational number by its parts. -/
theorem rat_self (x : Rat) : rat (decide (x.num < 0)) x.num.natAbs x.den = x := by
  unfold rat
  have e : (if decide (x.num < 0) = true then -((x.num.natAbs : Nat) : Int) else (x.num.natAbs : Int)) = x.num := by
    by_cases h : x.num < 0
    · rw [if_pos (by simpa using h)]; omega
    · rw [if_neg (by simpa using h)]; omega
  rw [e]
  exact Rat.mkRat_self x
theorem rat_parts {neg : Bool} {m n : Nat} (hn : 0 < n) (h : ¬ (neg = true ∧ m = 0)) (hg : Nat.gcd m n = 1) : RV (rat neg m n) = RatV neg m n ∧ (OkR (rat neg m n) ↔ OkN m ∧ OkN n) := by
  refine ⟨?_, ?_⟩
  · rw [rat_RV neg hn, hg, Nat.div_one, Nat.div_one]
    cases neg with
    | false => simp
    | true =>
      have : 0 < m := by
        rcases Nat.eq_zero_or_pos m with e | e
        · exact absurd ⟨rfl, e⟩ h
        · exact e
      simp [this]
  · unfold OkR
    rw [rat_abs neg hn, rat_den neg hn, hg, Nat.div_one, Nat.div_one]
/-- A value that is a ratio. -/
def IsR (neg : Bool) (s t : ByteArray) : Prop := ∃ x : Rat, OkR x ∧ neg = decide (x.num < 0) ∧ s = S x.num.natAbs ∧ t = S x.den
theorem isR_RV {x : Rat} (h : OkR x) : IsR (decide (x.num < 0)) (S x.num.natAbs) (S x.den) := ⟨x, h, rfl, rfl, rfl⟩
theorem isR_iff {neg : Bool} {m n : Nat} (hm : OkN m) (hn : OkN n) : IsR neg (S m) (S n) ↔ (0 < n ∧ ¬ (neg = true ∧ m = 0) ∧ Nat.gcd m n = 1) := by
  constructor
  · rintro ⟨x, hx, h1, h2, h3⟩
    obtain rfl := S_inj h2
    obtain rfl := S_inj h3
    refine ⟨Nat.pos_of_ne_zero x.den_nz, ?_, x.reduced⟩
    rintro ⟨e1, e2⟩
    rw [h1] at e1
    have := of_decide_eq_true e1
    omega
  · rintro ⟨h1, h2, h3⟩
    obtain ⟨g1, g2⟩ := rat_parts h1 h2 h3
    refine ⟨rat neg m n, g2.2 ⟨hm, hn⟩, ?_⟩
    simp only [RV, RatV, Value.agg.injEq] at g1
    have e := congrArg Array.toList g1
    simp at e
    exact ⟨e.1.symm, e.2.1.symm, e.2.2.symm⟩
theorem isR_vld {neg : Bool} {s t : ByteArray} (h : IsR neg s t) : VLD s ∧ VLD t := by
  obtain ⟨x, hx, -, rfl, rfl⟩ := h
  exact ⟨hx.1.vld, hx.2.vld⟩
/-- Sums, differences and products by their parts. -/
theorem rat_add_same (neg : Bool) (a b c d : Nat) (hb : 0 < b) (hd : 0 < d) : rat neg (a * d + c * b) (b * d) = rat neg a b + rat neg c d := by
  unfold rat
  rw [Rat.mkRat_add_mkRat _ _ (by omega) (by omega)]
  cases neg <;> simp
  congr 1
  rw [Int.neg_add, Int.neg_mul, Int.neg_mul]
theorem rat_mul (n1 n2 : Bool) (a b c d : Nat) : rat (n1 != n2) (a * c) (b * d) = rat n1 a b * rat n2 c d := by
  unfold rat
  rw [Rat.mkRat_mul_mkRat]
  cases n1 <;> cases n2 <;> simp [Int.neg_mul, Int.mul_neg]
theorem rat_flip (neg : Bool) (a b : Nat) : rat (!neg) a b = - rat neg a b := by
  unfold rat
  rw [Rat.neg_mkRat]
  cases neg <;> simp
theorem rat_sub_ge (neg : Bool) (a b c d : Nat) (hb : 0 < b) (hd : 0 < d) (h : c * b ≤ a * d) : rat neg (a * d - c * b) (b * d) = rat neg a b + rat (!neg) c d := by
  unfold rat
  rw [Rat.mkRat_add_mkRat _ _ (by omega) (by omega)]
  congr 1
  have e : ((a * d - c * b : Nat) : Int) = (a : Int) * d - c * b := by rw [Int.natCast_sub h]; simp
  cases neg <;> simp [e] <;> grind
theorem rat_sub_lt (neg : Bool) (a b c d : Nat) (hb : 0 < b) (hd : 0 < d) (h : a * d ≤ c * b) : rat (!neg) (c * b - a * d) (b * d) = rat neg a b + rat (!neg) c d := by
  unfold rat
  rw [Rat.mkRat_add_mkRat _ _ (by omega) (by omega)]
  congr 1
  have e : ((c * b - a * d : Nat) : Int) = (c : Int) * b - a * d := by rw [Int.natCast_sub h]; simp
  cases neg <;> simp [e] <;> grind
end Go.Proofs.YtopfcfbiaadfeaaDoor
