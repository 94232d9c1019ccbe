/- The reference's Add, Mul, Quo, Compare. -/
import Derived.Test.YtofijnhkoadfjaaDoorJa
import Derived.Test.YtofijnhkoadfjaaDoorIf
namespace Go.Proofs.YtofijnhkoadfjaaDoor
set_option linter.unusedSimpArgs false
set_option linter.unusedVariables false
set_option linter.unusedSectionVars false
open Go.RowKit Dg

def BigOf (s : ByteArray) (n : Nat) : Prop := ∀ w, Calls Tryd.prog 45 #[.string s] w fun e w' => ∃ v, e = .returned v ∧ BigV w' v n ∧ Below w.heap.size w w'
theorem dk_add (m n : Nat) : (dk (m + n)).length ≤ max (dk m).length (dk n).length + 1 := dg_add_len b10k m n
theorem dk_mul (m n : Nat) : (dk (m * n)).length ≤ (dk m).length + (dk n).length := dg_mul_len b10k m n
theorem dk_len_pos {n : Nat} (h : 0 < n) : 0 < (dk n).length := List.length_pos_iff.2 fun e => by have := (dg_nil b10k).1 e; omega
theorem cmpR_sgn (x y : Rat) (a b c d : Nat) (n1 n2 : Bool) (hx : x = rat n1 a b) (hy : y = rat n2 c d) (hb : 0 < b) (hd : 0 < d) (h1 : ¬ (n1 = true ∧ a = 0)) (h2 : ¬ (n2 = true ∧ c = 0)) :
    (n1 = true → n2 = false → cmpR x y = -1) ∧ (n1 = false → n2 = true → cmpR x y = 1) ∧ (n1 = false → n2 = false → cmpR x y = cmpI (a * d) (c * b)) ∧ (n1 = true → n2 = true → cmpR x y = -cmpI (a * d) (c * b)) := by
  have key : ∀ m n : Bool, x = rat m a b → y = rat n c d → (x < y ↔ (if m then -(a : Int) else a) * d < (if n then -(c : Int) else c) * b) ∧ (x = y ↔ (if m then -(a : Int) else a) * d = (if n then -(c : Int) else c) * b) := by
    intro m n hx hy
    have hb' : (0 : Int) < b := by omega
    have hd' : (0 : Int) < d := by omega
    constructor
    · rw [hx, hy]
      unfold rat
      rw [Rat.mkRat_eq_div, Rat.mkRat_eq_div]
      have hb9 : (0 : Rat) < (b : Rat) := Rat.natCast_pos.2 hb
      have hd9 : (0 : Rat) < (d : Rat) := Rat.natCast_pos.2 hd
      rw [Rat.div_lt_iff hb9]
      have e : ∀ p q r : Rat, p / q * r = p * r / q := by intro p q r; rw [Rat.div_def, Rat.div_def, Rat.mul_assoc, Rat.mul_comm q⁻¹, ← Rat.mul_assoc]
      rw [e, Rat.lt_div_iff hd9]
      generalize (if m then -(a : Int) else (a : Int)) = p
      generalize (if n then -(c : Int) else (c : Int)) = q
      have e1 : (p : Rat) * (d : Rat) = ((p * d : Int) : Rat) := by rw [Rat.intCast_mul]; rfl
      have e2 : (q : Rat) * (b : Rat) = ((q * b : Int) : Rat) := by rw [Rat.intCast_mul]; rfl
      rw [e1, e2, Rat.intCast_lt_intCast]
    · rw [hx, hy]
      unfold rat
      rw [Rat.mkRat_eq_iff (by omega) (by omega)]
  have pa : (0 : Int) ≤ (a : Int) * d := Int.mul_nonneg (by omega) (by omega)
  have pc : (0 : Int) ≤ (c : Int) * b := Int.mul_nonneg (by omega) (by omega)
  have e1 : ((a * d : Nat) : Int) = (a : Int) * d := by simp
  have e2 : ((c * b : Nat) : Int) = (c : Int) * b := by simp
  refine ⟨fun g1 g2 => ?_, fun g1 g2 => ?_, fun g1 g2 => ?_, fun g1 g2 => ?_⟩
  · subst g1; subst g2
    obtain ⟨k1, k2⟩ := key true false hx hy
    have h0 : 0 < a := by rcases Nat.eq_zero_or_pos a with e | e; exact absurd ⟨rfl, e⟩ h1; exact e
    have h3 : 0 < a * d := Nat.mul_pos h0 hd
    simp only [if_true, Bool.false_eq_true, if_false, Int.neg_mul] at k1
    unfold cmpR
    rw [if_pos (k1.2 (by omega))]
  · subst g1; subst g2
    obtain ⟨k1, k2⟩ := key false true hx hy
    have h0 : 0 < c := by rcases Nat.eq_zero_or_pos c with e | e; exact absurd ⟨rfl, e⟩ h2; exact e
    have h3 : 0 < c * b := Nat.mul_pos h0 hb
    simp only [if_true, Bool.false_eq_true, if_false, Int.neg_mul] at k1 k2
    unfold cmpR
    rw [if_neg (fun h => by have := k1.1 h; omega), if_neg (fun h => by have := k2.1 h; omega)]
  · subst g1; subst g2
    obtain ⟨k1, k2⟩ := key false false hx hy
    simp only [Bool.false_eq_true, if_false] at k1 k2
    unfold cmpR cmpI
    have q1 : (x < y) ↔ a * d < c * b := by rw [k1]; omega
    have q2 : (x = y) ↔ a * d = c * b := by rw [k2]; omega
    simp only [q1, q2]
  · subst g1; subst g2
    obtain ⟨k1, k2⟩ := key true true hx hy
    simp only [if_true, Int.neg_mul] at k1 k2
    unfold cmpR cmpI
    have q1 : (x < y) ↔ c * b < a * d := by rw [k1]; omega
    have q2 : (x = y) ↔ a * d = c * b := by rw [k2]; omega
    simp only [q1, q2]
    rcases Nat.lt_trichotomy (a * d) (c * b) with h | h | h
    · rw [if_neg (by omega), if_neg (by omega), if_pos h]; try rfl
    · rw [if_neg (by omega), if_pos h, if_neg (by omega)]; try rfl
    · rw [if_pos h, if_neg (by omega), if_neg (by omega)]; try rfl
end Go.Proofs.YtofijnhkoadfjaaDoor
