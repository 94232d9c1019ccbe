/- The program's Floor of a ratio. -/
import Derived.Test.YtofijnhkoadfjaaIh
namespace Go.Proofs.Ytofijnhkoadfjaa
set_option linter.unusedSimpArgs false
set_option linter.unusedVariables false
set_option linter.unusedSectionVars false
open Go.RowKit Dg

theorem rat_int (neg : Bool) (a : Nat) : rat neg a 1 = ((if neg then -(a : Int) else a : Int) : Rat) := by
  unfold rat
  rw [Rat.mkRat_one]
theorem floor_parts (x : Rat) : (decide (x.num < 0) = true ∧ 0 < x.num.natAbs % x.den → ((x.floor : Int) : Rat) = rat (decide (x.num < 0)) (x.num.natAbs / x.den + 1) 1) ∧
    (¬ (decide (x.num < 0) = true ∧ 0 < x.num.natAbs % x.den) → ((x.floor : Int) : Rat) = rat (decide (x.num < 0)) (x.num.natAbs / x.den) 1) := by
  have hd : 0 < x.den := Nat.pos_of_ne_zero x.den_nz
  rw [Rat.floor_def, rat_int, rat_int]
  generalize x.den = d at *
  generalize x.num = n at *
  have hdI : (0 : Int) < (d : Int) := by omega
  have h1 := Nat.div_add_mod n.natAbs d
  have h2 := Nat.mod_lt n.natAbs hd
  generalize n.natAbs / d = q at *
  generalize n.natAbs % d = r at *
  have hI : (d : Int) * (q : Int) + (r : Int) = (n.natAbs : Int) := by exact_mod_cast h1
  by_cases hn : n < 0
  · have e : n = -(n.natAbs : Int) := by omega
    constructor
    · rintro ⟨-, hr⟩
      rw [decide_eq_true hn, if_pos rfl]
      congr 1
      refine (Int.ediv_eq_iff_of_pos hdI).2 ⟨?_, ?_⟩
      all_goals (try simp only [Int.neg_mul, Int.add_mul, Int.mul_add, Int.natCast_add, Int.mul_neg, Int.one_mul, Int.mul_one, Int.natCast_one]); (try rw [Int.mul_comm (q : Int) (d : Int)]); omega
    · intro h
      have hr : r = 0 := by
        rcases Nat.eq_zero_or_pos r with h0 | h0
        · exact h0
        · exact absurd ⟨decide_eq_true hn, h0⟩ h
      rw [decide_eq_true hn, if_pos rfl]
      congr 1
      refine (Int.ediv_eq_iff_of_pos hdI).2 ⟨?_, ?_⟩
      all_goals (try simp only [Int.neg_mul, Int.add_mul, Int.mul_add, Int.natCast_add, Int.mul_neg, Int.one_mul, Int.mul_one, Int.natCast_one]); (try rw [Int.mul_comm (q : Int) (d : Int)]); omega
  · have e : n = (n.natAbs : Int) := by omega
    rw [decide_eq_false hn]
    constructor
    · rintro ⟨h, -⟩; cases h
    · intro _
      rw [if_neg (by simp)]
      congr 1
      refine (Int.ediv_eq_iff_of_pos hdI).2 ⟨?_, ?_⟩
      all_goals (try simp only [Int.neg_mul, Int.add_mul, Int.mul_add, Int.natCast_add, Int.mul_neg, Int.one_mul, Int.mul_one, Int.natCast_one]); (try rw [Int.mul_comm (q : Int) (d : Int)]); omega
theorem floor_yes {x : Rat} (hx : OkR x) (w : World) : Calls Try.prog 29 #[RV x] w fun e w' => RatRes ((x.floor : Int) : Rat) e ∧ Below w.heap.size w w' :=
  floor_core _ _ _ x.num.natAbs x.den _ (fun g w ho => read1_yes hx g w ho) (floor_parts x) (den_pos x) hx.1.dw hx.2.dw w
theorem floor_no {n : Bool} {s t : ByteArray} (hs : s.size ≤ maxLen) (ht : t.size ≤ maxLen) (h : ¬ IsR n s t) (w : World) : Calls Try.prog 29 #[.agg #[.bool n, .string s, .string t]] w fun e w' => e = .returned (.tuple #[Rat0, .int .i64 1]) ∧ Below w.heap.size w w' :=
  floor_bad _ _ _ (fun g w ho => read1_no _ _ _ hs ht h g w ho) w
end Go.Proofs.Ytofijnhkoadfjaa
