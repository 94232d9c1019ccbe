/- Parts of the proof: Sc. No condition of its own. -/
import Derived.Test.YtocknfhgjmaibaaGreatDoorEq
set_option linter.unusedSimpArgs false
set_option linter.unusedVariables false
set_option linter.unusedSectionVars false
namespace Go.Proofs.YtocknfhgjmaibaaGreatDoor
open Go.RowKit Dg

theorem few_add' {j k : Nat} {x y : Rat} (hx : Few j x) (hy : Few k y) : Few (j + k + 1) (x + y) := by
  have few_lt : ∀ {n k : Nat}, (dec n).length ≤ k → n < 10 ^ k := fun h => Nat.lt_of_lt_of_le (dec_lt _) (Nat.pow_le_pow_right (by decide) h); have e : x + y = mkRat (x.num * y.den + y.num * x.den) (x.den * y.den) := Rat.add_def' x y; have e2 : mkRat (x.num * y.den + y.num * x.den) (x.den * y.den) = rat (decide (x.num * y.den + y.num * x.den < 0)) (x.num * y.den + y.num * x.den).natAbs (x.den * y.den) := by
    unfold rat
    congr 1
    by_cases h : x.num * y.den + y.num * x.den < 0
    · rw [if_pos (by simpa using h)]; omega
    · rw [if_neg (by simpa using h)]; omega
  have hn : (x.num * y.den + y.num * x.den).natAbs ≤ x.num.natAbs * y.den + y.num.natAbs * x.den := by
    have h1 := Int.natAbs_add_le (x.num * y.den) (y.num * x.den); rw [Int.natAbs_mul, Int.natAbs_mul, Int.natAbs_natCast, Int.natAbs_natCast] at h1; exact h1
  rw [e, e2]; generalize (x.num * y.den + y.num * x.den).natAbs = n at hn ⊢; have hd : 0 < x.den * y.den := Nat.mul_pos (den_pos x) (den_pos y); have h1 := few_lt hx.1; have h2 := few_lt hx.2; have h3 := few_lt hy.1; have h4 := few_lt hy.2; have p1 : x.num.natAbs * y.den < 10 ^ (j + k) := by rw [Nat.pow_add]; exact Nat.mul_lt_mul'' h1 h4
  have p2 : y.num.natAbs * x.den < 10 ^ (j + k) := by rw [Nat.add_comm, Nat.pow_add]; exact Nat.mul_lt_mul'' h3 h2
  have p3 : x.den * y.den < 10 ^ (j + k) := by rw [Nat.pow_add]; exact Nat.mul_lt_mul'' h2 h4
  refine few_rat hd (dec_len_le (by omega) ?_) (dec_len_le (by omega) ?_)
  · rw [Nat.pow_succ]; omega
  · rw [Nat.pow_succ]; omega
theorem eadd_yes {x1 y1 x2 y2 : Rat} {j : Nat} (h1 : Few j x1) (h2 : Few j y1) (h3 : Few j x2) (h4 : Few j y2) (hj : j ≤ 9000) (h5 : x1 ≤ y1) (h6 : x2 ≤ y2) : RetV 49 #[IV x1 y1, IV x2 y2] (.tuple #[IV (x1 + x2) (y1 + y2), .int .i64 0]) := by
  have k1 := h1.ok (show j ≤ 20000 by omega); have k2 := h2.ok (show j ≤ 20000 by omega); have k3 := h3.ok (show j ≤ 20000 by omega); have k4 := h4.ok (show j ≤ 20000 by omega); have v1 := evalid_yes k1 k2; have v2 := evalid_yes k3 k4; rw [decide_eq_true h5] at v1; rw [decide_eq_true h6] at v2; exact eadd_core _ _ _ _ _ _ _ _ _ _ _ _ _ _ _ _ _ _ v1 v2 (fun w => (radd_yes k1 k3 w).mono fun e w' ⟨g, hb⟩ => ⟨g.ok ((few_add' h1 h3).ok (by omega)), hb⟩) (fun w => (radd_yes k2 k4 w).mono fun e w' ⟨g, hb⟩ => ⟨g.ok ((few_add' h2 h4).ok (by omega)), hb⟩)
def scLo (x y s : Rat) : Rat := if s < 0 then y * s else x * s
def scHi (x y s : Rat) : Rat := if s < 0 then x * s else y * s
theorem neg_is (s : Rat) : decide (s.num < 0) = decide (s < 0) := by
  rw [decide_eq_decide, ← Rat.not_le, ← Rat.num_nonneg]; omega
theorem escale_yes {x y s : Rat} {j : Nat} (h1 : Few j x) (h2 : Few j y) (h3 : Few j s) (hj0 : 0 < j) (hj : j ≤ 9000) (h5 : x ≤ y) : RetV 48 #[IV x y, RV s] (.tuple #[IV (scLo x y s) (scHi x y s), .int .i64 0]) := by
  have k1 := h1.ok (show j ≤ 20000 by omega); have k2 := h2.ok (show j ≤ 20000 by omega); have k3 := h3.ok (show j ≤ 20000 by omega); have v1 := evalid_yes k1 k2; rw [decide_eq_true h5] at v1; have m1 : RetV 72 #[RV x, RV s] (.tuple #[RV (x * s), .int .i64 0]) := fun w => (rmul_yes k1 k3 w).mono fun e w' ⟨g, hb⟩ => ⟨g.ok ((few_mul' (by omega) h1 h3).ok (by omega)), hb⟩; have m2 : RetV 72 #[RV y, RV s] (.tuple #[RV (y * s), .int .i64 0]) := fun w => (rmul_yes k2 k3 w).mono fun e w' ⟨g, hb⟩ => ⟨g.ok ((few_mul' (by omega) h2 h3).ok (by omega)), hb⟩; have i1 : RetV 71 #[RV s] (.bool true) := fun w => isratio_yes w k3; unfold scLo scHi
  by_cases hs : s < 0
  · rw [if_pos hs, if_pos hs]; have e : RV s = .agg #[.bool true, .string (S s.num.natAbs), .string (S s.den)] := by
      show RatV _ _ _ = _
      rw [neg_is, decide_eq_true hs]
    rw [e] at m1 m2 i1 ⊢; exact escale_neg _ _ _ _ _ _ _ _ _ _ _ _ _ _ v1 i1 m2 m1
  · rw [if_neg hs, if_neg hs]; have e : RV s = .agg #[.bool false, .string (S s.num.natAbs), .string (S s.den)] := by
      show RatV _ _ _ = _
      rw [neg_is, decide_eq_false hs]
    rw [e] at m1 m2 i1 ⊢; exact escale_pos _ _ _ _ _ _ _ _ _ _ _ _ _ _ v1 i1 m1 m2
theorem few_sc {x y s : Rat} {j k : Nat} (h0 : 0 < j + k) (h1 : Few j x) (h2 : Few j y) (h3 : Few k s) : Few (j + k) (scLo x y s) ∧ Few (j + k) (scHi x y s) := by
  unfold scLo scHi
  constructor
  · split
    · exact few_mul' h0 h2 h3
    · exact few_mul' h0 h1 h3
  · split
    · exact few_mul' h0 h1 h3
    · exact few_mul' h0 h2 h3

end Go.Proofs.YtocknfhgjmaibaaGreatDoor
