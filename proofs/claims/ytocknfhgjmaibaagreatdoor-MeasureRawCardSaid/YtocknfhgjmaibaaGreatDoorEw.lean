/- Parts of the proof: Ew. No condition of its own. -/
import Derived.Test.YtocknfhgjmaibaaGreatDoorRx
import Derived.Test.YtocknfhgjmaibaaGreatDoorSc
set_option linter.unusedSimpArgs false
set_option linter.unusedVariables false
set_option linter.unusedSectionVars false
namespace Go.Proofs.YtocknfhgjmaibaaGreatDoor
open Go.RowKit Dg

theorem raddr_yes {x y : Rat} (hx : OkR x) (hy : OkR y) (hz : OkR (x + y)) : RetV 64 #[RV x, RV y] (.tuple #[RV (x + y), .int .i64 0]) := fun w =>
  (addr_core _ _ _ _ _ _ x.num.natAbs x.den y.num.natAbs y.den (x + y) (by rw [rat_self, rat_self]) (fun w => isratior_yes w hx) (fun w => isratior_yes w hy) (fun w => big_S _ w hx.1) (fun w => big_S _ w hx.2) (fun w => big_S _ w hy.1) (fun w => big_S _ w hy.2) (den_pos x) (den_pos y) hx.1.dk hx.2.dk hy.1.dk hy.2.dk w).mono fun e w' ⟨g, hb⟩ => ⟨g.ok hz, hb⟩
theorem rmulr_yes {x y : Rat} (hx : OkR x) (hy : OkR y) (hz : OkR (x * y)) : RetV 41 #[RV x, RV y] (.tuple #[RV (x * y), .int .i64 0]) := fun w =>
  (mulr_core _ _ _ _ _ _ x.num.natAbs x.den y.num.natAbs y.den (x * y) (by rw [rat_mul, rat_self, rat_self]) (fun w => isratior_yes w hx) (fun w => isratior_yes w hy) (fun w => big_S _ w hx.1) (fun w => big_S _ w hx.2) (fun w => big_S _ w hy.1) (fun w => big_S _ w hy.2) (den_pos x) (den_pos y) hx.1.dk hx.2.dk hy.1.dk hy.2.dk w).mono fun e w' ⟨g, hb⟩ => ⟨g.ok hz, hb⟩
theorem raddi_yes {x1 y1 x2 y2 : Rat} {j : Nat} (h1 : Few j x1) (h2 : Few j y1) (h3 : Few j x2) (h4 : Few j y2) (hj : j ≤ 9000) (h5 : x1 ≤ y1) (h6 : x2 ≤ y2) : RetV 52 #[IV x1 y1, IV x2 y2] (.tuple #[IV (x1 + x2) (y1 + y2), .int .i64 0]) := by
  have k1 := h1.ok (show j ≤ 20000 by omega); have k2 := h2.ok (show j ≤ 20000 by omega); have k3 := h3.ok (show j ≤ 20000 by omega); have k4 := h4.ok (show j ≤ 20000 by omega); have v1 := rvalid_yes k1 k2; have v2 := rvalid_yes k3 k4; rw [decide_eq_true h5] at v1; rw [decide_eq_true h6] at v2; exact raddi_core _ _ _ _ _ _ _ _ _ _ _ _ _ _ _ _ _ _ v1 v2 (raddr_yes k1 k3 ((few_add' h1 h3).ok (by omega))) (raddr_yes k2 k4 ((few_add' h2 h4).ok (by omega)))
theorem rscale_yes {x y s : Rat} {j : Nat} (h1 : Few j x) (h2 : Few j y) (h3 : Few j s) (hj0 : 0 < j) (hj : j ≤ 9000) (h5 : x ≤ y) : RetV 51 #[IV x y, RV s] (.tuple #[IV (scLo x y s) (scHi x y s), .int .i64 0]) := by
  have k1 := h1.ok (show j ≤ 20000 by omega); have k2 := h2.ok (show j ≤ 20000 by omega); have k3 := h3.ok (show j ≤ 20000 by omega); have v1 := rvalid_yes k1 k2; rw [decide_eq_true h5] at v1; have m1 := rmulr_yes k1 k3 ((few_mul' (by omega) h1 h3).ok (by omega)); have m2 := rmulr_yes k2 k3 ((few_mul' (by omega) h2 h3).ok (by omega)); have i1 : RetV 57 #[RV s] (.bool true) := fun w => isratior_yes w k3; unfold scLo scHi
  by_cases hs : s < 0
  · rw [if_pos hs, if_pos hs]; have e : RV s = .agg #[.bool true, .string (S s.num.natAbs), .string (S s.den)] := by
      show RatV _ _ _ = _
      rw [neg_is, decide_eq_true hs]
    rw [e] at m1 m2 i1 ⊢; exact rscale_neg _ _ _ _ _ _ _ _ _ _ _ _ _ _ v1 i1 m1 m2
  · rw [if_neg hs, if_neg hs]; have e : RV s = .agg #[.bool false, .string (S s.num.natAbs), .string (S s.den)] := by
      show RatV _ _ _ = _
      rw [neg_is, decide_eq_false hs]
    rw [e] at m1 m2 i1 ⊢; exact rscale_pos _ _ _ _ _ _ _ _ _ _ _ _ _ _ v1 i1 m1 m2
end Go.Proofs.YtocknfhgjmaibaaGreatDoor
