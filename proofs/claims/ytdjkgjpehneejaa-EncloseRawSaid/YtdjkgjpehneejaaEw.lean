/- Both texts at arbitrary ratios and intervals return the same. -/
import Derived.Test.YtdjkgjpehneejaaRx
import Derived.Test.YtdjkgjpehneejaaSc
namespace Go.Proofs.Ytdjkgjpehneejaa
set_option linter.unusedSimpArgs false
set_option linter.unusedVariables false
set_option linter.unusedSectionVars false
open Go.RowKit Dg

theorem size_max {s : ByteArray} (h : s.size ≤ 12) : s.size ≤ maxLen := by unfold maxLen; omega
theorem isr2 (n : Bool) (s t : ByteArray) (hs : s.size ≤ 12) (ht : t.size ≤ 12) : ∃ b : Bool, RetV 42 #[.agg #[.bool n, .string s, .string t]] (.bool b) ∧ RetV 47 #[.agg #[.bool n, .string s, .string t]] (.bool b) ∧
    (b = true → ∃ x : Rat, Few 12 x ∧ n = decide (x.num < 0) ∧ s = S x.num.natAbs ∧ t = S x.den) := by
  by_cases h : IsR n s t
  · obtain ⟨x, hx, rfl, rfl, rfl⟩ := h
    rw [S_size] at hs ht
    exact ⟨true, fun w => isratio_yes w hx, fun w => isratior_yes w hx, fun _ => ⟨x, ⟨hs, ht⟩, rfl, rfl, rfl⟩⟩
  · exact ⟨false, fun w => isratio_no w (size_max hs) (size_max ht) h, fun w => isratior_no w (size_max hs) (size_max ht) h, fun e => by cases e⟩
theorem val2 (na : Bool) (sa ta : ByteArray) (nb : Bool) (sb tb : ByteArray) (h1 : sa.size ≤ 12) (h2 : ta.size ≤ 12) (h3 : sb.size ≤ 12) (h4 : tb.size ≤ 12) :
    ∃ v : Bool, RetV 26 #[.agg #[.bool na, .string sa, .string ta, .bool nb, .string sb, .string tb]] (.bool v) ∧ RetV 35 #[.agg #[.bool na, .string sa, .string ta, .bool nb, .string sb, .string tb]] (.bool v) ∧
    (v = true → ∃ x y : Rat, Few 12 x ∧ Few 12 y ∧ x ≤ y ∧ (na = decide (x.num < 0) ∧ sa = S x.num.natAbs ∧ ta = S x.den) ∧ (nb = decide (y.num < 0) ∧ sb = S y.num.natAbs ∧ tb = S y.den)) := by
  obtain ⟨b1, p1, r1, k1⟩ := isr2 na sa ta h1 h2
  obtain ⟨b2, p2, r2, k2⟩ := isr2 nb sb tb h3 h4
  by_cases hb : b1 = true ∧ b2 = true
  · obtain ⟨rfl, rfl⟩ := hb
    obtain ⟨x, fx, rfl, rfl, rfl⟩ := k1 rfl
    obtain ⟨y, fy, rfl, rfl, rfl⟩ := k2 rfl
    have ox := fx.ok (by decide)
    have oy := fy.ok (by decide)
    refine ⟨_, evalid_core _ _ _ _ _ _ true true (cmpR x y) p1 p2 (fun _ _ w => rcmp_yes ox oy w), rvalid_core _ _ _ _ _ _ true true (cmpR x y) r1 r2 (fun _ _ => rcmpr_yes ox oy), fun h => ⟨x, y, fx, fy, ?_, ⟨rfl, rfl, rfl⟩, ⟨rfl, rfl, rfl⟩⟩⟩
    simpa [cmpR_le] using h
  · have hv : (b1 && (b2 && decide ((0 : Int) ≤ 0))) = false := by cases b1 <;> cases b2 <;> simp_all
    refine ⟨_, evalid_core _ _ _ _ _ _ b1 b2 0 p1 p2 (fun e1 e2 => absurd ⟨e1, e2⟩ hb), rvalid_core _ _ _ _ _ _ b1 b2 0 r1 r2 (fun e1 e2 => absurd ⟨e1, e2⟩ hb), fun h => ?_⟩
    rw [hv] at h
    cases h
theorem raddr_yes {x y : Rat} (hx : OkR x) (hy : OkR y) (hz : OkR (x + y)) : RetV 57 #[RV x, RV y] (.tuple #[RV (x + y), .int .i64 0]) := fun w =>
  (addr_core _ _ _ _ _ _ x.num.natAbs x.den y.num.natAbs y.den (x + y) (by rw [rat_self, rat_self]) (fun w => isratior_yes w hx) (fun w => isratior_yes w hy) (fun w => big_S _ w hx.1) (fun w => big_S _ w hx.2) (fun w => big_S _ w hy.1) (fun w => big_S _ w hy.2) (den_pos x) (den_pos y) hx.1.dk hx.2.dk hy.1.dk hy.2.dk w).mono fun e w' ⟨g, hb⟩ => ⟨g.ok hz, hb⟩
theorem rmulr_yes {x y : Rat} (hx : OkR x) (hy : OkR y) (hz : OkR (x * y)) : RetV 58 #[RV x, RV y] (.tuple #[RV (x * y), .int .i64 0]) := fun w =>
  (mulr_core _ _ _ _ _ _ x.num.natAbs x.den y.num.natAbs y.den (x * y) (by rw [rat_mul, rat_self, rat_self]) (fun w => isratior_yes w hx) (fun w => isratior_yes w hy) (fun w => big_S _ w hx.1) (fun w => big_S _ w hx.2) (fun w => big_S _ w hy.1) (fun w => big_S _ w hy.2) (den_pos x) (den_pos y) hx.1.dk hx.2.dk hy.1.dk hy.2.dk w).mono fun e w' ⟨g, hb⟩ => ⟨g.ok hz, hb⟩
theorem raddi_yes {x1 y1 x2 y2 : Rat} {j : Nat} (h1 : Few j x1) (h2 : Few j y1) (h3 : Few j x2) (h4 : Few j y2) (hj : j ≤ 9000) (h5 : x1 ≤ y1) (h6 : x2 ≤ y2) : RetV 31 #[IV x1 y1, IV x2 y2] (.tuple #[IV (x1 + x2) (y1 + y2), .int .i64 0]) := by
  have k1 := h1.ok (show j ≤ 20000 by omega)
  have k2 := h2.ok (show j ≤ 20000 by omega)
  have k3 := h3.ok (show j ≤ 20000 by omega)
  have k4 := h4.ok (show j ≤ 20000 by omega)
  have v1 := rvalid_yes k1 k2
  have v2 := rvalid_yes k3 k4
  rw [decide_eq_true h5] at v1
  rw [decide_eq_true h6] at v2
  exact raddi_core _ _ _ _ _ _ _ _ _ _ _ _ _ _ _ _ _ _ v1 v2 (raddr_yes k1 k3 ((few_add' h1 h3).ok (by omega))) (raddr_yes k2 k4 ((few_add' h2 h4).ok (by omega)))
theorem rscale_yes {x y s : Rat} {j : Nat} (h1 : Few j x) (h2 : Few j y) (h3 : Few j s) (hj0 : 0 < j) (hj : j ≤ 9000) (h5 : x ≤ y) : RetV 32 #[IV x y, RV s] (.tuple #[IV (scLo x y s) (scHi x y s), .int .i64 0]) := by
  have k1 := h1.ok (show j ≤ 20000 by omega)
  have k2 := h2.ok (show j ≤ 20000 by omega)
  have k3 := h3.ok (show j ≤ 20000 by omega)
  have v1 := rvalid_yes k1 k2
  rw [decide_eq_true h5] at v1
  have m1 := rmulr_yes k1 k3 ((few_mul' (by omega) h1 h3).ok (by omega))
  have m2 := rmulr_yes k2 k3 ((few_mul' (by omega) h2 h3).ok (by omega))
  have i1 : RetV 47 #[RV s] (.bool true) := fun w => isratior_yes w k3
  unfold scLo scHi
  by_cases hs : s < 0
  · rw [if_pos hs, if_pos hs]
    have e : RV s = .agg #[.bool true, .string (S s.num.natAbs), .string (S s.den)] := by
      show RatV _ _ _ = _
      rw [neg_is, decide_eq_true hs]
    rw [e] at m1 m2 i1 ⊢
    exact rscale_neg _ _ _ _ _ _ _ _ _ _ _ _ _ _ v1 i1 m1 m2
  · rw [if_neg hs, if_neg hs]
    have e : RV s = .agg #[.bool false, .string (S s.num.natAbs), .string (S s.den)] := by
      show RatV _ _ _ = _
      rw [neg_is, decide_eq_false hs]
    rw [e] at m1 m2 i1 ⊢
    exact rscale_pos _ _ _ _ _ _ _ _ _ _ _ _ _ _ v1 i1 m1 m2
theorem add2 (na : Bool) (sa ta : ByteArray) (nb : Bool) (sb tb : ByteArray) (nc : Bool) (sc tc : ByteArray) (nd : Bool) (sd td : ByteArray) (h1 : sa.size ≤ 12) (h2 : ta.size ≤ 12) (h3 : sb.size ≤ 12) (h4 : tb.size ≤ 12) (h5 : sc.size ≤ 12) (h6 : tc.size ≤ 12) (h7 : sd.size ≤ 12) (h8 : td.size ≤ 12) :
    ∃ (n1 : Bool) (s1 t1 : ByteArray) (n2 : Bool) (s2 t2 : ByteArray) (k : Int), RetV 27 #[.agg #[.bool na, .string sa, .string ta, .bool nb, .string sb, .string tb], .agg #[.bool nc, .string sc, .string tc, .bool nd, .string sd, .string td]] (.tuple #[.agg #[.bool n1, .string s1, .string t1, .bool n2, .string s2, .string t2], .int .i64 k]) ∧
      RetV 31 #[.agg #[.bool na, .string sa, .string ta, .bool nb, .string sb, .string tb], .agg #[.bool nc, .string sc, .string tc, .bool nd, .string sd, .string td]] (.tuple #[.agg #[.bool n1, .string s1, .string t1, .bool n2, .string s2, .string t2], .int .i64 k]) := by
  obtain ⟨v1, p1, r1, k1⟩ := val2 na sa ta nb sb tb h1 h2 h3 h4
  obtain ⟨v2, p2, r2, k2⟩ := val2 nc sc tc nd sd td h5 h6 h7 h8
  cases v1 with
  | false => exact ⟨_, _, _, _, _, _, _, eadd_no1 _ _ _ _ _ _ _ _ _ _ _ _ p1, raddi_no1 _ _ _ _ _ _ _ _ _ _ _ _ r1⟩
  | true =>
    cases v2 with
    | false => exact ⟨_, _, _, _, _, _, _, eadd_no2 _ _ _ _ _ _ _ _ _ _ _ _ p1 p2, raddi_no2 _ _ _ _ _ _ _ _ _ _ _ _ r1 r2⟩
    | true =>
      obtain ⟨x1, y1, f1, f2, le1, ⟨rfl, rfl, rfl⟩, ⟨rfl, rfl, rfl⟩⟩ := k1 rfl
      obtain ⟨x2, y2, f3, f4, le2, ⟨rfl, rfl, rfl⟩, ⟨rfl, rfl, rfl⟩⟩ := k2 rfl
      exact ⟨_, _, _, _, _, _, _, eadd_yes f1 f2 f3 f4 (by decide) le1 le2, raddi_yes f1 f2 f3 f4 (by decide) le1 le2⟩
theorem scale2 (na : Bool) (sa ta : ByteArray) (nb : Bool) (sb tb : ByteArray) (nx : Bool) (sx tx : ByteArray) (h1 : sa.size ≤ 12) (h2 : ta.size ≤ 12) (h3 : sb.size ≤ 12) (h4 : tb.size ≤ 12) (h5 : sx.size ≤ 12) (h6 : tx.size ≤ 12) :
    ∃ (n1 : Bool) (s1 t1 : ByteArray) (n2 : Bool) (s2 t2 : ByteArray) (k : Int), RetV 28 #[.agg #[.bool na, .string sa, .string ta, .bool nb, .string sb, .string tb], .agg #[.bool nx, .string sx, .string tx]] (.tuple #[.agg #[.bool n1, .string s1, .string t1, .bool n2, .string s2, .string t2], .int .i64 k]) ∧
      RetV 32 #[.agg #[.bool na, .string sa, .string ta, .bool nb, .string sb, .string tb], .agg #[.bool nx, .string sx, .string tx]] (.tuple #[.agg #[.bool n1, .string s1, .string t1, .bool n2, .string s2, .string t2], .int .i64 k]) := by
  obtain ⟨v1, p1, r1, k1⟩ := val2 na sa ta nb sb tb h1 h2 h3 h4
  obtain ⟨b2, p2, r2, k2⟩ := isr2 nx sx tx h5 h6
  cases v1 with
  | false => exact ⟨_, _, _, _, _, _, _, escale_no1 _ _ _ _ _ _ _ _ _ p1, rscale_no1 _ _ _ _ _ _ _ _ _ r1⟩
  | true =>
    cases b2 with
    | false => exact ⟨_, _, _, _, _, _, _, escale_no2 _ _ _ _ _ _ _ _ _ p1 p2, rscale_no2 _ _ _ _ _ _ _ _ _ r1 r2⟩
    | true =>
      obtain ⟨x1, y1, f1, f2, le1, ⟨rfl, rfl, rfl⟩, ⟨rfl, rfl, rfl⟩⟩ := k1 rfl
      obtain ⟨s, fs, rfl, rfl, rfl⟩ := k2 rfl
      exact ⟨_, _, _, _, _, _, _, escale_yes f1 f2 fs (by decide) (by decide) le1, rscale_yes f1 f2 fs (by decide) (by decide) le1⟩
theorem exact2 (nx : Bool) (sx tx : ByteArray) (h5 : sx.size ≤ 12) (h6 : tx.size ≤ 12) :
    ∃ (n1 : Bool) (s1 t1 : ByteArray) (n2 : Bool) (s2 t2 : ByteArray) (k : Int), RetV 33 #[.agg #[.bool nx, .string sx, .string tx]] (.tuple #[.agg #[.bool n1, .string s1, .string t1, .bool n2, .string s2, .string t2], .int .i64 k]) ∧
      RetV 34 #[.agg #[.bool nx, .string sx, .string tx]] (.tuple #[.agg #[.bool n1, .string s1, .string t1, .bool n2, .string s2, .string t2], .int .i64 k]) := by
  obtain ⟨b2, p2, r2, k2⟩ := isr2 nx sx tx h5 h6
  cases b2 with
  | false => exact ⟨_, _, _, _, _, _, _, eexact_no _ _ _ p2, rexact_no _ _ _ r2⟩
  | true => exact ⟨_, _, _, _, _, _, _, eexact_yes _ _ _ p2, rexact_yes _ _ _ r2⟩
theorem contains2 (na : Bool) (sa ta : ByteArray) (nb : Bool) (sb tb : ByteArray) (nx : Bool) (sx tx : ByteArray) (h1 : sa.size ≤ 12) (h2 : ta.size ≤ 12) (h3 : sb.size ≤ 12) (h4 : tb.size ≤ 12) (h5 : sx.size ≤ 12) (h6 : tx.size ≤ 12) :
    ∃ b : Bool, RetV 25 #[.agg #[.bool na, .string sa, .string ta, .bool nb, .string sb, .string tb], .agg #[.bool nx, .string sx, .string tx]] (.bool b) ∧
      RetV 36 #[.agg #[.bool na, .string sa, .string ta, .bool nb, .string sb, .string tb], .agg #[.bool nx, .string sx, .string tx]] (.bool b) := by
  obtain ⟨v1, p1, r1, k1⟩ := val2 na sa ta nb sb tb h1 h2 h3 h4
  obtain ⟨b2, p2, r2, k2⟩ := isr2 nx sx tx h5 h6
  by_cases hb : v1 = true ∧ b2 = true
  · obtain ⟨rfl, rfl⟩ := hb
    obtain ⟨x1, y1, f1, f2, le1, ⟨rfl, rfl, rfl⟩, ⟨rfl, rfl, rfl⟩⟩ := k1 rfl
    obtain ⟨s, fs, rfl, rfl, rfl⟩ := k2 rfl
    have o1 := f1.ok (by decide)
    have o2 := f2.ok (by decide)
    have o3 := fs.ok (by decide)
    exact ⟨_, econtains_core _ _ _ _ _ _ _ _ _ true true (cmpR x1 s) (cmpR s y1) p1 p2 (fun _ _ w => rcmp_yes o1 o3 w) (fun _ _ w => rcmp_yes o3 o2 w), rcontains_core _ _ _ _ _ _ _ _ _ true true (cmpR x1 s) (cmpR s y1) r1 r2 (fun _ _ => rcmpr_yes o1 o3) (fun _ _ => rcmpr_yes o3 o2)⟩
  · exact ⟨_, econtains_core _ _ _ _ _ _ _ _ _ v1 b2 0 0 p1 p2 (fun e1 e2 => absurd ⟨e1, e2⟩ hb) (fun e1 e2 => absurd ⟨e1, e2⟩ hb), rcontains_core _ _ _ _ _ _ _ _ _ v1 b2 0 0 r1 r2 (fun e1 e2 => absurd ⟨e1, e2⟩ hb) (fun e1 e2 => absurd ⟨e1, e2⟩ hb)⟩
theorem compare2 (na : Bool) (sa ta : ByteArray) (nb : Bool) (sb tb : ByteArray) (nc : Bool) (sc tc : ByteArray) (nd : Bool) (sd td : ByteArray) (h1 : sa.size ≤ 12) (h2 : ta.size ≤ 12) (h3 : sb.size ≤ 12) (h4 : tb.size ≤ 12) (h5 : sc.size ≤ 12) (h6 : tc.size ≤ 12) (h7 : sd.size ≤ 12) (h8 : td.size ≤ 12) :
    ∃ k : Int, RetV 22 #[.agg #[.bool na, .string sa, .string ta, .bool nb, .string sb, .string tb], .agg #[.bool nc, .string sc, .string tc, .bool nd, .string sd, .string td]] (.int .i64 k) ∧
      RetV 24 #[.agg #[.bool na, .string sa, .string ta, .bool nb, .string sb, .string tb], .agg #[.bool nc, .string sc, .string tc, .bool nd, .string sd, .string td]] (.int .i64 k) := by
  obtain ⟨v1, p1, r1, k1⟩ := val2 na sa ta nb sb tb h1 h2 h3 h4
  obtain ⟨v2, p2, r2, k2⟩ := val2 nc sc tc nd sd td h5 h6 h7 h8
  by_cases hb : v1 = true ∧ v2 = true
  · obtain ⟨rfl, rfl⟩ := hb
    obtain ⟨x1, y1, f1, f2, le1, ⟨rfl, rfl, rfl⟩, ⟨rfl, rfl, rfl⟩⟩ := k1 rfl
    obtain ⟨x2, y2, f3, f4, le2, ⟨rfl, rfl, rfl⟩, ⟨rfl, rfl, rfl⟩⟩ := k2 rfl
    have o1 := f1.ok (by decide)
    have o2 := f2.ok (by decide)
    have o3 := f3.ok (by decide)
    have o4 := f4.ok (by decide)
    exact ⟨_, ecompare_core _ _ _ _ _ _ _ _ _ _ _ _ true true (cmpR y1 x2) (cmpR y2 x1) p1 p2 (fun _ _ w => rcmp_yes o2 o3 w) (fun _ _ w => rcmp_yes o4 o1 w), rcompare_core _ _ _ _ _ _ _ _ _ _ _ _ true true (cmpR y1 x2) (cmpR y2 x1) r1 r2 (fun _ _ => rcmpr_yes o2 o3) (fun _ _ => rcmpr_yes o4 o1)⟩
  · exact ⟨_, ecompare_core _ _ _ _ _ _ _ _ _ _ _ _ v1 v2 0 0 p1 p2 (fun e1 e2 => absurd ⟨e1, e2⟩ hb) (fun e1 e2 => absurd ⟨e1, e2⟩ hb), rcompare_core _ _ _ _ _ _ _ _ _ _ _ _ v1 v2 0 0 r1 r2 (fun e1 e2 => absurd ⟨e1, e2⟩ hb) (fun e1 e2 => absurd ⟨e1, e2⟩ hb)⟩
theorem log2 (n : Bool) (s t : ByteArray) (k : Int) (hs : s.size ≤ 12) (ht : t.size ≤ 12) :
    ∃ (m : Int) (b : Bool) (e : Int), RetV 15 #[.agg #[.bool n, .string s, .string t], .int .i64 k] (.tuple #[.int .i64 m, .bool b, .int .i64 e]) ∧ RetV 18 #[.agg #[.bool n, .string s, .string t], .int .i64 k] (.tuple #[.int .i64 m, .bool b, .int .i64 e]) := by
  obtain ⟨b, p, r, kk⟩ := isr2 n s t hs ht
  cases b with
  | false => exact ⟨_, _, _, log_no1 _ _ _ _ p, logr_no1 _ _ _ _ r⟩
  | true =>
    by_cases h2 : n = true
    · exact ⟨_, _, _, log_no2 _ _ _ _ p h2, logr_no2 _ _ _ _ r h2⟩
    have h2 : n = false := by cases n <;> simp_all
    cases h3 : (s.toList == [48]) with
    | true => exact ⟨_, _, _, log_no3 _ _ _ _ p h2 h3, logr_no3 _ _ _ _ r h2 h3⟩
    | false =>
      by_cases h4 : k < 0
      · exact ⟨_, _, _, log_no4 _ _ _ _ p h2 h3 h4, logr_no4 _ _ _ _ r h2 h3 h4⟩
      by_cases h5 : 8 < k
      · exact ⟨_, _, _, log_no5 _ _ _ _ p h2 h3 h5, logr_no5 _ _ _ _ r h2 h3 h5⟩
      obtain ⟨x, fx, rfl, rfl, rfl⟩ := kk rfl
      obtain ⟨j, rfl⟩ : ∃ j : Nat, k = j := ⟨k.toNat, by omega⟩
      have hnn : ¬ x.num < 0 := of_decide_eq_false h2
      have hne : x.num ≠ 0 := by
        intro e
        rw [e] at h3
        have : S (0 : Int).natAbs = ⟨#[48]⟩ := okS_0
        rw [this] at h3
        have h9 : ((⟨#[48]⟩ : ByteArray).toList == [48]) = true := by kernel_rfl
        rw [h9] at h3
        cases h3
      have hx0 : 0 < x := by
        have h1 : 0 ≤ x := Rat.num_nonneg.1 (by omega)
        rcases Rat.le_iff_lt_or_eq.1 h1 with h | h
        · exact h
        · rw [← h] at hne; exact absurd rfl hne
      obtain ⟨na, ha, ha1, ha2, hl, -⟩ := ebits_yes (k := j) (fx.mono (by decide)) hx0 (by omega) default
      obtain ⟨hl2, -⟩ := rbits_yes (k := j) (fx.mono (by decide)) hx0 (by omega) ha ha1 ha2
      exact ⟨_, _, _, hl, hl2⟩
end Go.Proofs.Ytdjkgjpehneejaa
