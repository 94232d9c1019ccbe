/- Both texts at arbitrary ratios and texts return the same (chapter 36). -/
import Derived.Test.YtofijnhkoadfjaaPr
import Derived.Test.YtofijnhkoadfjaaEn
namespace Go.Proofs.Ytofijnhkoadfjaa
set_option linter.unusedSimpArgs false
set_option linter.unusedVariables false
set_option linter.unusedSectionVars false
open Go.RowKit Dg

theorem size_max {s : ByteArray} (h : s.size ≤ 80) : s.size ≤ maxLen := by unfold maxLen; omega
theorem isr2 (n : Bool) (s t : ByteArray) (hs : s.size ≤ 80) (ht : t.size ≤ 80) : ∃ b : Bool, RetV 28 #[.agg #[.bool n, .string s, .string t]] (.bool b) ∧ RetV 39 #[.agg #[.bool n, .string s, .string t]] (.bool b) ∧
    (b = true → ∃ x : Rat, Few 80 x ∧ n = decide (x.num < 0) ∧ s = S x.num.natAbs ∧ t = S x.den) ∧ (b = false → ¬ IsR n s t) := by
  by_cases h : IsR n s t
  · obtain ⟨x, hx, rfl, rfl, rfl⟩ := h
    rw [S_size] at hs ht
    exact ⟨true, fun w => isratio_yes w hx, fun w => isratior_yes w hx, fun _ => ⟨x, ⟨hs, ht⟩, rfl, rfl, rfl⟩, fun e => by cases e⟩
  · exact ⟨false, fun w => isratio_no w (size_max hs) (size_max ht) h, fun w => isratior_no w (size_max hs) (size_max ht) h, (fun e => by cases e), fun _ => h⟩
abbrev RAV (n : Bool) (s t : ByteArray) : Value := .agg #[.bool n, .string s, .string t]
theorem same_of {f g : FuncId} {args : Array Value} {z : Rat} (h1 : ∀ w, Calls Try.prog f args w fun e w' => RatRes z e ∧ Below w.heap.size w w') (h2 : ∀ w, Calls Try.prog g args w fun e w' => RatRes z e ∧ Below w.heap.size w w') :
    ∃ (n : Bool) (s t : ByteArray) (k : Int), RetV f args (.tuple #[.agg #[.bool n, .string s, .string t], .int .i64 k]) ∧ RetV g args (.tuple #[.agg #[.bool n, .string s, .string t], .int .i64 k]) := by
  obtain ⟨n, s, t, k, hend, -⟩ := ratRes_one z
  exact ⟨n, s, t, k, fun w => (h1 w).mono fun e w' ⟨a, b⟩ => ⟨hend e a, b⟩, fun w => (h2 w).mono fun e w' ⟨a, b⟩ => ⟨hend e a, b⟩⟩
section
variable (n1 : Bool) (s1 t1 : ByteArray) (n2 : Bool) (s2 t2 : ByteArray) (h1 : s1.size ≤ 80) (h2 : t1.size ≤ 80) (h3 : s2.size ≤ 80) (h4 : t2.size ≤ 80)
include h1 h2 h3 h4
theorem add2 : ∃ (n : Bool) (s t : ByteArray) (k : Int), RetV 24 #[.agg #[.bool n1, .string s1, .string t1], .agg #[.bool n2, .string s2, .string t2]] (.tuple #[.agg #[.bool n, .string s, .string t], .int .i64 k]) ∧ RetV 33 #[.agg #[.bool n1, .string s1, .string t1], .agg #[.bool n2, .string s2, .string t2]] (.tuple #[.agg #[.bool n, .string s, .string t], .int .i64 k]) := by
  obtain ⟨b1, -, r1, k1, q1⟩ := isr2 n1 s1 t1 h1 h2
  obtain ⟨b2, -, r2, k2, q2⟩ := isr2 n2 s2 t2 h3 h4
  cases b1 with
  | false => exact ⟨_, _, _, _, fun w => radd_no (size_max h1) (size_max h2) (size_max h3) (size_max h4) (fun h => q1 rfl h.1) w, fun w => add_ref1 _ _ _ _ _ _ r1 w⟩
  | true =>
    cases b2 with
    | false => exact ⟨_, _, _, _, fun w => radd_no (size_max h1) (size_max h2) (size_max h3) (size_max h4) (fun h => q2 rfl h.2) w, fun w => add_ref2 _ _ _ _ _ _ r1 r2 w⟩
    | true =>
      obtain ⟨x, fx, rfl, rfl, rfl⟩ := k1 rfl
      obtain ⟨y, fy, rfl, rfl, rfl⟩ := k2 rfl
      have hx := fx.ok (by decide)
      have hy := fy.ok (by decide)
      exact same_of (fun w => radd_yes hx hy w) (fun w => addr_core _ _ _ _ _ _ x.num.natAbs x.den y.num.natAbs y.den (x + y) (by rw [rat_self, rat_self]) r1 r2 (fun w => big_S _ w hx.1) (fun w => big_S _ w hx.2) (fun w => big_S _ w hy.1) (fun w => big_S _ w hy.2) (den_pos x) (den_pos y) hx.1.dk hx.2.dk hy.1.dk hy.2.dk w)
theorem quo2 : ∃ (n : Bool) (s t : ByteArray) (k : Int), RetV 27 #[.agg #[.bool n1, .string s1, .string t1], .agg #[.bool n2, .string s2, .string t2]] (.tuple #[.agg #[.bool n, .string s, .string t], .int .i64 k]) ∧ RetV 34 #[.agg #[.bool n1, .string s1, .string t1], .agg #[.bool n2, .string s2, .string t2]] (.tuple #[.agg #[.bool n, .string s, .string t], .int .i64 k]) := by
  obtain ⟨b1, -, r1, k1, q1⟩ := isr2 n1 s1 t1 h1 h2
  obtain ⟨b2, -, r2, k2, q2⟩ := isr2 n2 s2 t2 h3 h4
  cases b1 with
  | false => exact ⟨_, _, _, _, fun w => rquo_no (size_max h1) (size_max h2) (size_max h3) (size_max h4) (fun h => q1 rfl h.1) w, fun w => quo_ref1 _ _ _ _ _ _ r1 w⟩
  | true =>
    cases b2 with
    | false => exact ⟨_, _, _, _, fun w => rquo_no (size_max h1) (size_max h2) (size_max h3) (size_max h4) (fun h => q2 rfl h.2) w, fun w => quo_ref2 _ _ _ _ _ _ r1 r2 w⟩
    | true =>
      obtain ⟨x, fx, rfl, rfl, rfl⟩ := k1 rfl
      obtain ⟨y, fy, rfl, rfl, rfl⟩ := k2 rfl
      have hx := fx.ok (by decide)
      have hy := fy.ok (by decide)
      by_cases h0 : y = 0
      · subst h0
        have e : ((S (0 : Rat).num.natAbs).toList == [48]) = true := by
          rw [show (0 : Rat).num.natAbs = 0 from rfl, okS_0]; kernel_rfl
        exact ⟨_, _, _, _, fun w => rquo_zero hx w, fun w => quor_zero _ _ _ _ _ _ r1 r2 e w⟩
      · refine same_of (z := x / y) (fun w => rquo_yes hx hy h0 w) (fun w => quor_core _ _ _ _ _ _ x.num.natAbs x.den y.num.natAbs y.den (x / y) ?_ (num_pos h0) (str_ne (num0_ne h0)) r1 r2 (fun w => big_S _ w hx.1) (fun w => big_S _ w hx.2) (fun w => big_S _ w hy.1) (fun w => big_S _ w hy.2) (den_pos x) (den_pos y) hx.1.dk hx.2.dk hy.1.dk hy.2.dk w)
        rw [rat_mul, rat_self, rat_inv, rat_self, Rat.div_def]
theorem cmp2 : ∃ k : Int, RetV 32 #[.agg #[.bool n1, .string s1, .string t1], .agg #[.bool n2, .string s2, .string t2]] (.int .i64 k) ∧ RetV 40 #[.agg #[.bool n1, .string s1, .string t1], .agg #[.bool n2, .string s2, .string t2]] (.int .i64 k) := by
  obtain ⟨b1, -, r1, k1, q1⟩ := isr2 n1 s1 t1 h1 h2
  obtain ⟨b2, -, r2, k2, q2⟩ := isr2 n2 s2 t2 h3 h4
  cases b1 with
  | false => exact ⟨_, fun w => rcmp_no (size_max h1) (size_max h2) (size_max h3) (size_max h4) (fun h => q1 rfl h.1) w, fun w => cmp_ref1 _ _ _ _ _ _ r1 w⟩
  | true =>
    cases b2 with
    | false => exact ⟨_, fun w => rcmp_no (size_max h1) (size_max h2) (size_max h3) (size_max h4) (fun h => q2 rfl h.2) w, fun w => cmp_ref2 _ _ _ _ _ _ r1 r2 w⟩
    | true =>
      obtain ⟨x, fx, rfl, rfl, rfl⟩ := k1 rfl
      obtain ⟨y, fy, rfl, rfl, rfl⟩ := k2 rfl
      have hx := fx.ok (by decide)
      have hy := fy.ok (by decide)
      exact ⟨cmpR x y, fun w => rcmp_yes hx hy w, fun w => cmpr_core _ _ _ _ _ _ x.num.natAbs x.den y.num.natAbs y.den _ (cmpR_sgn x y _ _ _ _ _ _ (rat_self x).symm (rat_self y).symm (den_pos x) (den_pos y) (fun h => by have := of_decide_eq_true h.1; omega) (fun h => by have := of_decide_eq_true h.1; omega))
        r1 r2 (fun w => big_S _ w hx.1) (fun w => big_S _ w hx.2) (fun w => big_S _ w hy.1) (fun w => big_S _ w hy.2) (den_pos x) (den_pos y) hx.1.dk hx.2.dk hy.1.dk hy.2.dk w⟩
end
theorem of2 (neg : Bool) (s t : ByteArray) (hs : s.size ≤ 80) (ht : t.size ≤ 80) : ∃ (n : Bool) (p q : ByteArray) (k : Int), RetV 35 #[.bool neg, .string s, .string t] (.tuple #[.agg #[.bool n, .string p, .string q], .int .i64 k]) ∧ RetV 36 #[.bool neg, .string s, .string t] (.tuple #[.agg #[.bool n, .string p, .string q], .int .i64 k]) := by
  by_cases h1 : VLD s
  · by_cases h2 : VLD t
    · obtain ⟨m, rfl, hm⟩ := vld_is h1
      obtain ⟨n, rfl, hn⟩ := vld_is h2
      rcases Nat.eq_zero_or_pos n with rfl | h0
      · exact ⟨_, _, _, _, fun w => of_zero neg m hm w, fun w => ofr_zero neg m w hm⟩
      · exact same_of (z := rat neg m n) (fun w => of_core neg m n hm hn h0 w) (fun w => (ofr_low neg m n w hm hn h0).mono fun e w' ⟨a, b⟩ => ⟨a.toRat h0, b⟩)
    · exact ⟨_, _, _, _, fun w => of_no neg s t (size_max hs) (size_max ht) (fun h => h2 h.2) w, fun w => ofr_no2 neg s t (size_max hs) (size_max ht) h1 h2 w⟩
  · exact ⟨_, _, _, _, fun w => of_no neg s t (size_max hs) (size_max ht) (fun h => h1 h.1) w, fun w => ofr_no1 neg s t (size_max hs) (size_max ht) h1 w⟩
theorem floor2 (n : Bool) (s t : ByteArray) (hs : s.size ≤ 80) (ht : t.size ≤ 80) : ∃ (m : Bool) (p q : ByteArray) (k : Int), RetV 29 #[.agg #[.bool n, .string s, .string t]] (.tuple #[.agg #[.bool m, .string p, .string q], .int .i64 k]) ∧ RetV 38 #[.agg #[.bool n, .string s, .string t]] (.tuple #[.agg #[.bool m, .string p, .string q], .int .i64 k]) := by
  obtain ⟨b, -, r, k, q⟩ := isr2 n s t hs ht
  cases b with
  | false => exact ⟨_, _, _, _, fun w => floor_no (size_max hs) (size_max ht) (q rfl) w, fun w => floorr_bad _ _ _ r w⟩
  | true =>
    obtain ⟨x, fx, rfl, rfl, rfl⟩ := k rfl
    have hx := fx.ok (by decide)
    exact same_of (z := ((x.floor : Int) : Rat)) (fun w => floor_yes hx w) (fun w => floorr_yes hx w)
theorem fmt2 (n : Bool) (s t : ByteArray) (hs : s.size ≤ 80) (ht : t.size ≤ 80) : ∃ p : ByteArray, RetV 31 #[.agg #[.bool n, .string s, .string t]] (.string p) ∧ RetV 41 #[.agg #[.bool n, .string s, .string t]] (.string p) := by
  obtain ⟨b, p, r, -, -⟩ := isr2 n s t hs ht
  cases b with
  | false => exact ⟨_, fun w => fmt_bad _ _ _ p w, fun w => fmtr_bad _ _ _ r w⟩
  | true => exact ⟨_, fun w => fmt_core n s t (by omega) (by omega) p w, fun w => fmtr_core n s t (by omega) (by omega) r w⟩
theorem unsign_join (l : List UInt8) : l = (if (unsign l).1 then [45] else []) ++ (unsign l).2 := by
  unfold unsign
  split <;> simp
theorem slash_join : ∀ R : List UInt8, R = (slash R).1 ++ (if (slash R).2.2 then 47 :: (slash R).2.1 else [])
  | [] => rfl
  | c :: l => by
    have ih := slash_join l
    by_cases hc : c = 47
    · subst hc; simp [slash]
    · simp only [slash, if_neg hc, List.cons_append]
      rw [← ih]
theorem Parts.join {s : ByteArray} {n : Bool} {p q : ByteArray} {sm : Bool} (h : Parts s n p q sm) : s.data.toList = (if n then [45] else []) ++ p.data.toList ++ (if sm then 47 :: q.data.toList else []) := by
  have h1 := unsign_join s.data.toList
  have h2 := slash_join (unsign s.data.toList).2
  rw [h.num, h.den, h.some_] at h2
  rw [h.sign, h2] at h1
  rw [h1, List.append_assoc]
theorem toList_beq {s t : ByteArray} : (s.toList == t.toList) = decide (s = t) := by
  rw [Bool.eq_iff_iff, beq_iff_eq, decide_eq_true_iff, ByteArray.toList_eq, ByteArray.toList_eq]
  exact ⟨ba_ext, fun h => by rw [h]⟩
theorem parse2 (s : ByteArray) (hs : s.size ≤ 80) : ∃ (n : Bool) (p q : ByteArray) (k : Int), (∀ w, Cell0 w → Calls Try.prog 30 #[.string s] w fun e w' => e = .returned (.tuple #[.agg #[.bool n, .string p, .string q], .int .i64 k]) ∧ Below w.heap.size w w') ∧ RetV 37 #[.string s] (.tuple #[.agg #[.bool n, .string p, .string q], .int .i64 k]) := by
  obtain ⟨n, p, q, sm, hp⟩ : ∃ n p q sm, Parts s n p q sm := ⟨_, _, _, _, parts_of s⟩
  have hj := hp.join
  have hl : s.data.toList.length = s.size := rfl
  have hlp : p.data.toList.length = p.size := rfl
  have hlq : q.data.toList.length = q.size := rfl
  have hps : p.size ≤ 80 := by
    rw [hj, List.length_append, List.length_append] at hl; omega
  have hqs : sm = true → q.size ≤ 80 := by
    intro e; rw [hj, e] at hl; simp at hl; omega
  obtain ⟨d, hd⟩ : ∃ d, d = if sm then q else ⟨#[49]⟩ := ⟨_, rfl⟩
  have hds : d.size ≤ 80 := by
    rw [hd]; split
    · exact hqs ‹_›
    · decide
  obtain ⟨b, ip, ir, -, -⟩ := isr2 n p d hps hds
  obtain ⟨u, hun⟩ : ∃ u : ByteArray, unsign s.data.toList = (n, u.data.toList) := ⟨⟨(unsign s.data.toList).2.toArray⟩, by rw [← hp.sign]⟩
  have hff : decide (FmtS n p d = s) = !(sm && (q.toList == [49])) := by
    have key : FmtS n p d = s ↔ ¬ (sm = true ∧ q = ⟨#[49]⟩) := by
      constructor
      · rintro h ⟨rfl, rfl⟩
        have h2 := congrArg (fun x : ByteArray => x.data.toList.length) h
        rw [hj, fmt_list, hd] at h2
        simp at h2
      · intro h
        apply ba_ext
        rw [hj, fmt_list]
        cases sm with
        | false => rw [hd]; simp
        | true =>
          have hq : q ≠ ⟨#[49]⟩ := fun e => h ⟨rfl, e⟩
          have hdq : d = q := hd
          rw [hdq, if_neg hq]; simp
    have e1 : (q.toList == [49]) = decide (q = ⟨#[49]⟩) := by
      have h9 := toList_beq (s := q) (t := ⟨#[49]⟩)
      rw [show (⟨#[49]⟩ : ByteArray).toList = [49] by rw [ByteArray.toList_eq]] at h9
      exact h9
    rw [e1, Bool.eq_iff_iff, decide_eq_true_iff, key]
    cases sm <;> simp
  have tw : ((FmtS n p d).toList == s.toList) = (!(sm && (q.toList == [49]))) ∧ ((FmtS n p d).toList != s.toList) = !(!(sm && (q.toList == [49]))) := by
    rw [bne, toList_beq, hff]; exact ⟨rfl, rfl⟩
  have rf : b = true → ∀ w, Calls Try.prog 41 #[.agg #[.bool n, .string p, .string d]] w fun e w' => e = .returned (.string (FmtS n p d)) ∧ Below w.heap.size w w' := by
    intro hb; subst hb
    exact fun w => fmtr_core n p d (by omega) (by omega) ir w
  have R := fun (v : Value) h1 h2 => parser_core (s := s) (v := v) (by omega) hun hp hd ir rf tw h1 h2
  cases b with
  | false =>
    refine ⟨_, _, _, _, ?_, fun w => R (.tuple #[Rat0, .int .i64 3]) (fun e => by cases e) (fun _ => rfl) w⟩
    intro w hc
    cases sm with
    | false => obtain rfl : d = ⟨#[49]⟩ := hd; exact parse_no0 (by omega) hp ip w hc
    | true => obtain rfl : d = q := hd; exact parse_no1 (by omega) hp ip w hc
  | true =>
    cases sm with
    | false =>
      obtain rfl : d = ⟨#[49]⟩ := hd
      exact ⟨_, _, _, _, fun w hc => parse_yes0 (by omega) hp ip w hc, fun w => R _ (fun _ _ => rfl) (fun h => by simp at h) w⟩
    | true =>
      obtain rfl : d = q := hd
      cases hq : (d.toList == [49]) with
      | true => exact ⟨_, _, _, _, fun w hc => parse_bad1 (by omega) hp ip hq w hc, fun w => R (.tuple #[Rat0, .int .i64 3]) (fun _ h => by rw [hq] at h; cases h) (fun _ => rfl) w⟩
      | false => exact ⟨_, _, _, _, fun w hc => parse_yes1 (by omega) hp ip hq w hc, fun w => R _ (fun _ _ => rfl) (fun h => by rw [hq] at h; simp at h) w⟩
end Go.Proofs.Ytofijnhkoadfjaa
