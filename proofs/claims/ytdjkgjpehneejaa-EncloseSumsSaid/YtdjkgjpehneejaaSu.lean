/- The law EncloseSums as a walk. -/
import Derived.Test.YtdjkgjpehneejaaEq
namespace Go.Proofs.Ytdjkgjpehneejaa
set_option linter.unusedSimpArgs false
set_option linter.unusedVariables false
set_option linter.unusedSectionVars false
open Go.RowKit Dg

theorem few_add' {j k : Nat} {x y : Rat} (hx : Few j x) (hy : Few k y) : Few (j + k + 1) (x + y) := by
  have few_lt : ∀ {n k : Nat}, (dec n).length ≤ k → n < 10 ^ k := fun h => Nat.lt_of_lt_of_le (dec_lt _) (Nat.pow_le_pow_right (by decide) h)
  have e : x + y = mkRat (x.num * y.den + y.num * x.den) (x.den * y.den) := Rat.add_def' x y
  have e2 : mkRat (x.num * y.den + y.num * x.den) (x.den * y.den) = rat (decide (x.num * y.den + y.num * x.den < 0)) (x.num * y.den + y.num * x.den).natAbs (x.den * y.den) := by
    unfold rat
    congr 1
    by_cases h : x.num * y.den + y.num * x.den < 0
    · rw [if_pos (by simpa using h)]; omega
    · rw [if_neg (by simpa using h)]; omega
  have hn : (x.num * y.den + y.num * x.den).natAbs ≤ x.num.natAbs * y.den + y.num.natAbs * x.den := by
    have h1 := Int.natAbs_add_le (x.num * y.den) (y.num * x.den)
    rw [Int.natAbs_mul, Int.natAbs_mul, Int.natAbs_natCast, Int.natAbs_natCast] at h1
    exact h1
  rw [e, e2]
  generalize (x.num * y.den + y.num * x.den).natAbs = n at hn ⊢
  have hd : 0 < x.den * y.den := Nat.mul_pos (den_pos x) (den_pos y)
  have h1 := few_lt hx.1
  have h2 := few_lt hx.2
  have h3 := few_lt hy.1
  have h4 := few_lt hy.2
  have p1 : x.num.natAbs * y.den < 10 ^ (j + k) := by rw [Nat.pow_add]; exact Nat.mul_lt_mul'' h1 h4
  have p2 : y.num.natAbs * x.den < 10 ^ (j + k) := by rw [Nat.add_comm, Nat.pow_add]; exact Nat.mul_lt_mul'' h3 h2
  have p3 : x.den * y.den < 10 ^ (j + k) := by rw [Nat.pow_add]; exact Nat.mul_lt_mul'' h2 h4
  refine few_rat hd (dec_len_le (by omega) ?_) (dec_len_le (by omega) ?_)
  · rw [Nat.pow_succ]; omega
  · rw [Nat.pow_succ]; omega
theorem eadd_yes {x1 y1 x2 y2 : Rat} {j : Nat} (h1 : Few j x1) (h2 : Few j y1) (h3 : Few j x2) (h4 : Few j y2) (hj : j ≤ 9000) (h5 : x1 ≤ y1) (h6 : x2 ≤ y2) : RetV 27 #[IV x1 y1, IV x2 y2] (.tuple #[IV (x1 + x2) (y1 + y2), .int .i64 0]) := by
  have k1 := h1.ok (show j ≤ 20000 by omega)
  have k2 := h2.ok (show j ≤ 20000 by omega)
  have k3 := h3.ok (show j ≤ 20000 by omega)
  have k4 := h4.ok (show j ≤ 20000 by omega)
  have v1 := evalid_yes k1 k2
  have v2 := evalid_yes k3 k4
  rw [decide_eq_true h5] at v1
  rw [decide_eq_true h6] at v2
  exact eadd_core _ _ _ _ _ _ _ _ _ _ _ _ _ _ _ _ _ _ v1 v2 (fun w => (radd_yes k1 k3 w).mono fun e w' ⟨g, hb⟩ => ⟨g.ok ((few_add' h1 h3).ok (by omega)), hb⟩) (fun w => (radd_yes k2 k4 w).mono fun e w' ⟨g, hb⟩ => ⟨g.ok ((few_add' h2 h4).ok (by omega)), hb⟩)
theorem below6b {B : Nat} {w w1 w2 : World} (h1 : Below B w w1) (h2 : Below B w1 w2) : Below B w w2 := h1.trans h2
theorem Own.drew_ {w : World} {g : Nat} {t : TypeId} {cs : List Value} (h : Own w g t cs) : Own w.drew g t cs := h
theorem Below.drew_ {B : Nat} {w w' : World} (h : Below B w w') : Below B w w'.drew := below_drewN h 1
/-- The ends of a multiple. -/
def scLo (x y s : Rat) : Rat := if s < 0 then y * s else x * s
def scHi (x y s : Rat) : Rat := if s < 0 then x * s else y * s
theorem neg_is (s : Rat) : decide (s.num < 0) = decide (s < 0) := by
  rw [decide_eq_decide, ← Rat.not_le, ← Rat.num_nonneg]; omega
theorem escale_yes {x y s : Rat} {j : Nat} (h1 : Few j x) (h2 : Few j y) (h3 : Few j s) (hj0 : 0 < j) (hj : j ≤ 9000) (h5 : x ≤ y) : RetV 28 #[IV x y, RV s] (.tuple #[IV (scLo x y s) (scHi x y s), .int .i64 0]) := by
  have k1 := h1.ok (show j ≤ 20000 by omega)
  have k2 := h2.ok (show j ≤ 20000 by omega)
  have k3 := h3.ok (show j ≤ 20000 by omega)
  have v1 := evalid_yes k1 k2
  rw [decide_eq_true h5] at v1
  have m1 : RetV 14 #[RV x, RV s] (.tuple #[RV (x * s), .int .i64 0]) := fun w => (rmul_yes k1 k3 w).mono fun e w' ⟨g, hb⟩ => ⟨g.ok ((few_mul' (by omega) h1 h3).ok (by omega)), hb⟩
  have m2 : RetV 14 #[RV y, RV s] (.tuple #[RV (y * s), .int .i64 0]) := fun w => (rmul_yes k2 k3 w).mono fun e w' ⟨g, hb⟩ => ⟨g.ok ((few_mul' (by omega) h2 h3).ok (by omega)), hb⟩
  have i1 : RetV 42 #[RV s] (.bool true) := fun w => isratio_yes w k3
  unfold scLo scHi
  by_cases hs : s < 0
  · rw [if_pos hs, if_pos hs]
    have e : RV s = .agg #[.bool true, .string (S s.num.natAbs), .string (S s.den)] := by
      show RatV _ _ _ = _
      rw [neg_is, decide_eq_true hs]
    rw [e] at m1 m2 i1 ⊢
    exact escale_neg _ _ _ _ _ _ _ _ _ _ _ _ _ _ v1 i1 m2 m1
  · rw [if_neg hs, if_neg hs]
    have e : RV s = .agg #[.bool false, .string (S s.num.natAbs), .string (S s.den)] := by
      show RatV _ _ _ = _
      rw [neg_is, decide_eq_false hs]
    rw [e] at m1 m2 i1 ⊢
    exact escale_pos _ _ _ _ _ _ _ _ _ _ _ _ _ _ v1 i1 m1 m2
theorem sc_in {x y s z : Rat} (h1 : x ≤ z) (h2 : z ≤ y) : scLo x y s ≤ z * s ∧ z * s ≤ scHi x y s := by
  unfold scLo scHi
  by_cases hs : s < 0
  · rw [if_pos hs, if_pos hs]
    have hn : 0 ≤ -s := by grind
    have g1 := Rat.mul_le_mul_of_nonneg_right h1 hn
    have g2 := Rat.mul_le_mul_of_nonneg_right h2 hn
    rw [Rat.mul_neg, Rat.mul_neg] at g1 g2
    constructor <;> grind
  · rw [if_neg hs, if_neg hs]
    have hn : 0 ≤ s := Rat.not_lt.1 hs
    exact ⟨Rat.mul_le_mul_of_nonneg_right h1 hn, Rat.mul_le_mul_of_nonneg_right h2 hn⟩
theorem few_sc {x y s : Rat} {j k : Nat} (h0 : 0 < j + k) (h1 : Few j x) (h2 : Few j y) (h3 : Few k s) : Few (j + k) (scLo x y s) ∧ Few (j + k) (scHi x y s) := by
  unfold scLo scHi
  constructor
  · split
    · exact few_mul' h0 h2 h3
    · exact few_mul' h0 h1 h3
  · split
    · exact few_mul' h0 h1 h3
    · exact few_mul' h0 h2 h3

set_option maxRecDepth 100000 in
set_option maxHeartbeats 8000000 in
theorem law_sums (A : Option Addr) (l : List Int) (c : Nat) (B : Option Addr) (k : List Int) (d : Nat) (w : World) (hA : Ints w A l) (hl : l.length ≤ c) (hc : c ≤ maxLen) (hw : Wide l) (hB : Ints w B k) (hk : k.length ≤ d) (hd : d ≤ maxLen) (hv : Wide k) :
    Calls Try.prog 9 #[.slice A l.length c, .slice B k.length d] w (Holds w) := by
  have HN := Lib.hid (new_any A l c w hA hl hc hw)
  have HN2 : Hid (∀ w1, Below w.heap.size w w1 → Calls Try.prog 11 #[.slice B k.length d] w1 fun e w' => e = .returned (.pointer (some ⟨w1.heap.size, 0, none⟩)) ∧ (∃ l', Tape w' w1.heap.size B l' d 0) ∧ Below w1.heap.size w1 w') := fun w1 hb => new_any B k d w1 (Ints.below hB hb) hk hd hv
  clear hA hw hB hv
  go_enter Try.func9, Try.ntmps9
  go_wp2_with fail
  refine HN.out.mono ?_
  rintro e w1 ⟨rfl, ⟨l', hT⟩, hbw⟩
  have hS : ∀ k, k < w.heap.size → ¬ (k = w.heap.size) := fun k hk e => by omega
  have HS := Lib.hid hS
  clear HN hS
  generalize hpp : w.heap.size = p at hT HS ⊢
  rw [← hpp] at HS
  have HPP := Lib.hid hpp
  clear hpp
  go_wp2_with fail
  refine (interval_any p A l' c 0 _ hT).mono ?_
  rintro e ws1 ⟨⟨x1, y1, rfl, fx1, fy1, le1⟩, ⟨a1, hT'⟩, hc1⟩
  replace hbw := hbw.trans (hc1.below (B := w.heap.size) (fun k hk e => HS.out k hk (by rw [HPP.out]; exact e)) hbw.size)
  clear hT hc1
  have hT := hT'
  clear hT'
  go_wp2_with fail
  refine (interval_any p A l' c a1 _ hT).mono ?_
  rintro e ws2 ⟨⟨x2, y2, rfl, fx2, fy2, le2⟩, ⟨a2, hT'⟩, hc2⟩
  replace hbw := hbw.trans (hc2.below (B := w.heap.size) (fun k hk e => HS.out k hk (by rw [HPP.out]; exact e)) hbw.size)
  clear hT hc2
  have hT := hT'
  clear hT'
  go_wp2_with fail
  refine (some37 false p A l' c a2 _ hT).mono ?_
  rintro e ws3 ⟨⟨s, rfl, fs, ps⟩, ⟨a3, hT'⟩, hc3⟩
  replace hbw := hbw.trans (hc3.below (B := w.heap.size) (fun k hk e => HS.out k hk (by rw [HPP.out]; exact e)) hbw.size)
  clear hT hc3
  have hT := hT'
  clear hT'
  clear hT HS HPP ps
  have s1 := few_add' fx1 fx2
  have s2 := few_add' fy1 fy2
  have le3 : x1 + x2 ≤ y1 + y2 := by grind
  obtain ⟨c1, c2⟩ := few_sc (s := s) (by decide) fx1 fy1 fs
  have c3 := sc_in (s := s) le1 Rat.le_refl
  have c3' := sc_in (s := s) Rat.le_refl le1
  have le4 : scLo x1 y1 s ≤ scHi x1 y1 s := by grind
  have HAD := Lib.hid (eadd_yes fx1 fy1 fx2 fy2 (by decide) le1 le2)
  have HSC := Lib.hid (escale_yes fx1 fy1 fs (by decide) (by decide) le1)
  have HV1 : Hid (RetV 26 #[IV (x1 + x2) (y1 + y2)] (.bool true)) := by
    have := evalid_yes (s1.ok (by decide)) (s2.ok (by decide))
    rw [decide_eq_true le3] at this
    exact this
  have HV2 : Hid (RetV 26 #[IV (scLo x1 y1 s) (scHi x1 y1 s)] (.bool true)) := by
    have := evalid_yes (c1.ok (by decide)) (c2.ok (by decide))
    rw [decide_eq_true le4] at this
    exact this
  have HCH : Hid (∀ b : Bool, ∃ u v q r : Rat, (b = true → u = y1 ∧ v = x2) ∧ (b = false → u = x1 ∧ v = y2) ∧ RetV 30 #[RV u, RV v] (.tuple #[RV q, .int .i64 0]) ∧ RetV 14 #[RV u, RV s] (.tuple #[RV r, .int .i64 0]) ∧
      RetV 25 #[IV (x1 + x2) (y1 + y2), RV q] (.bool true) ∧ RetV 25 #[IV (scLo x1 y1 s) (scHi x1 y1 s), RV r] (.bool true)) := by
    intro b
    have key : ∀ u v : Rat, Few 6 u → Few 6 v → x1 ≤ u → u ≤ y1 → x2 ≤ v → v ≤ y2 → RetV 30 #[RV u, RV v] (.tuple #[RV (u + v), .int .i64 0]) ∧ RetV 14 #[RV u, RV s] (.tuple #[RV (u * s), .int .i64 0]) ∧
        RetV 25 #[IV (x1 + x2) (y1 + y2), RV (u + v)] (.bool true) ∧ RetV 25 #[IV (scLo x1 y1 s) (scHi x1 y1 s), RV (u * s)] (.bool true) := by
      intro u v fu fv g1 g2 g3 g4
      have fq := few_add' fu fv
      have fr := few_mul' (by decide) fu fs
      have hc := sc_in (s := s) g1 g2
      refine ⟨fun w => (radd_yes (fu.ok (by decide)) (fv.ok (by decide)) w).mono fun e w' ⟨g, hb⟩ => ⟨g.ok (fq.ok (by decide)), hb⟩, fun w => (rmul_yes (fu.ok (by decide)) (fs.ok (by decide)) w).mono fun e w' ⟨g, hb⟩ => ⟨g.ok (fr.ok (by decide)), hb⟩, ?_, ?_⟩
      · exact econtains_yes (s1.ok (by decide)) (s2.ok (by decide)) (fq.ok (by decide)) le3 (by grind) (by grind)
      · exact econtains_yes (c1.ok (by decide)) (c2.ok (by decide)) (fr.ok (by decide)) le4 hc.1 hc.2
    cases b with
    | true => exact ⟨y1, x2, _, _, fun _ => ⟨rfl, rfl⟩, (fun h => by cases h), key y1 x2 fy1 fx2 le1 Rat.le_refl Rat.le_refl le2⟩
    | false => exact ⟨x1, y2, _, _, (fun h => by cases h), fun _ => ⟨rfl, rfl⟩, key x1 y2 fx1 fy2 Rat.le_refl le1 le2 Rat.le_refl⟩
  clear s1 s2 le3 c1 c2 c3 c3' le4 fx1 fx2 fy1 fy2 fs le1 le2
  generalize hqa : x1 + x2 = qa at *
  generalize hqb : y1 + y2 = qb at *
  generalize hqc : scLo x1 y1 s = qc at *
  generalize hqd : scHi x1 y1 s = qd at *
  clear hqa hqb hqc hqd
  obtain ⟨nx1, sx1, tx1, e1, ny1, sy1, ty1, e2, e3⟩ := iv_open x1 y1
  obtain ⟨nx2, sx2, tx2, e4, ny2, sy2, ty2, e5, e6⟩ := iv_open x2 y2
  obtain ⟨na, sa, ta, e7, nb, sb, tb, e8, e9⟩ := iv_open qa qb
  obtain ⟨nc, sc, tc, e10, nd, sd, td, e11, e12⟩ := iv_open qc qd
  obtain ⟨ns, ss, ts, e13⟩ := rv_open' s
  rw [e3, e6, e9] at HAD
  rw [e3, e13, e12] at HSC
  rw [e9] at HV1
  rw [e12] at HV2
  rw [e3, e6, e13]
  obtain ⟨o_a, o_b, o_x, hz1⟩ := new3 ws3 [.bool nx1, .string sx1, .string tx1, .bool ny1, .string sy1, .string ty1] [.bool nx2, .string sx2, .string tx2, .bool ny2, .string sy2, .string ty2] [.bool ns, .string ss, .string ts] 37 37 26
  replace hbw := below6 hbw hz1
  clear hz1
  have qa_0 : (((ws3.alloc (.cells #[.bool nx1, .string sx1, .string tx1, .bool ny1, .string sy1, .string ty1] 37)).alloc (.cells #[.bool nx2, .string sx2, .string tx2, .bool ny2, .string sy2, .string ty2] 37)).alloc (.cells #[.bool ns, .string ss, .string ts] 26)).cell? ⟨ws3.heap.size, 0, none⟩ = some (.bool nx1) := o_a.cell 0
  have qa_1 : (((ws3.alloc (.cells #[.bool nx1, .string sx1, .string tx1, .bool ny1, .string sy1, .string ty1] 37)).alloc (.cells #[.bool nx2, .string sx2, .string tx2, .bool ny2, .string sy2, .string ty2] 37)).alloc (.cells #[.bool ns, .string ss, .string ts] 26)).cell? ⟨ws3.heap.size, 1, none⟩ = some (.string sx1) := o_a.cell 1
  have qa_2 : (((ws3.alloc (.cells #[.bool nx1, .string sx1, .string tx1, .bool ny1, .string sy1, .string ty1] 37)).alloc (.cells #[.bool nx2, .string sx2, .string tx2, .bool ny2, .string sy2, .string ty2] 37)).alloc (.cells #[.bool ns, .string ss, .string ts] 26)).cell? ⟨ws3.heap.size, 2, none⟩ = some (.string tx1) := o_a.cell 2
  have qa_3 : (((ws3.alloc (.cells #[.bool nx1, .string sx1, .string tx1, .bool ny1, .string sy1, .string ty1] 37)).alloc (.cells #[.bool nx2, .string sx2, .string tx2, .bool ny2, .string sy2, .string ty2] 37)).alloc (.cells #[.bool ns, .string ss, .string ts] 26)).cell? ⟨ws3.heap.size, 3, none⟩ = some (.bool ny1) := o_a.cell 3
  have qa_4 : (((ws3.alloc (.cells #[.bool nx1, .string sx1, .string tx1, .bool ny1, .string sy1, .string ty1] 37)).alloc (.cells #[.bool nx2, .string sx2, .string tx2, .bool ny2, .string sy2, .string ty2] 37)).alloc (.cells #[.bool ns, .string ss, .string ts] 26)).cell? ⟨ws3.heap.size, 4, none⟩ = some (.string sy1) := o_a.cell 4
  have qa_5 : (((ws3.alloc (.cells #[.bool nx1, .string sx1, .string tx1, .bool ny1, .string sy1, .string ty1] 37)).alloc (.cells #[.bool nx2, .string sx2, .string tx2, .bool ny2, .string sy2, .string ty2] 37)).alloc (.cells #[.bool ns, .string ss, .string ts] 26)).cell? ⟨ws3.heap.size, 5, none⟩ = some (.string ty1) := o_a.cell 5
  have qb_0 : (((ws3.alloc (.cells #[.bool nx1, .string sx1, .string tx1, .bool ny1, .string sy1, .string ty1] 37)).alloc (.cells #[.bool nx2, .string sx2, .string tx2, .bool ny2, .string sy2, .string ty2] 37)).alloc (.cells #[.bool ns, .string ss, .string ts] 26)).cell? ⟨ws3.heap.size + 1, 0, none⟩ = some (.bool nx2) := o_b.cell 0
  have qb_1 : (((ws3.alloc (.cells #[.bool nx1, .string sx1, .string tx1, .bool ny1, .string sy1, .string ty1] 37)).alloc (.cells #[.bool nx2, .string sx2, .string tx2, .bool ny2, .string sy2, .string ty2] 37)).alloc (.cells #[.bool ns, .string ss, .string ts] 26)).cell? ⟨ws3.heap.size + 1, 1, none⟩ = some (.string sx2) := o_b.cell 1
  have qb_2 : (((ws3.alloc (.cells #[.bool nx1, .string sx1, .string tx1, .bool ny1, .string sy1, .string ty1] 37)).alloc (.cells #[.bool nx2, .string sx2, .string tx2, .bool ny2, .string sy2, .string ty2] 37)).alloc (.cells #[.bool ns, .string ss, .string ts] 26)).cell? ⟨ws3.heap.size + 1, 2, none⟩ = some (.string tx2) := o_b.cell 2
  have qb_3 : (((ws3.alloc (.cells #[.bool nx1, .string sx1, .string tx1, .bool ny1, .string sy1, .string ty1] 37)).alloc (.cells #[.bool nx2, .string sx2, .string tx2, .bool ny2, .string sy2, .string ty2] 37)).alloc (.cells #[.bool ns, .string ss, .string ts] 26)).cell? ⟨ws3.heap.size + 1, 3, none⟩ = some (.bool ny2) := o_b.cell 3
  have qb_4 : (((ws3.alloc (.cells #[.bool nx1, .string sx1, .string tx1, .bool ny1, .string sy1, .string ty1] 37)).alloc (.cells #[.bool nx2, .string sx2, .string tx2, .bool ny2, .string sy2, .string ty2] 37)).alloc (.cells #[.bool ns, .string ss, .string ts] 26)).cell? ⟨ws3.heap.size + 1, 4, none⟩ = some (.string sy2) := o_b.cell 4
  have qb_5 : (((ws3.alloc (.cells #[.bool nx1, .string sx1, .string tx1, .bool ny1, .string sy1, .string ty1] 37)).alloc (.cells #[.bool nx2, .string sx2, .string tx2, .bool ny2, .string sy2, .string ty2] 37)).alloc (.cells #[.bool ns, .string ss, .string ts] 26)).cell? ⟨ws3.heap.size + 1, 5, none⟩ = some (.string ty2) := o_b.cell 5
  go_wp2_with fail
  generalize (((ws3.alloc (.cells #[.bool nx1, .string sx1, .string tx1, .bool ny1, .string sy1, .string ty1] 37)).alloc (.cells #[.bool nx2, .string sx2, .string tx2, .bool ny2, .string sy2, .string ty2] 37)).alloc (.cells #[.bool ns, .string ss, .string ts] 26)) = wa2 at o_a o_b o_x hbw ⊢
  generalize ws3.heap.size = g2 at o_a o_b o_x ⊢
  clear qa_0 qa_1 qa_2 qa_3 qa_4 qa_5 qb_0 qb_1 qb_2 qb_3 qb_4 qb_5
  refine (HAD.out _).mono ?_
  rintro e w3 ⟨rfl, hb3⟩
  replace o_a := o_a.below hb3 o_a.lt
  replace o_b := o_b.below hb3 o_b.lt
  replace o_x := o_x.below hb3 o_x.lt
  replace hbw := below6 hbw hb3
  clear hb3
  obtain ⟨o_s, hz4⟩ := new1 w3 [.bool na, .string sa, .string ta, .bool nb, .string sb, .string tb] 37
  replace o_a := o_a.alloc (.cells #[.bool na, .string sa, .string ta, .bool nb, .string sb, .string tb] 37)
  replace o_b := o_b.alloc (.cells #[.bool na, .string sa, .string ta, .bool nb, .string sb, .string tb] 37)
  replace o_x := o_x.alloc (.cells #[.bool na, .string sa, .string ta, .bool nb, .string sb, .string tb] 37)
  replace hbw := below6 hbw hz4
  clear hz4
  have qa_0 : (w3.alloc (.cells #[.bool na, .string sa, .string ta, .bool nb, .string sb, .string tb] 37)).cell? ⟨g2, 0, none⟩ = some (.bool nx1) := o_a.cell 0
  have qa_1 : (w3.alloc (.cells #[.bool na, .string sa, .string ta, .bool nb, .string sb, .string tb] 37)).cell? ⟨g2, 1, none⟩ = some (.string sx1) := o_a.cell 1
  have qa_2 : (w3.alloc (.cells #[.bool na, .string sa, .string ta, .bool nb, .string sb, .string tb] 37)).cell? ⟨g2, 2, none⟩ = some (.string tx1) := o_a.cell 2
  have qa_3 : (w3.alloc (.cells #[.bool na, .string sa, .string ta, .bool nb, .string sb, .string tb] 37)).cell? ⟨g2, 3, none⟩ = some (.bool ny1) := o_a.cell 3
  have qa_4 : (w3.alloc (.cells #[.bool na, .string sa, .string ta, .bool nb, .string sb, .string tb] 37)).cell? ⟨g2, 4, none⟩ = some (.string sy1) := o_a.cell 4
  have qa_5 : (w3.alloc (.cells #[.bool na, .string sa, .string ta, .bool nb, .string sb, .string tb] 37)).cell? ⟨g2, 5, none⟩ = some (.string ty1) := o_a.cell 5
  have qx_0 : (w3.alloc (.cells #[.bool na, .string sa, .string ta, .bool nb, .string sb, .string tb] 37)).cell? ⟨g2 + 1 + 1, 0, none⟩ = some (.bool ns) := o_x.cell 0
  have qx_1 : (w3.alloc (.cells #[.bool na, .string sa, .string ta, .bool nb, .string sb, .string tb] 37)).cell? ⟨g2 + 1 + 1, 1, none⟩ = some (.string ss) := o_x.cell 1
  have qx_2 : (w3.alloc (.cells #[.bool na, .string sa, .string ta, .bool nb, .string sb, .string tb] 37)).cell? ⟨g2 + 1 + 1, 2, none⟩ = some (.string ts) := o_x.cell 2
  go_wp2_with fail
  generalize (w3.alloc (.cells #[.bool na, .string sa, .string ta, .bool nb, .string sb, .string tb] 37)) = wa5 at o_a o_b o_x o_s hbw ⊢
  generalize w3.heap.size = g5 at o_s ⊢
  clear qa_0 qa_1 qa_2 qa_3 qa_4 qa_5 qx_0 qx_1 qx_2
  refine (HSC.out _).mono ?_
  rintro e w6 ⟨rfl, hb6⟩
  replace o_a := o_a.below hb6 o_a.lt
  replace o_b := o_b.below hb6 o_b.lt
  replace o_x := o_x.below hb6 o_x.lt
  replace o_s := o_s.below hb6 o_s.lt
  replace hbw := below6 hbw hb6
  clear hb6
  obtain ⟨o_p, hz7⟩ := new1 w6 [.bool nc, .string sc, .string tc, .bool nd, .string sd, .string td] 37
  replace o_a := o_a.alloc (.cells #[.bool nc, .string sc, .string tc, .bool nd, .string sd, .string td] 37)
  replace o_b := o_b.alloc (.cells #[.bool nc, .string sc, .string tc, .bool nd, .string sd, .string td] 37)
  replace o_x := o_x.alloc (.cells #[.bool nc, .string sc, .string tc, .bool nd, .string sd, .string td] 37)
  replace o_s := o_s.alloc (.cells #[.bool nc, .string sc, .string tc, .bool nd, .string sd, .string td] 37)
  replace hbw := below6 hbw hz7
  clear hz7
  go_upto_region 5 with (fail)
  generalize (w6.alloc (.cells #[.bool nc, .string sc, .string tc, .bool nd, .string sd, .string td] 37)) = wa8 at o_a o_b o_x o_s o_p hbw ⊢
  generalize w6.heap.size = g8 at o_p ⊢
  have lt_a := Lib.hid o_a.lt
  have lt_b := Lib.hid o_b.lt
  have lt_x := Lib.hid o_x.lt
  have lt_s := Lib.hid o_s.lt
  have lt_p := Lib.hid o_p.lt
  have HW5 := Lib.hid hbw.size
  have qa_0 : wa8.cell? ⟨g2, 0, none⟩ = some (.bool nx1) := o_a.cell 0
  have qa_1 : wa8.cell? ⟨g2, 1, none⟩ = some (.string sx1) := o_a.cell 1
  have qa_2 : wa8.cell? ⟨g2, 2, none⟩ = some (.string tx1) := o_a.cell 2
  have qa_3 : wa8.cell? ⟨g2, 3, none⟩ = some (.bool ny1) := o_a.cell 3
  have qa_4 : wa8.cell? ⟨g2, 4, none⟩ = some (.string sy1) := o_a.cell 4
  have qa_5 : wa8.cell? ⟨g2, 5, none⟩ = some (.string ty1) := o_a.cell 5
  have qb_0 : wa8.cell? ⟨g2 + 1, 0, none⟩ = some (.bool nx2) := o_b.cell 0
  have qb_1 : wa8.cell? ⟨g2 + 1, 1, none⟩ = some (.string sx2) := o_b.cell 1
  have qb_2 : wa8.cell? ⟨g2 + 1, 2, none⟩ = some (.string tx2) := o_b.cell 2
  have qb_3 : wa8.cell? ⟨g2 + 1, 3, none⟩ = some (.bool ny2) := o_b.cell 3
  have qb_4 : wa8.cell? ⟨g2 + 1, 4, none⟩ = some (.string sy2) := o_b.cell 4
  have qb_5 : wa8.cell? ⟨g2 + 1, 5, none⟩ = some (.string ty2) := o_b.cell 5
  have qaA_0 : (wa8.alloc (.cells #[.bool false, .string ⟨#[]⟩, .string ⟨#[]⟩] 26)).cell? ⟨g2, 0, none⟩ = some (.bool nx1) := (o_a.alloc (.cells #[.bool false, .string ⟨#[]⟩, .string ⟨#[]⟩] 26)).cell 0
  have qaA_1 : (wa8.alloc (.cells #[.bool false, .string ⟨#[]⟩, .string ⟨#[]⟩] 26)).cell? ⟨g2, 1, none⟩ = some (.string sx1) := (o_a.alloc (.cells #[.bool false, .string ⟨#[]⟩, .string ⟨#[]⟩] 26)).cell 1
  have qaA_2 : (wa8.alloc (.cells #[.bool false, .string ⟨#[]⟩, .string ⟨#[]⟩] 26)).cell? ⟨g2, 2, none⟩ = some (.string tx1) := (o_a.alloc (.cells #[.bool false, .string ⟨#[]⟩, .string ⟨#[]⟩] 26)).cell 2
  have qaA_3 : (wa8.alloc (.cells #[.bool false, .string ⟨#[]⟩, .string ⟨#[]⟩] 26)).cell? ⟨g2, 3, none⟩ = some (.bool ny1) := (o_a.alloc (.cells #[.bool false, .string ⟨#[]⟩, .string ⟨#[]⟩] 26)).cell 3
  have qaA_4 : (wa8.alloc (.cells #[.bool false, .string ⟨#[]⟩, .string ⟨#[]⟩] 26)).cell? ⟨g2, 4, none⟩ = some (.string sy1) := (o_a.alloc (.cells #[.bool false, .string ⟨#[]⟩, .string ⟨#[]⟩] 26)).cell 4
  have qaA_5 : (wa8.alloc (.cells #[.bool false, .string ⟨#[]⟩, .string ⟨#[]⟩] 26)).cell? ⟨g2, 5, none⟩ = some (.string ty1) := (o_a.alloc (.cells #[.bool false, .string ⟨#[]⟩, .string ⟨#[]⟩] 26)).cell 5
  have qbA_0 : (wa8.alloc (.cells #[.bool false, .string ⟨#[]⟩, .string ⟨#[]⟩] 26)).cell? ⟨g2 + 1, 0, none⟩ = some (.bool nx2) := (o_b.alloc (.cells #[.bool false, .string ⟨#[]⟩, .string ⟨#[]⟩] 26)).cell 0
  have qbA_1 : (wa8.alloc (.cells #[.bool false, .string ⟨#[]⟩, .string ⟨#[]⟩] 26)).cell? ⟨g2 + 1, 1, none⟩ = some (.string sx2) := (o_b.alloc (.cells #[.bool false, .string ⟨#[]⟩, .string ⟨#[]⟩] 26)).cell 1
  have qbA_2 : (wa8.alloc (.cells #[.bool false, .string ⟨#[]⟩, .string ⟨#[]⟩] 26)).cell? ⟨g2 + 1, 2, none⟩ = some (.string tx2) := (o_b.alloc (.cells #[.bool false, .string ⟨#[]⟩, .string ⟨#[]⟩] 26)).cell 2
  have qbA_3 : (wa8.alloc (.cells #[.bool false, .string ⟨#[]⟩, .string ⟨#[]⟩] 26)).cell? ⟨g2 + 1, 3, none⟩ = some (.bool ny2) := (o_b.alloc (.cells #[.bool false, .string ⟨#[]⟩, .string ⟨#[]⟩] 26)).cell 3
  have qbA_4 : (wa8.alloc (.cells #[.bool false, .string ⟨#[]⟩, .string ⟨#[]⟩] 26)).cell? ⟨g2 + 1, 4, none⟩ = some (.string sy2) := (o_b.alloc (.cells #[.bool false, .string ⟨#[]⟩, .string ⟨#[]⟩] 26)).cell 4
  have qbA_5 : (wa8.alloc (.cells #[.bool false, .string ⟨#[]⟩, .string ⟨#[]⟩] 26)).cell? ⟨g2 + 1, 5, none⟩ = some (.string ty2) := (o_b.alloc (.cells #[.bool false, .string ⟨#[]⟩, .string ⟨#[]⟩] 26)).cell 5
  have qaB_0 : ((wa8.alloc (.cells #[.bool false, .string ⟨#[]⟩, .string ⟨#[]⟩] 26)).alloc (.cells #[.bool false, .string ⟨#[]⟩, .string ⟨#[]⟩] 26)).cell? ⟨g2, 0, none⟩ = some (.bool nx1) := ((o_a.alloc (.cells #[.bool false, .string ⟨#[]⟩, .string ⟨#[]⟩] 26)).alloc (.cells #[.bool false, .string ⟨#[]⟩, .string ⟨#[]⟩] 26)).cell 0
  have qaB_1 : ((wa8.alloc (.cells #[.bool false, .string ⟨#[]⟩, .string ⟨#[]⟩] 26)).alloc (.cells #[.bool false, .string ⟨#[]⟩, .string ⟨#[]⟩] 26)).cell? ⟨g2, 1, none⟩ = some (.string sx1) := ((o_a.alloc (.cells #[.bool false, .string ⟨#[]⟩, .string ⟨#[]⟩] 26)).alloc (.cells #[.bool false, .string ⟨#[]⟩, .string ⟨#[]⟩] 26)).cell 1
  have qaB_2 : ((wa8.alloc (.cells #[.bool false, .string ⟨#[]⟩, .string ⟨#[]⟩] 26)).alloc (.cells #[.bool false, .string ⟨#[]⟩, .string ⟨#[]⟩] 26)).cell? ⟨g2, 2, none⟩ = some (.string tx1) := ((o_a.alloc (.cells #[.bool false, .string ⟨#[]⟩, .string ⟨#[]⟩] 26)).alloc (.cells #[.bool false, .string ⟨#[]⟩, .string ⟨#[]⟩] 26)).cell 2
  have qaB_3 : ((wa8.alloc (.cells #[.bool false, .string ⟨#[]⟩, .string ⟨#[]⟩] 26)).alloc (.cells #[.bool false, .string ⟨#[]⟩, .string ⟨#[]⟩] 26)).cell? ⟨g2, 3, none⟩ = some (.bool ny1) := ((o_a.alloc (.cells #[.bool false, .string ⟨#[]⟩, .string ⟨#[]⟩] 26)).alloc (.cells #[.bool false, .string ⟨#[]⟩, .string ⟨#[]⟩] 26)).cell 3
  have qaB_4 : ((wa8.alloc (.cells #[.bool false, .string ⟨#[]⟩, .string ⟨#[]⟩] 26)).alloc (.cells #[.bool false, .string ⟨#[]⟩, .string ⟨#[]⟩] 26)).cell? ⟨g2, 4, none⟩ = some (.string sy1) := ((o_a.alloc (.cells #[.bool false, .string ⟨#[]⟩, .string ⟨#[]⟩] 26)).alloc (.cells #[.bool false, .string ⟨#[]⟩, .string ⟨#[]⟩] 26)).cell 4
  have qaB_5 : ((wa8.alloc (.cells #[.bool false, .string ⟨#[]⟩, .string ⟨#[]⟩] 26)).alloc (.cells #[.bool false, .string ⟨#[]⟩, .string ⟨#[]⟩] 26)).cell? ⟨g2, 5, none⟩ = some (.string ty1) := ((o_a.alloc (.cells #[.bool false, .string ⟨#[]⟩, .string ⟨#[]⟩] 26)).alloc (.cells #[.bool false, .string ⟨#[]⟩, .string ⟨#[]⟩] 26)).cell 5
  have qbB_0 : ((wa8.alloc (.cells #[.bool false, .string ⟨#[]⟩, .string ⟨#[]⟩] 26)).alloc (.cells #[.bool false, .string ⟨#[]⟩, .string ⟨#[]⟩] 26)).cell? ⟨g2 + 1, 0, none⟩ = some (.bool nx2) := ((o_b.alloc (.cells #[.bool false, .string ⟨#[]⟩, .string ⟨#[]⟩] 26)).alloc (.cells #[.bool false, .string ⟨#[]⟩, .string ⟨#[]⟩] 26)).cell 0
  have qbB_1 : ((wa8.alloc (.cells #[.bool false, .string ⟨#[]⟩, .string ⟨#[]⟩] 26)).alloc (.cells #[.bool false, .string ⟨#[]⟩, .string ⟨#[]⟩] 26)).cell? ⟨g2 + 1, 1, none⟩ = some (.string sx2) := ((o_b.alloc (.cells #[.bool false, .string ⟨#[]⟩, .string ⟨#[]⟩] 26)).alloc (.cells #[.bool false, .string ⟨#[]⟩, .string ⟨#[]⟩] 26)).cell 1
  have qbB_2 : ((wa8.alloc (.cells #[.bool false, .string ⟨#[]⟩, .string ⟨#[]⟩] 26)).alloc (.cells #[.bool false, .string ⟨#[]⟩, .string ⟨#[]⟩] 26)).cell? ⟨g2 + 1, 2, none⟩ = some (.string tx2) := ((o_b.alloc (.cells #[.bool false, .string ⟨#[]⟩, .string ⟨#[]⟩] 26)).alloc (.cells #[.bool false, .string ⟨#[]⟩, .string ⟨#[]⟩] 26)).cell 2
  have qbB_3 : ((wa8.alloc (.cells #[.bool false, .string ⟨#[]⟩, .string ⟨#[]⟩] 26)).alloc (.cells #[.bool false, .string ⟨#[]⟩, .string ⟨#[]⟩] 26)).cell? ⟨g2 + 1, 3, none⟩ = some (.bool ny2) := ((o_b.alloc (.cells #[.bool false, .string ⟨#[]⟩, .string ⟨#[]⟩] 26)).alloc (.cells #[.bool false, .string ⟨#[]⟩, .string ⟨#[]⟩] 26)).cell 3
  have qbB_4 : ((wa8.alloc (.cells #[.bool false, .string ⟨#[]⟩, .string ⟨#[]⟩] 26)).alloc (.cells #[.bool false, .string ⟨#[]⟩, .string ⟨#[]⟩] 26)).cell? ⟨g2 + 1, 4, none⟩ = some (.string sy2) := ((o_b.alloc (.cells #[.bool false, .string ⟨#[]⟩, .string ⟨#[]⟩] 26)).alloc (.cells #[.bool false, .string ⟨#[]⟩, .string ⟨#[]⟩] 26)).cell 4
  have qbB_5 : ((wa8.alloc (.cells #[.bool false, .string ⟨#[]⟩, .string ⟨#[]⟩] 26)).alloc (.cells #[.bool false, .string ⟨#[]⟩, .string ⟨#[]⟩] 26)).cell? ⟨g2 + 1, 5, none⟩ = some (.string ty2) := ((o_b.alloc (.cells #[.bool false, .string ⟨#[]⟩, .string ⟨#[]⟩] 26)).alloc (.cells #[.bool false, .string ⟨#[]⟩, .string ⟨#[]⟩] 26)).cell 5
  have qaC_0 : ((wa8.alloc (.cells #[.bool nx1, .string sx1, .string tx1] 26)).alloc (.cells #[.bool false, .string ⟨#[]⟩, .string ⟨#[]⟩] 26)).cell? ⟨g2, 0, none⟩ = some (.bool nx1) := ((o_a.alloc (.cells #[.bool nx1, .string sx1, .string tx1] 26)).alloc (.cells #[.bool false, .string ⟨#[]⟩, .string ⟨#[]⟩] 26)).cell 0
  have qaC_1 : ((wa8.alloc (.cells #[.bool nx1, .string sx1, .string tx1] 26)).alloc (.cells #[.bool false, .string ⟨#[]⟩, .string ⟨#[]⟩] 26)).cell? ⟨g2, 1, none⟩ = some (.string sx1) := ((o_a.alloc (.cells #[.bool nx1, .string sx1, .string tx1] 26)).alloc (.cells #[.bool false, .string ⟨#[]⟩, .string ⟨#[]⟩] 26)).cell 1
  have qaC_2 : ((wa8.alloc (.cells #[.bool nx1, .string sx1, .string tx1] 26)).alloc (.cells #[.bool false, .string ⟨#[]⟩, .string ⟨#[]⟩] 26)).cell? ⟨g2, 2, none⟩ = some (.string tx1) := ((o_a.alloc (.cells #[.bool nx1, .string sx1, .string tx1] 26)).alloc (.cells #[.bool false, .string ⟨#[]⟩, .string ⟨#[]⟩] 26)).cell 2
  have qaC_3 : ((wa8.alloc (.cells #[.bool nx1, .string sx1, .string tx1] 26)).alloc (.cells #[.bool false, .string ⟨#[]⟩, .string ⟨#[]⟩] 26)).cell? ⟨g2, 3, none⟩ = some (.bool ny1) := ((o_a.alloc (.cells #[.bool nx1, .string sx1, .string tx1] 26)).alloc (.cells #[.bool false, .string ⟨#[]⟩, .string ⟨#[]⟩] 26)).cell 3
  have qaC_4 : ((wa8.alloc (.cells #[.bool nx1, .string sx1, .string tx1] 26)).alloc (.cells #[.bool false, .string ⟨#[]⟩, .string ⟨#[]⟩] 26)).cell? ⟨g2, 4, none⟩ = some (.string sy1) := ((o_a.alloc (.cells #[.bool nx1, .string sx1, .string tx1] 26)).alloc (.cells #[.bool false, .string ⟨#[]⟩, .string ⟨#[]⟩] 26)).cell 4
  have qaC_5 : ((wa8.alloc (.cells #[.bool nx1, .string sx1, .string tx1] 26)).alloc (.cells #[.bool false, .string ⟨#[]⟩, .string ⟨#[]⟩] 26)).cell? ⟨g2, 5, none⟩ = some (.string ty1) := ((o_a.alloc (.cells #[.bool nx1, .string sx1, .string tx1] 26)).alloc (.cells #[.bool false, .string ⟨#[]⟩, .string ⟨#[]⟩] 26)).cell 5
  have qbC_0 : ((wa8.alloc (.cells #[.bool nx1, .string sx1, .string tx1] 26)).alloc (.cells #[.bool false, .string ⟨#[]⟩, .string ⟨#[]⟩] 26)).cell? ⟨g2 + 1, 0, none⟩ = some (.bool nx2) := ((o_b.alloc (.cells #[.bool nx1, .string sx1, .string tx1] 26)).alloc (.cells #[.bool false, .string ⟨#[]⟩, .string ⟨#[]⟩] 26)).cell 0
  have qbC_1 : ((wa8.alloc (.cells #[.bool nx1, .string sx1, .string tx1] 26)).alloc (.cells #[.bool false, .string ⟨#[]⟩, .string ⟨#[]⟩] 26)).cell? ⟨g2 + 1, 1, none⟩ = some (.string sx2) := ((o_b.alloc (.cells #[.bool nx1, .string sx1, .string tx1] 26)).alloc (.cells #[.bool false, .string ⟨#[]⟩, .string ⟨#[]⟩] 26)).cell 1
  have qbC_2 : ((wa8.alloc (.cells #[.bool nx1, .string sx1, .string tx1] 26)).alloc (.cells #[.bool false, .string ⟨#[]⟩, .string ⟨#[]⟩] 26)).cell? ⟨g2 + 1, 2, none⟩ = some (.string tx2) := ((o_b.alloc (.cells #[.bool nx1, .string sx1, .string tx1] 26)).alloc (.cells #[.bool false, .string ⟨#[]⟩, .string ⟨#[]⟩] 26)).cell 2
  have qbC_3 : ((wa8.alloc (.cells #[.bool nx1, .string sx1, .string tx1] 26)).alloc (.cells #[.bool false, .string ⟨#[]⟩, .string ⟨#[]⟩] 26)).cell? ⟨g2 + 1, 3, none⟩ = some (.bool ny2) := ((o_b.alloc (.cells #[.bool nx1, .string sx1, .string tx1] 26)).alloc (.cells #[.bool false, .string ⟨#[]⟩, .string ⟨#[]⟩] 26)).cell 3
  have qbC_4 : ((wa8.alloc (.cells #[.bool nx1, .string sx1, .string tx1] 26)).alloc (.cells #[.bool false, .string ⟨#[]⟩, .string ⟨#[]⟩] 26)).cell? ⟨g2 + 1, 4, none⟩ = some (.string sy2) := ((o_b.alloc (.cells #[.bool nx1, .string sx1, .string tx1] 26)).alloc (.cells #[.bool false, .string ⟨#[]⟩, .string ⟨#[]⟩] 26)).cell 4
  have qbC_5 : ((wa8.alloc (.cells #[.bool nx1, .string sx1, .string tx1] 26)).alloc (.cells #[.bool false, .string ⟨#[]⟩, .string ⟨#[]⟩] 26)).cell? ⟨g2 + 1, 5, none⟩ = some (.string ty2) := ((o_b.alloc (.cells #[.bool nx1, .string sx1, .string tx1] 26)).alloc (.cells #[.bool false, .string ⟨#[]⟩, .string ⟨#[]⟩] 26)).cell 5
  have qaD_0 : ((wa8.alloc (.cells #[.bool false, .string ⟨#[]⟩, .string ⟨#[]⟩] 26)).alloc (.cells #[.bool nx1, .string sx1, .string tx1] 26)).cell? ⟨g2, 0, none⟩ = some (.bool nx1) := ((o_a.alloc (.cells #[.bool false, .string ⟨#[]⟩, .string ⟨#[]⟩] 26)).alloc (.cells #[.bool nx1, .string sx1, .string tx1] 26)).cell 0
  have qaD_1 : ((wa8.alloc (.cells #[.bool false, .string ⟨#[]⟩, .string ⟨#[]⟩] 26)).alloc (.cells #[.bool nx1, .string sx1, .string tx1] 26)).cell? ⟨g2, 1, none⟩ = some (.string sx1) := ((o_a.alloc (.cells #[.bool false, .string ⟨#[]⟩, .string ⟨#[]⟩] 26)).alloc (.cells #[.bool nx1, .string sx1, .string tx1] 26)).cell 1
  have qaD_2 : ((wa8.alloc (.cells #[.bool false, .string ⟨#[]⟩, .string ⟨#[]⟩] 26)).alloc (.cells #[.bool nx1, .string sx1, .string tx1] 26)).cell? ⟨g2, 2, none⟩ = some (.string tx1) := ((o_a.alloc (.cells #[.bool false, .string ⟨#[]⟩, .string ⟨#[]⟩] 26)).alloc (.cells #[.bool nx1, .string sx1, .string tx1] 26)).cell 2
  have qaD_3 : ((wa8.alloc (.cells #[.bool false, .string ⟨#[]⟩, .string ⟨#[]⟩] 26)).alloc (.cells #[.bool nx1, .string sx1, .string tx1] 26)).cell? ⟨g2, 3, none⟩ = some (.bool ny1) := ((o_a.alloc (.cells #[.bool false, .string ⟨#[]⟩, .string ⟨#[]⟩] 26)).alloc (.cells #[.bool nx1, .string sx1, .string tx1] 26)).cell 3
  have qaD_4 : ((wa8.alloc (.cells #[.bool false, .string ⟨#[]⟩, .string ⟨#[]⟩] 26)).alloc (.cells #[.bool nx1, .string sx1, .string tx1] 26)).cell? ⟨g2, 4, none⟩ = some (.string sy1) := ((o_a.alloc (.cells #[.bool false, .string ⟨#[]⟩, .string ⟨#[]⟩] 26)).alloc (.cells #[.bool nx1, .string sx1, .string tx1] 26)).cell 4
  have qaD_5 : ((wa8.alloc (.cells #[.bool false, .string ⟨#[]⟩, .string ⟨#[]⟩] 26)).alloc (.cells #[.bool nx1, .string sx1, .string tx1] 26)).cell? ⟨g2, 5, none⟩ = some (.string ty1) := ((o_a.alloc (.cells #[.bool false, .string ⟨#[]⟩, .string ⟨#[]⟩] 26)).alloc (.cells #[.bool nx1, .string sx1, .string tx1] 26)).cell 5
  have qbD_0 : ((wa8.alloc (.cells #[.bool false, .string ⟨#[]⟩, .string ⟨#[]⟩] 26)).alloc (.cells #[.bool nx1, .string sx1, .string tx1] 26)).cell? ⟨g2 + 1, 0, none⟩ = some (.bool nx2) := ((o_b.alloc (.cells #[.bool false, .string ⟨#[]⟩, .string ⟨#[]⟩] 26)).alloc (.cells #[.bool nx1, .string sx1, .string tx1] 26)).cell 0
  have qbD_1 : ((wa8.alloc (.cells #[.bool false, .string ⟨#[]⟩, .string ⟨#[]⟩] 26)).alloc (.cells #[.bool nx1, .string sx1, .string tx1] 26)).cell? ⟨g2 + 1, 1, none⟩ = some (.string sx2) := ((o_b.alloc (.cells #[.bool false, .string ⟨#[]⟩, .string ⟨#[]⟩] 26)).alloc (.cells #[.bool nx1, .string sx1, .string tx1] 26)).cell 1
  have qbD_2 : ((wa8.alloc (.cells #[.bool false, .string ⟨#[]⟩, .string ⟨#[]⟩] 26)).alloc (.cells #[.bool nx1, .string sx1, .string tx1] 26)).cell? ⟨g2 + 1, 2, none⟩ = some (.string tx2) := ((o_b.alloc (.cells #[.bool false, .string ⟨#[]⟩, .string ⟨#[]⟩] 26)).alloc (.cells #[.bool nx1, .string sx1, .string tx1] 26)).cell 2
  have qbD_3 : ((wa8.alloc (.cells #[.bool false, .string ⟨#[]⟩, .string ⟨#[]⟩] 26)).alloc (.cells #[.bool nx1, .string sx1, .string tx1] 26)).cell? ⟨g2 + 1, 3, none⟩ = some (.bool ny2) := ((o_b.alloc (.cells #[.bool false, .string ⟨#[]⟩, .string ⟨#[]⟩] 26)).alloc (.cells #[.bool nx1, .string sx1, .string tx1] 26)).cell 3
  have qbD_4 : ((wa8.alloc (.cells #[.bool false, .string ⟨#[]⟩, .string ⟨#[]⟩] 26)).alloc (.cells #[.bool nx1, .string sx1, .string tx1] 26)).cell? ⟨g2 + 1, 4, none⟩ = some (.string sy2) := ((o_b.alloc (.cells #[.bool false, .string ⟨#[]⟩, .string ⟨#[]⟩] 26)).alloc (.cells #[.bool nx1, .string sx1, .string tx1] 26)).cell 4
  have qbD_5 : ((wa8.alloc (.cells #[.bool false, .string ⟨#[]⟩, .string ⟨#[]⟩] 26)).alloc (.cells #[.bool nx1, .string sx1, .string tx1] 26)).cell? ⟨g2 + 1, 5, none⟩ = some (.string ty2) := ((o_b.alloc (.cells #[.bool false, .string ⟨#[]⟩, .string ⟨#[]⟩] 26)).alloc (.cells #[.bool nx1, .string sx1, .string tx1] 26)).cell 5
  go_cut [13, 14] (fun s13 s14 wx => ∃ gu gv, s13 = .pointer (some ⟨gu, 0, none⟩) ∧ s14 = .pointer (some ⟨gv, 0, none⟩) ∧ Hid (wa8.heap.size ≤ gu ∧ wa8.heap.size ≤ gv ∧ gu ≠ gv) ∧ Own wx gu 26 [.bool nx1, .string sx1, .string tx1] ∧ Own wx gv 26 [.bool ny2, .string sy2, .string ty2] ∧ Own wx (g2) 37 [.bool nx1, .string sx1, .string tx1, .bool ny1, .string sy1, .string ty1] ∧ Own wx (g2 + 1) 37 [.bool nx2, .string sx2, .string tx2, .bool ny2, .string sy2, .string ty2] ∧ Own wx (g2 + 1 + 1) 26 [.bool ns, .string ss, .string ts] ∧ Own wx (g5) 37 [.bool na, .string sa, .string ta, .bool nb, .string sb, .string tb] ∧ Own wx (g8) 37 [.bool nc, .string sc, .string tc, .bool nd, .string sd, .string td] ∧ Below w.heap.size w wx)
  case first =>
    go_region
    all_goals (go_wp2_with fail; go_meet)
    · have N := new2 wa8 [.bool nx1, .string sx1, .string tx1] [.bool ny2, .string sy2, .string ty2] 26 26
      exact ⟨_, _, rfl, rfl, Lib.hid ⟨Nat.le_refl _, by omega, by omega⟩, N.1, N.2.1, (o_a.alloc _).alloc _, (o_b.alloc _).alloc _, (o_x.alloc _).alloc _, (o_s.alloc _).alloc _, (o_p.alloc _).alloc _, Below.drew_ (below6 hbw N.2.2)⟩
    · have N := new2 wa8 [.bool ny2, .string sy2, .string ty2] [.bool nx1, .string sx1, .string tx1] 26 26
      exact ⟨_, _, rfl, rfl, Lib.hid ⟨by omega, Nat.le_refl _, by omega⟩, N.2.1, N.1, (o_a.alloc _).alloc _, (o_b.alloc _).alloc _, (o_x.alloc _).alloc _, (o_s.alloc _).alloc _, (o_p.alloc _).alloc _, Below.drew_ (below6 hbw N.2.2)⟩
  case rest =>
    clear qa_0 qa_1 qa_2 qa_3 qa_4 qa_5 qb_0 qb_1 qb_2 qb_3 qb_4 qb_5 qaA_0 qaA_1 qaA_2 qaA_3 qaA_4 qaA_5 qbA_0 qbA_1 qbA_2 qbA_3 qbA_4 qbA_5 qaB_0 qaB_1 qaB_2 qaB_3 qaB_4 qaB_5 qbB_0 qbB_1 qbB_2 qbB_3 qbB_4 qbB_5 qaC_0 qaC_1 qaC_2 qaC_3 qaC_4 qaC_5 qbC_0 qbC_1 qbC_2 qbC_3 qbC_4 qbC_5 qaD_0 qaD_1 qaD_2 qaD_3 qaD_4 qaD_5 qbD_0 qbD_1 qbD_2 qbD_3 qbD_4 qbD_5 o_a o_b o_x o_s o_p hbw
    obtain ⟨gu, gv, rfl, rfl, HG, o_u, o_v, o_a, o_b, o_x, o_s, o_p, hbw⟩ := hcut
    go_wp2_with fail
    refine (HN2.out _ hbw).mono ?_
    rintro e w6 ⟨rfl, ⟨l2, hT2⟩, hb6⟩
    go_wp2_with fail
    refine (next_any wc.heap.size B l2 d 0 2 w6 hT2 (by decide) (by decide)).mono ?_
    rintro e w7 ⟨r, at', rfl, hr, -, hc7⟩
    have hb7 := below6b hb6 (hc7.below (B := wc.heap.size) (fun k hk e => by omega) hb6.size)
    clear hT2 hc7 hb6
    replace o_a := o_a.below hb7 o_a.lt
    replace o_b := o_b.below hb7 o_b.lt
    replace o_x := o_x.below hb7 o_x.lt
    replace o_s := o_s.below hb7 o_s.lt
    replace o_p := o_p.below hb7 o_p.lt
    replace o_u := o_u.below hb7 o_u.lt
    replace o_v := o_v.below hb7 o_v.lt
    replace hbw := below6 hbw hb7
    clear hb7 HN2
    have hr2 : r = 0 ∨ r = 1 := by omega
    clear hr
    rcases hr2 with rfl | rfl
    ·
      obtain ⟨u, v, q, r, -, hf, g1, g2, g3, g4⟩ := HCH.out false
      obtain ⟨hu, hv⟩ := hf rfl
      obtain ⟨nq, sq, tq, eq⟩ := rv_open' q
      obtain ⟨nr, sr, tr, er⟩ := rv_open' r
      rw [hu, hv, e1, e5, eq] at g1
      rw [hu, e1, e13, er] at g2
      rw [e9, eq] at g3
      rw [e12, er] at g4
      have HA1 := Lib.hid g1
      have HM1 := Lib.hid g2
      have HK1 := Lib.hid g3
      have HK2 := Lib.hid g4
      clear g1 g2 g3 g4 hu hv hf eq er e1 e2 e3 e4 e5 e6 e7 e8 e9 e10 e11 e12 e13 HCH
      have qu_0 : w7.cell? ⟨gu, 0, none⟩ = some (.bool nx1) := o_u.cell 0
      have qu_1 : w7.cell? ⟨gu, 1, none⟩ = some (.string sx1) := o_u.cell 1
      have qu_2 : w7.cell? ⟨gu, 2, none⟩ = some (.string tx1) := o_u.cell 2
      have qv_0 : w7.cell? ⟨gv, 0, none⟩ = some (.bool ny2) := o_v.cell 0
      have qv_1 : w7.cell? ⟨gv, 1, none⟩ = some (.string sy2) := o_v.cell 1
      have qv_2 : w7.cell? ⟨gv, 2, none⟩ = some (.string ty2) := o_v.cell 2
      go_wp2_with fail
      clear qu_0 qu_1 qu_2 qv_0 qv_1 qv_2
      refine (HA1.out _).mono ?_
      rintro e w9 ⟨rfl, hb9⟩
      replace o_a := o_a.below hb9 o_a.lt
      replace o_b := o_b.below hb9 o_b.lt
      replace o_x := o_x.below hb9 o_x.lt
      replace o_s := o_s.below hb9 o_s.lt
      replace o_p := o_p.below hb9 o_p.lt
      replace o_u := o_u.below hb9 o_u.lt
      replace o_v := o_v.below hb9 o_v.lt
      replace hbw := below6 hbw hb9
      clear hb9
      obtain ⟨o_m, hz10⟩ := new1 w9 [.bool nq, .string sq, .string tq] 26
      replace o_a := o_a.alloc (.cells #[.bool nq, .string sq, .string tq] 26)
      replace o_b := o_b.alloc (.cells #[.bool nq, .string sq, .string tq] 26)
      replace o_x := o_x.alloc (.cells #[.bool nq, .string sq, .string tq] 26)
      replace o_s := o_s.alloc (.cells #[.bool nq, .string sq, .string tq] 26)
      replace o_p := o_p.alloc (.cells #[.bool nq, .string sq, .string tq] 26)
      replace o_u := o_u.alloc (.cells #[.bool nq, .string sq, .string tq] 26)
      replace o_v := o_v.alloc (.cells #[.bool nq, .string sq, .string tq] 26)
      replace hbw := below6 hbw hz10
      clear hz10
      have qu_0 : (w9.alloc (.cells #[.bool nq, .string sq, .string tq] 26)).cell? ⟨gu, 0, none⟩ = some (.bool nx1) := o_u.cell 0
      have qu_1 : (w9.alloc (.cells #[.bool nq, .string sq, .string tq] 26)).cell? ⟨gu, 1, none⟩ = some (.string sx1) := o_u.cell 1
      have qu_2 : (w9.alloc (.cells #[.bool nq, .string sq, .string tq] 26)).cell? ⟨gu, 2, none⟩ = some (.string tx1) := o_u.cell 2
      have qx_0 : (w9.alloc (.cells #[.bool nq, .string sq, .string tq] 26)).cell? ⟨g2 + 1 + 1, 0, none⟩ = some (.bool ns) := o_x.cell 0
      have qx_1 : (w9.alloc (.cells #[.bool nq, .string sq, .string tq] 26)).cell? ⟨g2 + 1 + 1, 1, none⟩ = some (.string ss) := o_x.cell 1
      have qx_2 : (w9.alloc (.cells #[.bool nq, .string sq, .string tq] 26)).cell? ⟨g2 + 1 + 1, 2, none⟩ = some (.string ts) := o_x.cell 2
      go_wp2_with fail
      generalize (w9.alloc (.cells #[.bool nq, .string sq, .string tq] 26)) = wa11 at o_a o_b o_x o_s o_p o_u o_v o_m hbw ⊢
      generalize w9.heap.size = g11 at o_m ⊢
      clear qu_0 qu_1 qu_2 qx_0 qx_1 qx_2
      refine (HM1.out _).mono ?_
      rintro e w12 ⟨rfl, hb12⟩
      replace o_a := o_a.below hb12 o_a.lt
      replace o_b := o_b.below hb12 o_b.lt
      replace o_x := o_x.below hb12 o_x.lt
      replace o_s := o_s.below hb12 o_s.lt
      replace o_p := o_p.below hb12 o_p.lt
      replace o_u := o_u.below hb12 o_u.lt
      replace o_v := o_v.below hb12 o_v.lt
      replace o_m := o_m.below hb12 o_m.lt
      replace hbw := below6 hbw hb12
      clear hb12
      obtain ⟨o_t, hz13⟩ := new1 w12 [.bool nr, .string sr, .string tr] 26
      replace o_a := o_a.alloc (.cells #[.bool nr, .string sr, .string tr] 26)
      replace o_b := o_b.alloc (.cells #[.bool nr, .string sr, .string tr] 26)
      replace o_x := o_x.alloc (.cells #[.bool nr, .string sr, .string tr] 26)
      replace o_s := o_s.alloc (.cells #[.bool nr, .string sr, .string tr] 26)
      replace o_p := o_p.alloc (.cells #[.bool nr, .string sr, .string tr] 26)
      replace o_u := o_u.alloc (.cells #[.bool nr, .string sr, .string tr] 26)
      replace o_v := o_v.alloc (.cells #[.bool nr, .string sr, .string tr] 26)
      replace o_m := o_m.alloc (.cells #[.bool nr, .string sr, .string tr] 26)
      replace hbw := below6 hbw hz13
      clear hz13
      have qs_0 : (w12.alloc (.cells #[.bool nr, .string sr, .string tr] 26)).cell? ⟨g5, 0, none⟩ = some (.bool na) := o_s.cell 0
      have qs_1 : (w12.alloc (.cells #[.bool nr, .string sr, .string tr] 26)).cell? ⟨g5, 1, none⟩ = some (.string sa) := o_s.cell 1
      have qs_2 : (w12.alloc (.cells #[.bool nr, .string sr, .string tr] 26)).cell? ⟨g5, 2, none⟩ = some (.string ta) := o_s.cell 2
      have qs_3 : (w12.alloc (.cells #[.bool nr, .string sr, .string tr] 26)).cell? ⟨g5, 3, none⟩ = some (.bool nb) := o_s.cell 3
      have qs_4 : (w12.alloc (.cells #[.bool nr, .string sr, .string tr] 26)).cell? ⟨g5, 4, none⟩ = some (.string sb) := o_s.cell 4
      have qs_5 : (w12.alloc (.cells #[.bool nr, .string sr, .string tr] 26)).cell? ⟨g5, 5, none⟩ = some (.string tb) := o_s.cell 5
      have qm_0 : (w12.alloc (.cells #[.bool nr, .string sr, .string tr] 26)).cell? ⟨g11, 0, none⟩ = some (.bool nq) := o_m.cell 0
      have qm_1 : (w12.alloc (.cells #[.bool nr, .string sr, .string tr] 26)).cell? ⟨g11, 1, none⟩ = some (.string sq) := o_m.cell 1
      have qm_2 : (w12.alloc (.cells #[.bool nr, .string sr, .string tr] 26)).cell? ⟨g11, 2, none⟩ = some (.string tq) := o_m.cell 2
      go_wp2_with fail
      generalize (w12.alloc (.cells #[.bool nr, .string sr, .string tr] 26)) = wa14 at o_a o_b o_x o_s o_p o_u o_v o_m o_t hbw ⊢
      generalize w12.heap.size = g14 at o_t ⊢
      clear qs_0 qs_1 qs_2 qs_3 qs_4 qs_5 qm_0 qm_1 qm_2
      refine (HK1.out _).mono ?_
      rintro e w15 ⟨rfl, hb15⟩
      replace o_a := o_a.below hb15 o_a.lt
      replace o_b := o_b.below hb15 o_b.lt
      replace o_x := o_x.below hb15 o_x.lt
      replace o_s := o_s.below hb15 o_s.lt
      replace o_p := o_p.below hb15 o_p.lt
      replace o_u := o_u.below hb15 o_u.lt
      replace o_v := o_v.below hb15 o_v.lt
      replace o_m := o_m.below hb15 o_m.lt
      replace o_t := o_t.below hb15 o_t.lt
      replace hbw := below6 hbw hb15
      clear hb15
      have qp_0 : w15.cell? ⟨g8, 0, none⟩ = some (.bool nc) := o_p.cell 0
      have qp_1 : w15.cell? ⟨g8, 1, none⟩ = some (.string sc) := o_p.cell 1
      have qp_2 : w15.cell? ⟨g8, 2, none⟩ = some (.string tc) := o_p.cell 2
      have qp_3 : w15.cell? ⟨g8, 3, none⟩ = some (.bool nd) := o_p.cell 3
      have qp_4 : w15.cell? ⟨g8, 4, none⟩ = some (.string sd) := o_p.cell 4
      have qp_5 : w15.cell? ⟨g8, 5, none⟩ = some (.string td) := o_p.cell 5
      have qt_0 : w15.cell? ⟨g14, 0, none⟩ = some (.bool nr) := o_t.cell 0
      have qt_1 : w15.cell? ⟨g14, 1, none⟩ = some (.string sr) := o_t.cell 1
      have qt_2 : w15.cell? ⟨g14, 2, none⟩ = some (.string tr) := o_t.cell 2
      go_wp2_with fail
      clear qp_0 qp_1 qp_2 qp_3 qp_4 qp_5 qt_0 qt_1 qt_2
      refine (HK2.out _).mono ?_
      rintro e w16 ⟨rfl, hb16⟩
      replace o_a := o_a.below hb16 o_a.lt
      replace o_b := o_b.below hb16 o_b.lt
      replace o_x := o_x.below hb16 o_x.lt
      replace o_s := o_s.below hb16 o_s.lt
      replace o_p := o_p.below hb16 o_p.lt
      replace o_u := o_u.below hb16 o_u.lt
      replace o_v := o_v.below hb16 o_v.lt
      replace o_m := o_m.below hb16 o_m.lt
      replace o_t := o_t.below hb16 o_t.lt
      replace hbw := below6 hbw hb16
      clear hb16
      have qs_0 : w16.cell? ⟨g5, 0, none⟩ = some (.bool na) := o_s.cell 0
      have qs_1 : w16.cell? ⟨g5, 1, none⟩ = some (.string sa) := o_s.cell 1
      have qs_2 : w16.cell? ⟨g5, 2, none⟩ = some (.string ta) := o_s.cell 2
      have qs_3 : w16.cell? ⟨g5, 3, none⟩ = some (.bool nb) := o_s.cell 3
      have qs_4 : w16.cell? ⟨g5, 4, none⟩ = some (.string sb) := o_s.cell 4
      have qs_5 : w16.cell? ⟨g5, 5, none⟩ = some (.string tb) := o_s.cell 5
      go_wp2_with fail
      clear qs_0 qs_1 qs_2 qs_3 qs_4 qs_5
      refine (HV1.out _).mono ?_
      rintro e w17 ⟨rfl, hb17⟩
      replace o_a := o_a.below hb17 o_a.lt
      replace o_b := o_b.below hb17 o_b.lt
      replace o_x := o_x.below hb17 o_x.lt
      replace o_s := o_s.below hb17 o_s.lt
      replace o_p := o_p.below hb17 o_p.lt
      replace o_u := o_u.below hb17 o_u.lt
      replace o_v := o_v.below hb17 o_v.lt
      replace o_m := o_m.below hb17 o_m.lt
      replace o_t := o_t.below hb17 o_t.lt
      replace hbw := below6 hbw hb17
      clear hb17
      have qp_0 : w17.cell? ⟨g8, 0, none⟩ = some (.bool nc) := o_p.cell 0
      have qp_1 : w17.cell? ⟨g8, 1, none⟩ = some (.string sc) := o_p.cell 1
      have qp_2 : w17.cell? ⟨g8, 2, none⟩ = some (.string tc) := o_p.cell 2
      have qp_3 : w17.cell? ⟨g8, 3, none⟩ = some (.bool nd) := o_p.cell 3
      have qp_4 : w17.cell? ⟨g8, 4, none⟩ = some (.string sd) := o_p.cell 4
      have qp_5 : w17.cell? ⟨g8, 5, none⟩ = some (.string td) := o_p.cell 5
      go_wp2_with fail
      clear qp_0 qp_1 qp_2 qp_3 qp_4 qp_5
      refine (HV2.out _).mono ?_
      rintro e w18 ⟨rfl, hb18⟩
      replace o_a := o_a.below hb18 o_a.lt
      replace o_b := o_b.below hb18 o_b.lt
      replace o_x := o_x.below hb18 o_x.lt
      replace o_s := o_s.below hb18 o_s.lt
      replace o_p := o_p.below hb18 o_p.lt
      replace o_u := o_u.below hb18 o_u.lt
      replace o_v := o_v.below hb18 o_v.lt
      replace o_m := o_m.below hb18 o_m.lt
      replace o_t := o_t.below hb18 o_t.lt
      replace hbw := below6 hbw hb18
      clear hb18
      go_wp2_with fail
      refine (known37 _).mono ?_
      rintro e w9 ⟨rfl, hb9⟩
      go_wp2
      go_ret
      exact ⟨rfl, below6 hbw hb9⟩
    ·
      have du_a : g2 ≠ gu := by
        have h1 : g2 < wa8.heap.size := lt_a.out
        obtain ⟨h2, h3, h4⟩ := HG.out
        omega
      have dv_a : g2 ≠ gv := by
        have h1 : g2 < wa8.heap.size := lt_a.out
        obtain ⟨h2, h3, h4⟩ := HG.out
        omega
      have du_b : g2 + 1 ≠ gu := by
        have h1 : g2 + 1 < wa8.heap.size := lt_b.out
        obtain ⟨h2, h3, h4⟩ := HG.out
        omega
      have dv_b : g2 + 1 ≠ gv := by
        have h1 : g2 + 1 < wa8.heap.size := lt_b.out
        obtain ⟨h2, h3, h4⟩ := HG.out
        omega
      have du_x : g2 + 1 + 1 ≠ gu := by
        have h1 : g2 + 1 + 1 < wa8.heap.size := lt_x.out
        obtain ⟨h2, h3, h4⟩ := HG.out
        omega
      have dv_x : g2 + 1 + 1 ≠ gv := by
        have h1 : g2 + 1 + 1 < wa8.heap.size := lt_x.out
        obtain ⟨h2, h3, h4⟩ := HG.out
        omega
      have du_s : g5 ≠ gu := by
        have h1 : g5 < wa8.heap.size := lt_s.out
        obtain ⟨h2, h3, h4⟩ := HG.out
        omega
      have dv_s : g5 ≠ gv := by
        have h1 : g5 < wa8.heap.size := lt_s.out
        obtain ⟨h2, h3, h4⟩ := HG.out
        omega
      have du_p : g8 ≠ gu := by
        have h1 : g8 < wa8.heap.size := lt_p.out
        obtain ⟨h2, h3, h4⟩ := HG.out
        omega
      have dv_p : g8 ≠ gv := by
        have h1 : g8 < wa8.heap.size := lt_p.out
        obtain ⟨h2, h3, h4⟩ := HG.out
        omega
      have duv : gu ≠ gv := HG.out.2.2
      have dvu : gv ≠ gu := fun e => duv e.symm
      have zu : w.heap.size ≤ gu := by
        have h1 : w.heap.size ≤ wa8.heap.size := HW5.out
        obtain ⟨h2, h3, h4⟩ := HG.out
        omega
      have zv : w.heap.size ≤ gv := by
        have h1 : w.heap.size ≤ wa8.heap.size := HW5.out
        obtain ⟨h2, h3, h4⟩ := HG.out
        omega
      have o1_a := o_a.far3 (b := gu) du_a (.bool ny1) (.string sy1) (.string ty1)
      have o2_a := o1_a.far3 (b := gv) dv_a (.bool nx2) (.string sx2) (.string tx2)
      have o1_b := o_b.far3 (b := gu) du_b (.bool ny1) (.string sy1) (.string ty1)
      have o2_b := o1_b.far3 (b := gv) dv_b (.bool nx2) (.string sx2) (.string tx2)
      have o1_x := o_x.far3 (b := gu) du_x (.bool ny1) (.string sy1) (.string ty1)
      have o2_x := o1_x.far3 (b := gv) dv_x (.bool nx2) (.string sx2) (.string tx2)
      have o1_s := o_s.far3 (b := gu) du_s (.bool ny1) (.string sy1) (.string ty1)
      have o2_s := o1_s.far3 (b := gv) dv_s (.bool nx2) (.string sx2) (.string tx2)
      have o1_p := o_p.far3 (b := gu) du_p (.bool ny1) (.string sy1) (.string ty1)
      have o2_p := o1_p.far3 (b := gv) dv_p (.bool nx2) (.string sx2) (.string tx2)
      have o1_v := o_v.far3 (b := gu) dvu (.bool ny1) (.string sy1) (.string ty1)
      have o2_v := o1_v.set3 (.bool nx2) (.string sx2) (.string tx2)
      have o1_u := o_u.set3 (.bool ny1) (.string sy1) (.string ty1)
      have o2_u := o1_u.far3 (b := gv) duv (.bool nx2) (.string sx2) (.string tx2)
      replace o2_a := o2_a.drew_
      replace o2_b := o2_b.drew_
      replace o2_x := o2_x.drew_
      replace o2_s := o2_s.drew_
      replace o2_p := o2_p.drew_
      replace o2_u := o2_u.drew_
      replace o2_v := o2_v.drew_
      have hbw2 := Below.drew_ (Below.set3 (Below.set3 hbw zu (.bool ny1) (.string sy1) (.string ty1)) zv (.bool nx2) (.string sx2) (.string tx2))
      have qoa_0 : w7.cell? ⟨g2, 0, none⟩ = some (.bool nx1) := o_a.cell 0
      have qoa_1 : w7.cell? ⟨g2, 1, none⟩ = some (.string sx1) := o_a.cell 1
      have qoa_2 : w7.cell? ⟨g2, 2, none⟩ = some (.string tx1) := o_a.cell 2
      have qoa_3 : w7.cell? ⟨g2, 3, none⟩ = some (.bool ny1) := o_a.cell 3
      have qoa_4 : w7.cell? ⟨g2, 4, none⟩ = some (.string sy1) := o_a.cell 4
      have qoa_5 : w7.cell? ⟨g2, 5, none⟩ = some (.string ty1) := o_a.cell 5
      have qob_0 : w7.cell? ⟨g2 + 1, 0, none⟩ = some (.bool nx2) := o_b.cell 0
      have qob_1 : w7.cell? ⟨g2 + 1, 1, none⟩ = some (.string sx2) := o_b.cell 1
      have qob_2 : w7.cell? ⟨g2 + 1, 2, none⟩ = some (.string tx2) := o_b.cell 2
      have qob_3 : w7.cell? ⟨g2 + 1, 3, none⟩ = some (.bool ny2) := o_b.cell 3
      have qob_4 : w7.cell? ⟨g2 + 1, 4, none⟩ = some (.string sy2) := o_b.cell 4
      have qob_5 : w7.cell? ⟨g2 + 1, 5, none⟩ = some (.string ty2) := o_b.cell 5
      have qo1a_0 : (((w7.setCell ⟨gu, 0, none⟩ (.bool ny1)).setCell ⟨gu, 1, none⟩ (.string sy1)).setCell ⟨gu, 2, none⟩ (.string ty1)).cell? ⟨g2, 0, none⟩ = some (.bool nx1) := o1_a.cell 0
      have qo1a_1 : (((w7.setCell ⟨gu, 0, none⟩ (.bool ny1)).setCell ⟨gu, 1, none⟩ (.string sy1)).setCell ⟨gu, 2, none⟩ (.string ty1)).cell? ⟨g2, 1, none⟩ = some (.string sx1) := o1_a.cell 1
      have qo1a_2 : (((w7.setCell ⟨gu, 0, none⟩ (.bool ny1)).setCell ⟨gu, 1, none⟩ (.string sy1)).setCell ⟨gu, 2, none⟩ (.string ty1)).cell? ⟨g2, 2, none⟩ = some (.string tx1) := o1_a.cell 2
      have qo1a_3 : (((w7.setCell ⟨gu, 0, none⟩ (.bool ny1)).setCell ⟨gu, 1, none⟩ (.string sy1)).setCell ⟨gu, 2, none⟩ (.string ty1)).cell? ⟨g2, 3, none⟩ = some (.bool ny1) := o1_a.cell 3
      have qo1a_4 : (((w7.setCell ⟨gu, 0, none⟩ (.bool ny1)).setCell ⟨gu, 1, none⟩ (.string sy1)).setCell ⟨gu, 2, none⟩ (.string ty1)).cell? ⟨g2, 4, none⟩ = some (.string sy1) := o1_a.cell 4
      have qo1a_5 : (((w7.setCell ⟨gu, 0, none⟩ (.bool ny1)).setCell ⟨gu, 1, none⟩ (.string sy1)).setCell ⟨gu, 2, none⟩ (.string ty1)).cell? ⟨g2, 5, none⟩ = some (.string ty1) := o1_a.cell 5
      have qo1b_0 : (((w7.setCell ⟨gu, 0, none⟩ (.bool ny1)).setCell ⟨gu, 1, none⟩ (.string sy1)).setCell ⟨gu, 2, none⟩ (.string ty1)).cell? ⟨g2 + 1, 0, none⟩ = some (.bool nx2) := o1_b.cell 0
      have qo1b_1 : (((w7.setCell ⟨gu, 0, none⟩ (.bool ny1)).setCell ⟨gu, 1, none⟩ (.string sy1)).setCell ⟨gu, 2, none⟩ (.string ty1)).cell? ⟨g2 + 1, 1, none⟩ = some (.string sx2) := o1_b.cell 1
      have qo1b_2 : (((w7.setCell ⟨gu, 0, none⟩ (.bool ny1)).setCell ⟨gu, 1, none⟩ (.string sy1)).setCell ⟨gu, 2, none⟩ (.string ty1)).cell? ⟨g2 + 1, 2, none⟩ = some (.string tx2) := o1_b.cell 2
      have qo1b_3 : (((w7.setCell ⟨gu, 0, none⟩ (.bool ny1)).setCell ⟨gu, 1, none⟩ (.string sy1)).setCell ⟨gu, 2, none⟩ (.string ty1)).cell? ⟨g2 + 1, 3, none⟩ = some (.bool ny2) := o1_b.cell 3
      have qo1b_4 : (((w7.setCell ⟨gu, 0, none⟩ (.bool ny1)).setCell ⟨gu, 1, none⟩ (.string sy1)).setCell ⟨gu, 2, none⟩ (.string ty1)).cell? ⟨g2 + 1, 4, none⟩ = some (.string sy2) := o1_b.cell 4
      have qo1b_5 : (((w7.setCell ⟨gu, 0, none⟩ (.bool ny1)).setCell ⟨gu, 1, none⟩ (.string sy1)).setCell ⟨gu, 2, none⟩ (.string ty1)).cell? ⟨g2 + 1, 5, none⟩ = some (.string ty2) := o1_b.cell 5
      have qou_0 : w7.cell? ⟨gu, 0, none⟩ = some (.bool nx1) := o_u.cell 0
      have fou_0 := o_u.frozen 0
      have qou_1 : w7.cell? ⟨gu, 1, none⟩ = some (.string sx1) := o_u.cell 1
      have fou_1 := o_u.frozen 1
      have qou_2 : w7.cell? ⟨gu, 2, none⟩ = some (.string tx1) := o_u.cell 2
      have fou_2 := o_u.frozen 2
      have qov_0 : w7.cell? ⟨gv, 0, none⟩ = some (.bool ny2) := o_v.cell 0
      have fov_0 := o_v.frozen 0
      have qov_1 : w7.cell? ⟨gv, 1, none⟩ = some (.string sy2) := o_v.cell 1
      have fov_1 := o_v.frozen 1
      have qov_2 : w7.cell? ⟨gv, 2, none⟩ = some (.string ty2) := o_v.cell 2
      have fov_2 := o_v.frozen 2
      have qo1v_0 : (((w7.setCell ⟨gu, 0, none⟩ (.bool ny1)).setCell ⟨gu, 1, none⟩ (.string sy1)).setCell ⟨gu, 2, none⟩ (.string ty1)).cell? ⟨gv, 0, none⟩ = some (.bool ny2) := o1_v.cell 0
      have fo1v_0 := o1_v.frozen 0
      have qo1v_1 : (((w7.setCell ⟨gu, 0, none⟩ (.bool ny1)).setCell ⟨gu, 1, none⟩ (.string sy1)).setCell ⟨gu, 2, none⟩ (.string ty1)).cell? ⟨gv, 1, none⟩ = some (.string sy2) := o1_v.cell 1
      have fo1v_1 := o1_v.frozen 1
      have qo1v_2 : (((w7.setCell ⟨gu, 0, none⟩ (.bool ny1)).setCell ⟨gu, 1, none⟩ (.string sy1)).setCell ⟨gu, 2, none⟩ (.string ty1)).cell? ⟨gv, 2, none⟩ = some (.string ty2) := o1_v.cell 2
      have fo1v_2 := o1_v.frozen 2
      clear o_a o_b o_x o_s o_p o_u o_v o1_a o1_b o1_x o1_s o1_p o1_u o1_v hbw
      go_upto_region 7 with (fail)
      go_region
      clear qoa_0 qoa_1 qoa_2 qoa_3 qoa_4 qoa_5 qob_0 qob_1 qob_2 qob_3 qob_4 qob_5 qo1a_0 qo1a_1 qo1a_2 qo1a_3 qo1a_4 qo1a_5 qo1b_0 qo1b_1 qo1b_2 qo1b_3 qo1b_4 qo1b_5 qou_0 fou_0 qou_1 fou_1 qou_2 fou_2 qov_0 fov_0 qov_1 fov_1 qov_2 fov_2 qo1v_0 fo1v_0 qo1v_1 fo1v_1 qo1v_2 fo1v_2
      generalize ((((((w7.setCell ⟨gu, 0, none⟩ (.bool ny1)).setCell ⟨gu, 1, none⟩ (.string sy1)).setCell ⟨gu, 2, none⟩ (.string ty1)).setCell ⟨gv, 0, none⟩ (.bool nx2)).setCell ⟨gv, 1, none⟩ (.string sx2)).setCell ⟨gv, 2, none⟩ (.string tx2)).drew = w8 at o2_a o2_b o2_x o2_s o2_p o2_u o2_v hbw2 ⊢
      have o_a := o2_a
      have o_b := o2_b
      have o_x := o2_x
      have o_s := o2_s
      have o_p := o2_p
      have o_u := o2_u
      have o_v := o2_v
      have hbw := hbw2
      clear o2_a o2_b o2_x o2_s o2_p o2_u o2_v hbw2
      obtain ⟨u, v, q, r, hf, -, g1, g2, g3, g4⟩ := HCH.out true
      obtain ⟨hu, hv⟩ := hf rfl
      obtain ⟨nq, sq, tq, eq⟩ := rv_open' q
      obtain ⟨nr, sr, tr, er⟩ := rv_open' r
      rw [hu, hv, e2, e4, eq] at g1
      rw [hu, e2, e13, er] at g2
      rw [e9, eq] at g3
      rw [e12, er] at g4
      have HA1 := Lib.hid g1
      have HM1 := Lib.hid g2
      have HK1 := Lib.hid g3
      have HK2 := Lib.hid g4
      clear g1 g2 g3 g4 hu hv hf eq er e1 e2 e3 e4 e5 e6 e7 e8 e9 e10 e11 e12 e13 HCH
      have qu_0 : w8.cell? ⟨gu, 0, none⟩ = some (.bool ny1) := o_u.cell 0
      have qu_1 : w8.cell? ⟨gu, 1, none⟩ = some (.string sy1) := o_u.cell 1
      have qu_2 : w8.cell? ⟨gu, 2, none⟩ = some (.string ty1) := o_u.cell 2
      have qv_0 : w8.cell? ⟨gv, 0, none⟩ = some (.bool nx2) := o_v.cell 0
      have qv_1 : w8.cell? ⟨gv, 1, none⟩ = some (.string sx2) := o_v.cell 1
      have qv_2 : w8.cell? ⟨gv, 2, none⟩ = some (.string tx2) := o_v.cell 2
      go_wp2_with fail
      clear qu_0 qu_1 qu_2 qv_0 qv_1 qv_2
      refine (HA1.out _).mono ?_
      rintro e w9 ⟨rfl, hb9⟩
      replace o_a := o_a.below hb9 o_a.lt
      replace o_b := o_b.below hb9 o_b.lt
      replace o_x := o_x.below hb9 o_x.lt
      replace o_s := o_s.below hb9 o_s.lt
      replace o_p := o_p.below hb9 o_p.lt
      replace o_u := o_u.below hb9 o_u.lt
      replace o_v := o_v.below hb9 o_v.lt
      replace hbw := below6 hbw hb9
      clear hb9
      obtain ⟨o_m, hz10⟩ := new1 w9 [.bool nq, .string sq, .string tq] 26
      replace o_a := o_a.alloc (.cells #[.bool nq, .string sq, .string tq] 26)
      replace o_b := o_b.alloc (.cells #[.bool nq, .string sq, .string tq] 26)
      replace o_x := o_x.alloc (.cells #[.bool nq, .string sq, .string tq] 26)
      replace o_s := o_s.alloc (.cells #[.bool nq, .string sq, .string tq] 26)
      replace o_p := o_p.alloc (.cells #[.bool nq, .string sq, .string tq] 26)
      replace o_u := o_u.alloc (.cells #[.bool nq, .string sq, .string tq] 26)
      replace o_v := o_v.alloc (.cells #[.bool nq, .string sq, .string tq] 26)
      replace hbw := below6 hbw hz10
      clear hz10
      have qu_0 : (w9.alloc (.cells #[.bool nq, .string sq, .string tq] 26)).cell? ⟨gu, 0, none⟩ = some (.bool ny1) := o_u.cell 0
      have qu_1 : (w9.alloc (.cells #[.bool nq, .string sq, .string tq] 26)).cell? ⟨gu, 1, none⟩ = some (.string sy1) := o_u.cell 1
      have qu_2 : (w9.alloc (.cells #[.bool nq, .string sq, .string tq] 26)).cell? ⟨gu, 2, none⟩ = some (.string ty1) := o_u.cell 2
      have qx_0 : (w9.alloc (.cells #[.bool nq, .string sq, .string tq] 26)).cell? ⟨g2 + 1 + 1, 0, none⟩ = some (.bool ns) := o_x.cell 0
      have qx_1 : (w9.alloc (.cells #[.bool nq, .string sq, .string tq] 26)).cell? ⟨g2 + 1 + 1, 1, none⟩ = some (.string ss) := o_x.cell 1
      have qx_2 : (w9.alloc (.cells #[.bool nq, .string sq, .string tq] 26)).cell? ⟨g2 + 1 + 1, 2, none⟩ = some (.string ts) := o_x.cell 2
      go_wp2_with fail
      generalize (w9.alloc (.cells #[.bool nq, .string sq, .string tq] 26)) = wa11 at o_a o_b o_x o_s o_p o_u o_v o_m hbw ⊢
      generalize w9.heap.size = g11 at o_m ⊢
      clear qu_0 qu_1 qu_2 qx_0 qx_1 qx_2
      refine (HM1.out _).mono ?_
      rintro e w12 ⟨rfl, hb12⟩
      replace o_a := o_a.below hb12 o_a.lt
      replace o_b := o_b.below hb12 o_b.lt
      replace o_x := o_x.below hb12 o_x.lt
      replace o_s := o_s.below hb12 o_s.lt
      replace o_p := o_p.below hb12 o_p.lt
      replace o_u := o_u.below hb12 o_u.lt
      replace o_v := o_v.below hb12 o_v.lt
      replace o_m := o_m.below hb12 o_m.lt
      replace hbw := below6 hbw hb12
      clear hb12
      obtain ⟨o_t, hz13⟩ := new1 w12 [.bool nr, .string sr, .string tr] 26
      replace o_a := o_a.alloc (.cells #[.bool nr, .string sr, .string tr] 26)
      replace o_b := o_b.alloc (.cells #[.bool nr, .string sr, .string tr] 26)
      replace o_x := o_x.alloc (.cells #[.bool nr, .string sr, .string tr] 26)
      replace o_s := o_s.alloc (.cells #[.bool nr, .string sr, .string tr] 26)
      replace o_p := o_p.alloc (.cells #[.bool nr, .string sr, .string tr] 26)
      replace o_u := o_u.alloc (.cells #[.bool nr, .string sr, .string tr] 26)
      replace o_v := o_v.alloc (.cells #[.bool nr, .string sr, .string tr] 26)
      replace o_m := o_m.alloc (.cells #[.bool nr, .string sr, .string tr] 26)
      replace hbw := below6 hbw hz13
      clear hz13
      have qs_0 : (w12.alloc (.cells #[.bool nr, .string sr, .string tr] 26)).cell? ⟨g5, 0, none⟩ = some (.bool na) := o_s.cell 0
      have qs_1 : (w12.alloc (.cells #[.bool nr, .string sr, .string tr] 26)).cell? ⟨g5, 1, none⟩ = some (.string sa) := o_s.cell 1
      have qs_2 : (w12.alloc (.cells #[.bool nr, .string sr, .string tr] 26)).cell? ⟨g5, 2, none⟩ = some (.string ta) := o_s.cell 2
      have qs_3 : (w12.alloc (.cells #[.bool nr, .string sr, .string tr] 26)).cell? ⟨g5, 3, none⟩ = some (.bool nb) := o_s.cell 3
      have qs_4 : (w12.alloc (.cells #[.bool nr, .string sr, .string tr] 26)).cell? ⟨g5, 4, none⟩ = some (.string sb) := o_s.cell 4
      have qs_5 : (w12.alloc (.cells #[.bool nr, .string sr, .string tr] 26)).cell? ⟨g5, 5, none⟩ = some (.string tb) := o_s.cell 5
      have qm_0 : (w12.alloc (.cells #[.bool nr, .string sr, .string tr] 26)).cell? ⟨g11, 0, none⟩ = some (.bool nq) := o_m.cell 0
      have qm_1 : (w12.alloc (.cells #[.bool nr, .string sr, .string tr] 26)).cell? ⟨g11, 1, none⟩ = some (.string sq) := o_m.cell 1
      have qm_2 : (w12.alloc (.cells #[.bool nr, .string sr, .string tr] 26)).cell? ⟨g11, 2, none⟩ = some (.string tq) := o_m.cell 2
      go_wp2_with fail
      generalize (w12.alloc (.cells #[.bool nr, .string sr, .string tr] 26)) = wa14 at o_a o_b o_x o_s o_p o_u o_v o_m o_t hbw ⊢
      generalize w12.heap.size = g14 at o_t ⊢
      clear qs_0 qs_1 qs_2 qs_3 qs_4 qs_5 qm_0 qm_1 qm_2
      refine (HK1.out _).mono ?_
      rintro e w15 ⟨rfl, hb15⟩
      replace o_a := o_a.below hb15 o_a.lt
      replace o_b := o_b.below hb15 o_b.lt
      replace o_x := o_x.below hb15 o_x.lt
      replace o_s := o_s.below hb15 o_s.lt
      replace o_p := o_p.below hb15 o_p.lt
      replace o_u := o_u.below hb15 o_u.lt
      replace o_v := o_v.below hb15 o_v.lt
      replace o_m := o_m.below hb15 o_m.lt
      replace o_t := o_t.below hb15 o_t.lt
      replace hbw := below6 hbw hb15
      clear hb15
      have qp_0 : w15.cell? ⟨g8, 0, none⟩ = some (.bool nc) := o_p.cell 0
      have qp_1 : w15.cell? ⟨g8, 1, none⟩ = some (.string sc) := o_p.cell 1
      have qp_2 : w15.cell? ⟨g8, 2, none⟩ = some (.string tc) := o_p.cell 2
      have qp_3 : w15.cell? ⟨g8, 3, none⟩ = some (.bool nd) := o_p.cell 3
      have qp_4 : w15.cell? ⟨g8, 4, none⟩ = some (.string sd) := o_p.cell 4
      have qp_5 : w15.cell? ⟨g8, 5, none⟩ = some (.string td) := o_p.cell 5
      have qt_0 : w15.cell? ⟨g14, 0, none⟩ = some (.bool nr) := o_t.cell 0
      have qt_1 : w15.cell? ⟨g14, 1, none⟩ = some (.string sr) := o_t.cell 1
      have qt_2 : w15.cell? ⟨g14, 2, none⟩ = some (.string tr) := o_t.cell 2
      go_wp2_with fail
      clear qp_0 qp_1 qp_2 qp_3 qp_4 qp_5 qt_0 qt_1 qt_2
      refine (HK2.out _).mono ?_
      rintro e w16 ⟨rfl, hb16⟩
      replace o_a := o_a.below hb16 o_a.lt
      replace o_b := o_b.below hb16 o_b.lt
      replace o_x := o_x.below hb16 o_x.lt
      replace o_s := o_s.below hb16 o_s.lt
      replace o_p := o_p.below hb16 o_p.lt
      replace o_u := o_u.below hb16 o_u.lt
      replace o_v := o_v.below hb16 o_v.lt
      replace o_m := o_m.below hb16 o_m.lt
      replace o_t := o_t.below hb16 o_t.lt
      replace hbw := below6 hbw hb16
      clear hb16
      have qs_0 : w16.cell? ⟨g5, 0, none⟩ = some (.bool na) := o_s.cell 0
      have qs_1 : w16.cell? ⟨g5, 1, none⟩ = some (.string sa) := o_s.cell 1
      have qs_2 : w16.cell? ⟨g5, 2, none⟩ = some (.string ta) := o_s.cell 2
      have qs_3 : w16.cell? ⟨g5, 3, none⟩ = some (.bool nb) := o_s.cell 3
      have qs_4 : w16.cell? ⟨g5, 4, none⟩ = some (.string sb) := o_s.cell 4
      have qs_5 : w16.cell? ⟨g5, 5, none⟩ = some (.string tb) := o_s.cell 5
      go_wp2_with fail
      clear qs_0 qs_1 qs_2 qs_3 qs_4 qs_5
      refine (HV1.out _).mono ?_
      rintro e w17 ⟨rfl, hb17⟩
      replace o_a := o_a.below hb17 o_a.lt
      replace o_b := o_b.below hb17 o_b.lt
      replace o_x := o_x.below hb17 o_x.lt
      replace o_s := o_s.below hb17 o_s.lt
      replace o_p := o_p.below hb17 o_p.lt
      replace o_u := o_u.below hb17 o_u.lt
      replace o_v := o_v.below hb17 o_v.lt
      replace o_m := o_m.below hb17 o_m.lt
      replace o_t := o_t.below hb17 o_t.lt
      replace hbw := below6 hbw hb17
      clear hb17
      have qp_0 : w17.cell? ⟨g8, 0, none⟩ = some (.bool nc) := o_p.cell 0
      have qp_1 : w17.cell? ⟨g8, 1, none⟩ = some (.string sc) := o_p.cell 1
      have qp_2 : w17.cell? ⟨g8, 2, none⟩ = some (.string tc) := o_p.cell 2
      have qp_3 : w17.cell? ⟨g8, 3, none⟩ = some (.bool nd) := o_p.cell 3
      have qp_4 : w17.cell? ⟨g8, 4, none⟩ = some (.string sd) := o_p.cell 4
      have qp_5 : w17.cell? ⟨g8, 5, none⟩ = some (.string td) := o_p.cell 5
      go_wp2_with fail
      clear qp_0 qp_1 qp_2 qp_3 qp_4 qp_5
      refine (HV2.out _).mono ?_
      rintro e w18 ⟨rfl, hb18⟩
      replace o_a := o_a.below hb18 o_a.lt
      replace o_b := o_b.below hb18 o_b.lt
      replace o_x := o_x.below hb18 o_x.lt
      replace o_s := o_s.below hb18 o_s.lt
      replace o_p := o_p.below hb18 o_p.lt
      replace o_u := o_u.below hb18 o_u.lt
      replace o_v := o_v.below hb18 o_v.lt
      replace o_m := o_m.below hb18 o_m.lt
      replace o_t := o_t.below hb18 o_t.lt
      replace hbw := below6 hbw hb18
      clear hb18
      go_wp2_with fail
      refine (known37 _).mono ?_
      rintro e w9 ⟨rfl, hb9⟩
      go_wp2
      go_ret
      exact ⟨rfl, below6 hbw hb9⟩
end Go.Proofs.Ytdjkgjpehneejaa
