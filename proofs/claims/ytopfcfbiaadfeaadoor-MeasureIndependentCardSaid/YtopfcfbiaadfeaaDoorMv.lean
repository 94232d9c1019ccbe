/- Chapter 38: mutual information and LogDice at possible cells, with their values. -/
import Derived.Test.YtopfcfbiaadfeaaDoorMu
namespace Go.Proofs.YtopfcfbiaadfeaaDoor
set_option linter.unusedSimpArgs false
set_option linter.unusedVariables false
set_option linter.unusedSectionVars false
open Go.RowKit Dg

theorem qres_yes {P Q : Nat} (h : 0 < Q) (hf : OkR (rat false P Q)) : ∀ e, QRes P Q e → e = .returned (.tuple #[RV (rat false P Q), .int .i64 0]) := by
  rintro e (⟨h1, _⟩ | ⟨_, h2⟩)
  · omega
  · exact h2.ok hf
theorem few_le {j k : Nat} {x : Rat} (h : Few j x) (hjk : j ≤ k) : Few k x := ⟨Nat.le_trans h.1 hjk, Nat.le_trans h.2 hjk⟩
theorem few_quo {P Q : Nat} (h : 0 < Q) (h1 : P < 10 ^ 70) (h2 : Q < 10 ^ 70) : Few 70 (rat false P Q) := few_rat h (dec_len_le (by decide) h1) (dec_len_le (by decide) h2)
theorem rat_pos' {P Q : Nat} (hp : 0 < P) (hq : 0 < Q) : 0 < rat false P Q := by
  rw [rat_quo, Rat.lt_div_iff (Rat.natCast_pos.2 hq), Rat.zero_mul]
  exact Rat.natCast_pos.2 hp
theorem uq_le_succ (i : Int) (k : Nat) : uq i k ≤ uq (i + 1) k := by
  rw [uq_le]
  have : (0 : Int) ≤ ((2 ^ k : Nat) : Int) := Int.natCast_nonneg _
  exact Int.mul_le_mul_of_nonneg_right (by omega) this
/-- The upper end of Bits. -/
def hiq (x : Rat) (i : Int) (k : Nat) : Rat := if p2 i = x ^ (2 ^ k) then uq i k else uq (i + 1) k
theorem hiq_le (x : Rat) (i : Int) (k : Nat) : uq i k ≤ hiq x i k := by
  unfold hiq
  split
  · exact Rat.le_refl
  · exact uq_le_succ i k
theorem hiq_few {x : Rat} {i : Int} {k : Nat} (h1 : -1000000 ≤ i) (h2 : i ≤ 1000000) (hk : k ≤ 8) : Few 7 (hiq x i k) := by
  unfold hiq
  split
  · exact uq_few (by omega) (by omega) hk
  · exact uq_few (by omega) (by omega) hk
/-- The lesser numbers of possible cells. -/
theorem VC.prod {a p q n x y : Nat} (hx : x ≤ 4294967296) (hy : y ≤ 4294967296) : prodN [x, y] < 10 ^ 70 := by
  have h1 : x * y ≤ 4294967296 * 4294967296 := Nat.mul_le_mul hx hy
  simp only [prodN, Nat.mul_one]
  exact Nat.lt_of_le_of_lt h1 (by decide)
theorem mi_yes {a p q n k : Nat} (hv : VC a p q n) (hk : k ≤ 8) (ha : 0 < a) (w0 : World) : ∃ i : Int, IsLog (rat false (prodN [a, n]) (prodN [p, q]) ^ (2 ^ k)) i ∧ -1000000 ≤ i ∧ i ≤ 1000000 ∧
    ∀ w, Tab w → Calls Tryd.prog 20 #[CV a p q n, .int .i64 (k : Int)] w fun e w' => e = .returned (.tuple #[IV (uq i k) (hiq (rat false (prodN [a, n]) (prodN [p, q])) i k), .int .i64 0]) ∧ Below w.heap.size w w' := by
  have h1 := hv.pn; have h2 := hv.qn; have h3 := hv.n2; have h4 := hv.ap; have h5 := hv.aq; have h6 := hv.pq; have h7 := hv.n1
  have hp : 0 < prodN [a, n] := by simp only [prodN, Nat.mul_one]; exact Nat.mul_pos ha (by omega)
  have hq : 0 < prodN [p, q] := by simp only [prodN, Nat.mul_one]; exact Nat.mul_pos (by omega) (by omega)
  have hf := few_quo hq (VC.prod (a := a) (p := p) (q := q) (n := n) (x := a) (y := n) (by omega) (by omega)) (VC.prod (a := a) (p := p) (q := q) (n := n) (x := p) (y := q) (by omega) (by omega))
  obtain ⟨i, g1, g2, g3, -, g5⟩ := ebits_yes hf (rat_pos' hp hq) hk w0
  exact ⟨i, g1, g2, g3, fun w ht => mi_core _ _ _ _ _ _ _ _ _ hv hk ha (qres_yes hq (hf.ok (by decide))) g5 w ht⟩
theorem ld_yes {a p q n k : Nat} (hv : VC a p q n) (hk : k ≤ 8) (ha : 0 < a) (w0 : World) : ∃ i : Int, IsLog (rat false (prodN [2, a]) (prodN [p + q]) ^ (2 ^ k)) i ∧ -1000000 ≤ i ∧ i ≤ 1000000 ∧
    ∀ w, Tab w → Calls Tryd.prog 14 #[CV a p q n, .int .i64 (k : Int)] w fun e w' => e = .returned (.tuple #[IV (rat false 14 1 + uq i k) (rat false 14 1 + hiq (rat false (prodN [2, a]) (prodN [p + q])) i k), .int .i64 0]) ∧ Below w.heap.size w w' := by
  have h1 := hv.pn; have h2 := hv.qn; have h3 := hv.n2; have h4 := hv.ap; have h5 := hv.aq; have h6 := hv.pq; have h7 := hv.n1
  have hp : 0 < prodN [2, a] := by simp only [prodN, Nat.mul_one]; omega
  have hq : 0 < prodN [p + q] := by simp only [prodN, Nat.mul_one]; omega
  have hq2 : prodN [p + q] < 10 ^ 70 := by
    simp only [prodN, Nat.mul_one]
    exact Nat.lt_of_le_of_lt (show p + q ≤ 4294967296 by omega) (by decide)
  have hf := few_quo hq (VC.prod (a := a) (p := p) (q := q) (n := n) (x := 2) (y := a) (by omega) (by omega)) hq2
  obtain ⟨i, g1, g2, g3, -, g5⟩ := ebits_yes hf (rat_pos' hp hq) hk w0
  have f14 : Few 7 (rat false 14 1) := one_few (by decide) (by decide)
  have hadd := eadd_yes f14 f14 (uq_few (n := i) (k := k) (by omega) (by omega) hk) (hiq_few (x := rat false (prodN [2, a]) (prodN [p + q])) g2 g3 hk) (by decide) Rat.le_refl (hiq_le (rat false (prodN [2, a]) (prodN [p + q])) i k)
  exact ⟨i, g1, g2, g3, fun w ht => ld_core _ _ _ _ _ _ _ _ _ _ _ _ _ _ _ _ _ _ hv hk ha (qres_yes hq (hf.ok (by decide))) g5 (whole_yes 14 (by decide)) hadd w ht⟩
end Go.Proofs.YtopfcfbiaadfeaaDoor
/- Chapter 38: the bounds of Dice, Jaccard and LogDice, in plain mathematics. -/
namespace Go.Proofs.YtopfcfbiaadfeaaDoor
set_option linter.unusedSimpArgs false
set_option linter.unusedVariables false
set_option linter.unusedSectionVars false
open Go.RowKit Dg

theorem dice_le {a p q : Nat} (ha : a ≤ p) (hb : a ≤ q) (h : 0 < p + q) : rat false (prodN [2, a]) (prodN [p + q]) ≤ 1 := by
  rw [rat_quo]
  simp only [prodN, Nat.mul_one]
  have hq : (0 : Rat) < ((p + q : Nat) : Rat) := Rat.natCast_pos.2 h
  rw [← Rat.not_lt, Rat.lt_div_iff hq, Rat.one_mul, Rat.natCast_lt_natCast]
  omega
theorem jac_le {a p q : Nat} (ha : a ≤ p) (hb : a ≤ q) (h : 0 < p + q) : rat false (prodN [a]) (prodN [p + q - a]) ≤ 1 := by
  rw [rat_quo]
  simp only [prodN, Nat.mul_one]
  have hq : (0 : Rat) < ((p + q - a : Nat) : Rat) := Rat.natCast_pos.2 (by omega)
  rw [← Rat.not_lt, Rat.lt_div_iff hq, Rat.one_mul, Rat.natCast_lt_natCast]
  omega
theorem dice_jac {a p q : Nat} (ha : a ≤ p) (hb : a ≤ q) (h : 0 < p + q) : rat false (prodN [2, a]) (prodN [p + q]) / (2 - rat false (prodN [2, a]) (prodN [p + q])) = rat false (prodN [a]) (prodN [p + q - a]) := by
  rw [rat_quo, rat_quo]
  simp only [prodN, Nat.mul_one]
  obtain ⟨s, hs⟩ : ∃ s, p + q = s + a := ⟨p + q - a, by omega⟩
  have hsa : p + q - a = s := by omega
  rw [hsa, hs]
  have hs0 : (0 : Rat) < (s : Rat) := Rat.natCast_pos.2 (by omega)
  have ha0 : (0 : Rat) ≤ (a : Rat) := by exact_mod_cast Nat.zero_le a
  have e1 : ((2 * a : Nat) : Rat) = 2 * (a : Rat) := by rw [Rat.natCast_mul]; rfl
  have e2 : ((s + a : Nat) : Rat) = (s : Rat) + (a : Rat) := by rw [Rat.natCast_add]
  rw [e1, e2]
  generalize (a : Rat) = x at *
  generalize (s : Rat) = y at *
  have h1 : y + x ≠ 0 := by grind
  have h2 : y ≠ 0 := by grind
  grind
theorem ld_hi {x : Rat} {i : Int} (h0 : 0 < x) (h1 : x ≤ 1) (hi : IsLog (x ^ (2 ^ 2)) i) : rat false 14 1 + hiq x i 2 ≤ rat false 57 4 := by
  have h2 : x ^ (2 ^ 2) ≤ 1 := by
    have : x ^ (2 ^ 2) = x * x * (x * x) := by
      show x ^ 4 = _
      grind
    rw [this]
    have h3 : x * x ≤ 1 := by
      have := Rat.mul_le_mul_of_nonneg_left h1 (Rat.le_of_lt h0)
      rw [Rat.mul_one] at this
      exact Rat.le_trans this h1
    have h4 : 0 ≤ x * x := Rat.mul_nonneg (Rat.le_of_lt h0) (Rat.le_of_lt h0)
    have := Rat.mul_le_mul_of_nonneg_left h3 h4
    rw [Rat.mul_one] at this
    exact Rat.le_trans this h3
  have h3 : i ≤ 0 := by
    rcases Int.lt_or_le 0 i with h | h
    · exfalso
      have h4 : p2 0 < p2 i := p2_lt_iff.2 h
      have h5 : p2 0 = 1 := by decide
      have := hi.1
      grind
    · exact h
  have h4 : hiq x i 2 ≤ uq 1 2 := by
    unfold hiq
    split
    · rw [uq_le]; omega
    · rw [uq_le]; omega
  have h5 : uq 1 2 = (1 : Rat) / ((4 : Nat) : Rat) := uq_eq 1 2
  have h5' : uq 1 2 * ((4 : Nat) : Rat) = 1 := by rw [h5]; exact Rat.div_mul_cancel (by decide)
  have h7 : rat false 57 4 = ((57 : Nat) : Rat) / ((4 : Nat) : Rat) := rat_quo 57 4
  have h7' : rat false 57 4 * ((4 : Nat) : Rat) = ((57 : Nat) : Rat) := by rw [h7]; exact Rat.div_mul_cancel (by decide)
  have h6 : rat false 14 1 = 14 := by decide
  have c4 : ((4 : Nat) : Rat) = 4 := rfl
  have c57 : ((57 : Nat) : Rat) = 57 := rfl
  rw [h6]
  rw [c4] at h5' h7'
  rw [c57] at h7'
  clear h5 h7
  generalize uq 1 2 = u at *
  generalize rat false 57 4 = v at *
  generalize hiq x i 2 = t at *
  grind
end Go.Proofs.YtopfcfbiaadfeaaDoor
/- Chapter 38: the example that each law ends with. -/
namespace Go.Proofs.YtopfcfbiaadfeaaDoor
set_option linter.unusedSimpArgs false
set_option linter.unusedVariables false
set_option linter.unusedSectionVars false
open Go.RowKit Dg

theorem vc_ex : VC 2 4 2 16 := ⟨by decide, by decide, by decide, by decide, by decide, by decide, by decide⟩
theorem rv_any {x : Rat} {n : Int} {d : Nat} (hn : x.num = n) (hd : x.den = d) : RV x = .agg #[.bool (decide (n < 0)), .string (S n.natAbs), .string (S d)] := by rw [← hn, ← hd]
theorem s48 : S 48 = ⟨#[52, 56]⟩ := by decide
theorem s7 : S 7 = ⟨#[55]⟩ := by decide
theorem s2 : S 2 = ⟨#[50]⟩ := by decide
theorem s1 : S 1 = ⟨#[49]⟩ := by decide
theorem chi_ex (w : World) (ht : Tab w) : Calls Tryd.prog 16 #[.agg #[.int .i64 2, .int .i64 4, .int .i64 2, .int .i64 16]] w fun e w' => e = .returned (.tuple #[.agg #[.bool false, .string ⟨#[52, 56]⟩, .string ⟨#[55]⟩], .int .i64 0]) ∧ Below w.heap.size w w' := by
  refine (chi_yes vc_ex w ht).mono ?_
  rintro e w' ⟨h, hb⟩
  refine ⟨?_, hb⟩
  have e1 : prodN [16, (((16 : Nat) : Int) * ((2 : Nat) : Int) - ((4 : Nat) : Int) * ((2 : Nat) : Int)).natAbs, (((16 : Nat) : Int) * ((2 : Nat) : Int) - ((4 : Nat) : Int) * ((2 : Nat) : Int)).natAbs] = 9216 := by decide
  have e2 : prodN [4, 16 - 4, 2, 16 - 2] = 1344 := by decide
  rw [e1, e2] at h
  have g := qres_yes (P := 9216) (Q := 1344) (by decide) ((few_quo (by decide) (by decide) (by decide)).ok (by decide)) e h
  rw [g, rv_any (n := 48) (d := 7) (by decide) (by decide)]
  rw [show (48 : Int).natAbs = 48 from rfl, s48, s7]
  rfl
theorem odds_ex (w : World) (ht : Tab w) : Calls Tryd.prog 25 #[.agg #[.int .i64 2, .int .i64 4, .int .i64 2, .int .i64 16]] w fun e w' => e = .returned (.tuple #[Rat0, .int .i64 25]) ∧ Below w.heap.size w w' := by
  refine (odds_yes vc_ex w ht).mono ?_
  rintro e w' ⟨h, hb⟩
  refine ⟨?_, hb⟩
  rcases h with ⟨_, h⟩ | ⟨h, _⟩
  · exact h
  · exact absurd h (by decide)
theorem mi_ex (w0 : World) : ∀ w, Tab w → Calls Tryd.prog 20 #[.agg #[.int .i64 2, .int .i64 4, .int .i64 2, .int .i64 16], .int .i64 0] w fun e w' => e = .returned (.tuple #[.agg #[.bool false, .string ⟨#[50]⟩, .string ⟨#[49]⟩, .bool false, .string ⟨#[50]⟩, .string ⟨#[49]⟩], .int .i64 0]) ∧ Below w.heap.size w w' := by
  obtain ⟨i, h1, -, -, h4⟩ := mi_yes vc_ex (k := 0) (by decide) (by decide) w0
  have ex : rat false (prodN [2, 16]) (prodN [4, 2]) = 4 := by decide
  rw [ex] at h1 h4
  have hp : p2 2 = (4 : Rat) := by decide
  have hi : i = 2 := by
    refine h1.eq ⟨?_, ?_⟩
    · rw [hp]; decide
    · have : p2 (2 + 1) = (8 : Rat) := by decide
      rw [this]; decide
  subst hi
  have e1 : hiq 4 2 0 = uq 2 0 := by
    unfold hiq
    rw [if_pos (by rw [hp]; decide)]
  rw [e1] at h4
  intro w ht
  refine (h4 w ht).mono ?_
  rintro e w' ⟨h, hb⟩
  refine ⟨?_, hb⟩
  have n1 : (uq 2 0).num = 2 := by decide
  have n2 : (uq 2 0).den = 1 := by decide
  rw [h]
  unfold IV
  rw [n1, n2, show (2 : Int).natAbs = 2 from rfl, s2, s1]
  rfl
set_option maxRecDepth 100000 in
set_option maxHeartbeats 4000000 in
theorem known38_yes (w : World) (ht : Tab w) : Calls Tryd.prog 10 #[] w fun e w' => e = .returned (.bool true) ∧ Below w.heap.size w w' := by
  have T0 := Lib.hid ht
  clear ht
  go_enter Tryd.func10, Tryd.ntmps10
  have hbw := Below.refl w.heap.size w
  go_upto_region 1 with (fail)
  obtain ⟨o_c, hz1⟩ := new1 w [.int .i64 2, .int .i64 4, .int .i64 2, .int .i64 16] 24
  replace hbw := below6 hbw hz1
  clear hz1
  go_upto_region 2 with (fail)
  generalize (w.alloc (.cells #[.int .i64 2, .int .i64 4, .int .i64 2, .int .i64 16] 24)) = wa2 at o_c hbw ⊢
  generalize w.heap.size = g2 at o_c ⊢
  have qc_0 : wa2.cell? ⟨g2, 0, none⟩ = some (.int .i64 2) := o_c.cell 0
  have qc_1 : wa2.cell? ⟨g2, 1, none⟩ = some (.int .i64 4) := o_c.cell 1
  have qc_2 : wa2.cell? ⟨g2, 2, none⟩ = some (.int .i64 2) := o_c.cell 2
  have qc_3 : wa2.cell? ⟨g2, 3, none⟩ = some (.int .i64 16) := o_c.cell 3
  go_wp2_with fail
  clear qc_0 qc_1 qc_2 qc_3
  refine (chi_ex _ (T0.out.below hbw)).mono ?_
  rintro e w3 ⟨rfl, hb3⟩
  replace o_c := o_c.below hb3 o_c.lt
  replace hbw := below6 hbw hb3
  clear hb3
  obtain ⟨o_x, hz4⟩ := new1 w3 [.bool false, .string ⟨#[52, 56]⟩, .string ⟨#[55]⟩] 29
  replace o_c := o_c.alloc (.cells #[.bool false, .string ⟨#[52, 56]⟩, .string ⟨#[55]⟩] 29)
  replace hbw := below6 hbw hz4
  clear hz4
  have qc_0 : (w3.alloc (.cells #[.bool false, .string ⟨#[52, 56]⟩, .string ⟨#[55]⟩] 29)).cell? ⟨g2, 0, none⟩ = some (.int .i64 2) := o_c.cell 0
  have qc_1 : (w3.alloc (.cells #[.bool false, .string ⟨#[52, 56]⟩, .string ⟨#[55]⟩] 29)).cell? ⟨g2, 1, none⟩ = some (.int .i64 4) := o_c.cell 1
  have qc_2 : (w3.alloc (.cells #[.bool false, .string ⟨#[52, 56]⟩, .string ⟨#[55]⟩] 29)).cell? ⟨g2, 2, none⟩ = some (.int .i64 2) := o_c.cell 2
  have qc_3 : (w3.alloc (.cells #[.bool false, .string ⟨#[52, 56]⟩, .string ⟨#[55]⟩] 29)).cell? ⟨g2, 3, none⟩ = some (.int .i64 16) := o_c.cell 3
  go_wp2_with fail
  generalize (w3.alloc (.cells #[.bool false, .string ⟨#[52, 56]⟩, .string ⟨#[55]⟩] 29)) = wa5 at o_c o_x hbw ⊢
  generalize w3.heap.size = g5 at o_x ⊢
  clear qc_0 qc_1 qc_2 qc_3
  refine (odds_ex _ (T0.out.below hbw)).mono ?_
  rintro e w6 ⟨rfl, hb6⟩
  replace o_c := o_c.below hb6 o_c.lt
  replace o_x := o_x.below hb6 o_x.lt
  replace hbw := below6 hbw hb6
  clear hb6
  obtain ⟨o_y, hz7⟩ := new1 w6 [.bool false, .string ⟨#[]⟩, .string ⟨#[]⟩] 29
  replace o_c := o_c.alloc (.cells #[.bool false, .string ⟨#[]⟩, .string ⟨#[]⟩] 29)
  replace o_x := o_x.alloc (.cells #[.bool false, .string ⟨#[]⟩, .string ⟨#[]⟩] 29)
  replace hbw := below6 hbw hz7
  clear hz7
  have qc_0 : (w6.alloc (.cells #[.bool false, .string ⟨#[]⟩, .string ⟨#[]⟩] 29)).cell? ⟨g2, 0, none⟩ = some (.int .i64 2) := o_c.cell 0
  have qc_1 : (w6.alloc (.cells #[.bool false, .string ⟨#[]⟩, .string ⟨#[]⟩] 29)).cell? ⟨g2, 1, none⟩ = some (.int .i64 4) := o_c.cell 1
  have qc_2 : (w6.alloc (.cells #[.bool false, .string ⟨#[]⟩, .string ⟨#[]⟩] 29)).cell? ⟨g2, 2, none⟩ = some (.int .i64 2) := o_c.cell 2
  have qc_3 : (w6.alloc (.cells #[.bool false, .string ⟨#[]⟩, .string ⟨#[]⟩] 29)).cell? ⟨g2, 3, none⟩ = some (.int .i64 16) := o_c.cell 3
  go_wp2_with fail
  generalize (w6.alloc (.cells #[.bool false, .string ⟨#[]⟩, .string ⟨#[]⟩] 29)) = wa8 at o_c o_x o_y hbw ⊢
  generalize w6.heap.size = g8 at o_y ⊢
  clear qc_0 qc_1 qc_2 qc_3
  refine (mi_ex w _ (T0.out.below hbw)).mono ?_
  rintro e w9 ⟨rfl, hb9⟩
  replace o_c := o_c.below hb9 o_c.lt
  replace o_x := o_x.below hb9 o_x.lt
  replace o_y := o_y.below hb9 o_y.lt
  replace hbw := below6 hbw hb9
  clear hb9
  obtain ⟨o_i, hz10⟩ := new1 w9 [.bool false, .string ⟨#[50]⟩, .string ⟨#[49]⟩, .bool false, .string ⟨#[50]⟩, .string ⟨#[49]⟩] 37
  replace o_c := o_c.alloc (.cells #[.bool false, .string ⟨#[50]⟩, .string ⟨#[49]⟩, .bool false, .string ⟨#[50]⟩, .string ⟨#[49]⟩] 37)
  replace o_x := o_x.alloc (.cells #[.bool false, .string ⟨#[50]⟩, .string ⟨#[49]⟩, .bool false, .string ⟨#[50]⟩, .string ⟨#[49]⟩] 37)
  replace o_y := o_y.alloc (.cells #[.bool false, .string ⟨#[50]⟩, .string ⟨#[49]⟩, .bool false, .string ⟨#[50]⟩, .string ⟨#[49]⟩] 37)
  replace hbw := below6 hbw hz10
  clear hz10
  go_upto_region 5 with (fail)
  generalize (w9.alloc (.cells #[.bool false, .string ⟨#[50]⟩, .string ⟨#[49]⟩, .bool false, .string ⟨#[50]⟩, .string ⟨#[49]⟩] 37)) = wa11 at o_c o_x o_y o_i hbw ⊢
  generalize w9.heap.size = g11 at o_i ⊢
  obtain ⟨o_two, hz12⟩ := new1 wa11 [.bool false, .string ⟨#[50]⟩, .string ⟨#[49]⟩] 29
  replace o_c := o_c.alloc (.cells #[.bool false, .string ⟨#[50]⟩, .string ⟨#[49]⟩] 29)
  replace o_x := o_x.alloc (.cells #[.bool false, .string ⟨#[50]⟩, .string ⟨#[49]⟩] 29)
  replace o_y := o_y.alloc (.cells #[.bool false, .string ⟨#[50]⟩, .string ⟨#[49]⟩] 29)
  replace o_i := o_i.alloc (.cells #[.bool false, .string ⟨#[50]⟩, .string ⟨#[49]⟩] 29)
  replace hbw := below6 hbw hz12
  clear hz12
  go_upto_region 6 with (fail)
  generalize (wa11.alloc (.cells #[.bool false, .string ⟨#[50]⟩, .string ⟨#[49]⟩] 29)) = wa13 at o_c o_x o_y o_i o_two hbw ⊢
  generalize wa11.heap.size = g13 at o_two ⊢
  have qx_0 : wa13.cell? ⟨g5, 0, none⟩ = some (.bool false) := o_x.cell 0
  have qx_1 : wa13.cell? ⟨g5, 1, none⟩ = some (.string ⟨#[52, 56]⟩) := o_x.cell 1
  have qx_2 : wa13.cell? ⟨g5, 2, none⟩ = some (.string ⟨#[55]⟩) := o_x.cell 2
  have qy_0 : wa13.cell? ⟨g8, 0, none⟩ = some (.bool false) := o_y.cell 0
  have qy_1 : wa13.cell? ⟨g8, 1, none⟩ = some (.string ⟨#[]⟩) := o_y.cell 1
  have qy_2 : wa13.cell? ⟨g8, 2, none⟩ = some (.string ⟨#[]⟩) := o_y.cell 2
  have qi_0 : wa13.cell? ⟨g11, 0, none⟩ = some (.bool false) := o_i.cell 0
  have qi_1 : wa13.cell? ⟨g11, 1, none⟩ = some (.string ⟨#[50]⟩) := o_i.cell 1
  have qi_2 : wa13.cell? ⟨g11, 2, none⟩ = some (.string ⟨#[49]⟩) := o_i.cell 2
  have qi_3 : wa13.cell? ⟨g11, 3, none⟩ = some (.bool false) := o_i.cell 3
  have qi_4 : wa13.cell? ⟨g11, 4, none⟩ = some (.string ⟨#[50]⟩) := o_i.cell 4
  have qi_5 : wa13.cell? ⟨g11, 5, none⟩ = some (.string ⟨#[49]⟩) := o_i.cell 5
  have qtwo_0 : wa13.cell? ⟨g13, 0, none⟩ = some (.bool false) := o_two.cell 0
  have qtwo_1 : wa13.cell? ⟨g13, 1, none⟩ = some (.string ⟨#[50]⟩) := o_two.cell 1
  have qtwo_2 : wa13.cell? ⟨g13, 2, none⟩ = some (.string ⟨#[49]⟩) := o_two.cell 2
  go_wp2
  go_ret
  exact ⟨rfl, hbw⟩
end Go.Proofs.YtopfcfbiaadfeaaDoor
