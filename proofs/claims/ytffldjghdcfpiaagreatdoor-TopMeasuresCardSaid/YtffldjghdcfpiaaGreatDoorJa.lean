/- Parts of the proof: Lg, Oq, Rw, Rd, Rf, Rk, Ja. No condition of its own. -/
import Derived.Test.YtffldjghdcfpiaaGreatDoorId
import Derived.Test.YtffldjghdcfpiaaGreatDoorLa
import Derived.Test.YtffldjghdcfpiaaGreatDoorReg
import Derived.Test.YtffldjghdcfpiaaGreatDoorNv
import Derived.Test.YtffldjghdcfpiaaGreatDoorIa
import Derived.Test.YtffldjghdcfpiaaGreatDoorMem
set_option linter.unusedSimpArgs false
set_option linter.unusedVariables false
set_option linter.unusedSectionVars false
set_option maxRecDepth 100000
set_option maxHeartbeats 4000000
namespace Go.Proofs.YtffldjghdcfpiaaGreatDoor
open Go.RowKit Dg

def p2 (n : Int) : Rat := (2 : Rat) ^ n
theorem p2_pos (n : Int) : 0 < p2 n := Rat.zpow_pos (by decide)
theorem p2_add (m n : Int) : p2 (m + n) = p2 m * p2 n := Rat.zpow_add (by decide) m n
theorem p2_neg (n : Int) : p2 (-n) = (p2 n)⁻¹ := Rat.zpow_neg 2 n
theorem p2_zero : p2 0 = 1 := Rat.zpow_zero 2
theorem p2_nat (n : Nat) : p2 (n : Int) = ((2 ^ n : Nat) : Rat) := by
  unfold p2; rw [Rat.zpow_natCast, Rat.natCast_pow]
  rfl
theorem p2_lt {m n : Int} (h : m < n) : p2 m < p2 n := by
  obtain ⟨d, hd⟩ : ∃ d : Nat, n = m + ((d + 1 : Nat) : Int) := ⟨(n - m - 1).toNat, by omega⟩; rw [hd, p2_add, p2_nat]; have h1 : (1 : Rat) < ((2 ^ (d + 1) : Nat) : Rat) := by
    have : (1 : Rat) = ((1 : Nat) : Rat) := rfl; rw [this, Rat.natCast_lt_natCast]; exact Nat.one_lt_two_pow (by omega)
  have := Rat.mul_lt_mul_of_pos_left h1 (p2_pos m)
  rwa [Rat.mul_one] at this
theorem p2_lt_iff {m n : Int} : p2 m < p2 n ↔ m < n := by
  constructor
  · intro h
    rcases Int.lt_trichotomy m n with h1 | h1 | h1
    · exact h1
    · subst h1; exact absurd h Rat.lt_irrefl
    · have := p2_lt h1; exact absurd (show p2 m < p2 m by grind) Rat.lt_irrefl
  · exact p2_lt
theorem p2_mul (n : Int) (k : Nat) : p2 (n * k) = p2 n ^ k := by
  induction k with
  | zero => simp [p2_zero]
  | succ k ih =>
    rw [Rat.pow_succ, ← ih, ← p2_add]
    congr 1
    grind
def IsLog (y : Rat) (n : Int) : Prop := p2 n ≤ y ∧ y < p2 (n + 1)
theorem IsLog.eq {y : Rat} {m n : Int} (h : IsLog y m) (h' : IsLog y n) : m = n := by
  have h1 : p2 m < p2 (n + 1) := by have := h.1; have := h'.2; grind
  have h2 : p2 n < p2 (m + 1) := by have := h'.1; have := h.2; grind
  have := p2_lt_iff.1 h1; have := p2_lt_iff.1 h2
  omega
theorem rat_quo (a b : Nat) : rat false a b = (a : Rat) / (b : Rat) := by
  unfold rat
  simp only [Bool.false_eq_true, if_false]
  rw [Rat.mkRat_eq_div]
  rfl
theorem cmp_quo {a b c d : Nat} (hb : 0 < b) (hd : 0 < d) : (rat false a b < rat false c d ↔ a * d < c * b) ∧ (rat false a b = rat false c d ↔ a * d = c * b) := by
  constructor
  · rw [rat_quo, rat_quo]; have hb9 : (0 : Rat) < (b : Rat) := Rat.natCast_pos.2 hb; have hd9 : (0 : Rat) < (d : Rat) := Rat.natCast_pos.2 hd; rw [Rat.div_lt_iff hb9]; have e : ∀ p q r : Rat, p / q * r = p * r / q := by intro p q r; rw [Rat.div_def, Rat.div_def, Rat.mul_assoc, Rat.mul_comm q⁻¹, ← Rat.mul_assoc]
    rw [e, Rat.lt_div_iff hd9, ← Rat.natCast_mul, ← Rat.natCast_mul, Rat.natCast_lt_natCast]
  · unfold rat
    simp only [Bool.false_eq_true, if_false]
    rw [Rat.mkRat_eq_iff (by omega) (by omega)]
    omega
theorem p2_quo (j : Nat) : p2 (j : Int) = rat false (2 ^ j) 1 ∧ p2 (-(j : Int)) = rat false 1 (2 ^ j) := by
  constructor
  · rw [p2_nat, rat_quo, Rat.div_def]; have e : ((1 : Nat) : Rat)⁻¹ = 1 := Rat.inv_eq_of_mul_eq_one (by show (1 : Rat) * 1 = 1; rw [Rat.mul_one]); rw [e, Rat.mul_one]
  · rw [p2_neg, p2_nat, rat_quo, Rat.div_def]
    show _ = (1 : Rat) * _
    rw [Rat.one_mul]
theorem times_pos {P Q : Nat} (hQ : 0 < Q) (j : Nat) : (p2 (j : Int) < rat false P Q ↔ Q * 2 ^ j < P) ∧ (p2 (j : Int) = rat false P Q ↔ Q * 2 ^ j = P) := by
  rw [(p2_quo j).1]; have h := cmp_quo (a := 2 ^ j) (b := 1) (c := P) (d := Q) (by omega) hQ; rw [Nat.mul_one, Nat.mul_comm] at h; exact h
theorem times_neg {P Q : Nat} (hQ : 0 < Q) (j : Nat) : (p2 (-(j : Int)) < rat false P Q ↔ Q < P * 2 ^ j) ∧ (p2 (-(j : Int)) = rat false P Q ↔ Q = P * 2 ^ j) := by
  rw [(p2_quo j).2]; have h := cmp_quo (a := 1) (b := 2 ^ j) (c := P) (d := Q) (Nat.pow_pos (by decide)) hQ; rw [Nat.one_mul] at h; exact h
theorem log_guess {P Q : Nat} (hP : 0 < P) (hQ : 0 < Q) : p2 ((blen P : Int) - blen Q - 1) < rat false P Q ∧ rat false P Q < p2 ((blen P : Int) - blen Q + 1) := by
  have p1 := blen_lt P; have p3 := blen_ge hP; have q1 := blen_lt Q; have q3 := blen_ge hQ; have hp := blen_pos hP; have hq := blen_pos hQ; obtain ⟨p, hp⟩ : ∃ p, blen P = p + 1 := ⟨blen P - 1, by omega⟩; obtain ⟨q, hq⟩ : ∃ q, blen Q = q + 1 := ⟨blen Q - 1, by omega⟩; rw [hp] at p1 p3 ⊢; rw [hq] at q1 q3 ⊢
  simp only [Nat.add_sub_cancel] at p3 q3
  have e : ∀ n : Int, p2 n * (Q : Rat) < (P : Rat) ↔ p2 n < rat false P Q := by
    intro n; rw [rat_quo, Rat.lt_div_iff (Rat.natCast_pos.2 hQ)]
  have e2 : ∀ n : Int, (P : Rat) < p2 n * (Q : Rat) ↔ rat false P Q < p2 n := by
    intro n; rw [rat_quo, Rat.div_lt_iff (Rat.natCast_pos.2 hQ)]
  have c1 : (Q : Rat) < p2 ((q + 1 : Nat) : Int) := by rw [p2_nat, Rat.natCast_lt_natCast]; exact q1
  have c2 : p2 (q : Int) ≤ (Q : Rat) := by rw [p2_nat, Rat.natCast_le_natCast]; exact q3
  have c3 : (P : Rat) < p2 ((p + 1 : Nat) : Int) := by rw [p2_nat, Rat.natCast_lt_natCast]; exact p1
  have c4 : p2 (p : Int) ≤ (P : Rat) := by rw [p2_nat, Rat.natCast_le_natCast]; exact p3
  constructor
  · rw [← e]; have h1 := Rat.mul_lt_mul_of_pos_left c1 (p2_pos (((p + 1 : Nat) : Int) - ((q + 1 : Nat) : Int) - 1)); rw [← p2_add] at h1; have e3 : ((p + 1 : Nat) : Int) - ((q + 1 : Nat) : Int) - 1 + ((q + 1 : Nat) : Int) = (p : Int) := by omega
    rw [e3] at h1
    grind
  · rw [← e2]; have h1 := Rat.mul_le_mul_of_nonneg_left c2 (Rat.le_of_lt (p2_pos (((p + 1 : Nat) : Int) - ((q + 1 : Nat) : Int) + 1))); rw [← p2_add] at h1; have e3 : ((p + 1 : Nat) : Int) - ((q + 1 : Nat) : Int) + 1 + (q : Int) = ((p + 1 : Nat) : Int) := by omega
    rw [e3] at h1
    grind
theorem log_up {P Q : Nat} (hP : 0 < P) (hQ : 0 < Q) (h : p2 ((blen P : Int) - blen Q) ≤ rat false P Q) : IsLog (rat false P Q) ((blen P : Int) - blen Q) := ⟨h, (log_guess hP hQ).2⟩
theorem log_down {P Q : Nat} (hP : 0 < P) (hQ : 0 < Q) (h : rat false P Q < p2 ((blen P : Int) - blen Q)) : IsLog (rat false P Q) ((blen P : Int) - blen Q - 1) := by
  refine ⟨Rat.le_of_lt (log_guess hP hQ).1, ?_⟩; have : (blen P : Int) - blen Q - 1 + 1 = (blen P : Int) - blen Q := by omega
  rwa [this]
theorem pow_lt {x y : Rat} (h0 : 0 ≤ x) (h : x < y) : ∀ k : Nat, 0 < k → x ^ k < y ^ k := by
  intro k
  induction k with
  | zero => intro h; omega
  | succ k ih =>
    intro _; rw [Rat.pow_succ, Rat.pow_succ]
    rcases Nat.eq_zero_or_pos k with rfl | hk
    · simp; exact h
    · have h1 := ih hk; have y0 : 0 < y := by grind
      have hx : 0 ≤ x ^ k := Rat.pow_nonneg h0; have g1 := Rat.mul_le_mul_of_nonneg_left (Rat.le_of_lt h) hx; have g2 := Rat.mul_lt_mul_of_pos_right h1 y0
      grind
theorem pow_le {x y : Rat} (h0 : 0 ≤ x) (h : x ≤ y) (k : Nat) : x ^ k ≤ y ^ k := by
  rcases Nat.eq_zero_or_pos k with rfl | hk
  · simp
  · rcases Rat.le_iff_lt_or_eq.1 h with h1 | h1
    · exact Rat.le_of_lt (pow_lt h0 h1 k hk)
    · rw [h1]; exact Rat.le_refl
open Go.RowKit Dg

theorem of_core (neg : Bool) (a b : Nat) (h1 : OkN a) (h2 : OkN b) (hb : 0 < b) (w : World) :
    Calls Tryz.prog 36 #[.bool neg, .string (S a), .string (S b)] w fun e w' => RatRes (rat neg a b) e ∧ Below w.heap.size w w' := by
  have HB := Lib.hid (fun w => both_yes a b w h1 h2); have HD := Lib.hid hb; have HL := Lib.hid (dw_len_pos hb); have L1 := Lib.hid h1.dw; have L2 := Lib.hid h2.dw; obtain ⟨nz, sz, tz, kz, hend, hres⟩ := ratRes_one (rat neg a b); have HEND := Lib.hid hend; have HRES := Lib.hid hres; clear hend hres hb h1 h2; generalize S a = sa at *; generalize S b = sb at *; obtain ⟨o_r, hbw⟩ := new1 w [.bool false, .string ⟨#[]⟩, .string ⟨#[]⟩] 26
  go_enter Tryz.func36, Tryz.ntmps36
  go_upto_region 1 with (fail)
  generalize (w.alloc (.cells #[.bool false, .string ⟨#[]⟩, .string ⟨#[]⟩] 26)) = wb at o_r hbw ⊢
  go_wp2_with fail
  refine (HB.out _).mono ?_; rintro e w1 ⟨v1, v2, rfl, hv1, hv2, hb1⟩; replace o_r := o_r.below hb1 o_r.lt; replace hbw := below6 hbw hb1; clear hb1; have X1 := Lib.hid hv1; have X2 := Lib.hid hv2; obtain ⟨A1, c1, rfl, -⟩ := hv1; obtain ⟨A2, c2, rfl, -⟩ := hv2; have b0 : (((dw b).length : Int) == 0) = false := beqI_false (by have := HL.out; omega)
  go_wp2_with fail
  refine (lowest_any neg _ _ a b _ X1.out X2.out (by have := L1.out; omega) (by have := L2.out; omega) HD.out).mono ?_; rintro e w9 ⟨hl, hb9⟩; have he := HEND.out _ (hl.toRat HD.out); subst he; replace o_r := o_r.below hb9 o_r.lt; replace hbw := below6 hbw hb9; clear hb9 hl; obtain ⟨qr_0, qr_1, qr_2⟩ := o_r.cells3; obtain ⟨fr_0, fr_1, fr_2⟩ := o_r.frozens3; have oz := o_r.set3 (.bool nz) (.string sz) (.string tz); have sz9 := Below.set3 hbw (g := w.heap.size) (by omega) (.bool nz) (.string sz) (.string tz)
  go_wp2_with fail
  generalize (((w9.setCell ⟨w.heap.size, 0, none⟩ (.bool nz)).setCell ⟨w.heap.size, 1, none⟩ (.string sz)).setCell ⟨w.heap.size, 2, none⟩ (.string tz)) = wz at oz sz9 ⊢; obtain ⟨z0, z1, z2⟩ := oz.cells3; exact bodyPost_ret (v := .tuple #[.agg #[.bool nz, .string sz, .string tz], .int .i64 kz]) (by simp [results, Tryz.results36, go_sem, z0, z1, z2]) rfl ⟨HRES.out, sz9⟩
theorem of_zero (neg : Bool) (a : Nat) (h1 : OkN a) (w : World) :
    Calls Tryz.prog 36 #[.bool neg, .string (S a), .string (S 0)] w fun e w' => e = .returned (.tuple #[.agg #[.bool false, .string ⟨#[]⟩, .string ⟨#[]⟩], .int .i64 25]) ∧ Below w.heap.size w w' := by
  have HB := Lib.hid (fun w => both_yes a 0 w h1 (okn_small (by decide))); clear h1; generalize S a = sa at *; generalize S 0 = sb at *; obtain ⟨o_r, hbw⟩ := new1 w [.bool false, .string ⟨#[]⟩, .string ⟨#[]⟩] 26
  go_enter Tryz.func36, Tryz.ntmps36
  go_upto_region 1 with (fail)
  generalize (w.alloc (.cells #[.bool false, .string ⟨#[]⟩, .string ⟨#[]⟩] 26)) = wb at o_r hbw ⊢
  go_wp2_with fail
  refine (HB.out _).mono ?_; rintro e w1 ⟨v1, v2, rfl, hv1, hv2, hb1⟩; replace o_r := o_r.below hb1 o_r.lt; replace hbw := below6 hbw hb1; clear hb1; obtain ⟨A1, c1, rfl, -⟩ := hv1; obtain ⟨A2, c2, rfl, -⟩ := hv2; have e0 : (dw 0).length = 0 := rfl; rw [e0]; clear e0; obtain ⟨qr_0, qr_1, qr_2⟩ := o_r.cells3; obtain ⟨fr_0, fr_1, fr_2⟩ := o_r.frozens3; have oz := o_r.set3 (.bool false) (.string ⟨#[]⟩) (.string ⟨#[]⟩); have sz9 := Below.set3 hbw (g := w.heap.size) (by omega) (.bool false) (.string ⟨#[]⟩) (.string ⟨#[]⟩)
  go_wp2_with fail
  generalize (((w1.setCell ⟨w.heap.size, 0, none⟩ (.bool false)).setCell ⟨w.heap.size, 1, none⟩ (.string ⟨#[]⟩)).setCell ⟨w.heap.size, 2, none⟩ (.string ⟨#[]⟩)) = wz at oz sz9 ⊢; obtain ⟨z0, z1, z2⟩ := oz.cells3; exact bodyPost_ret (v := .tuple #[.agg #[.bool false, .string ⟨#[]⟩, .string ⟨#[]⟩], .int .i64 25]) (by simp [results, Tryz.results36, go_sem, z0, z1, z2]) rfl ⟨rfl, sz9⟩
open Go.RowKit

abbrev ck (l : List Nat) : List Value := l.map fun (x : Nat) => Value.int .i64 (x : Int)
def Kds (w : World) (A : Option Addr) (l : List Nat) : Prop := Rd w A (ck l)
theorem Kds.get {w : World} {A : Option Addr} {l : List Nat} (h : Kds w A l) {k : Nat} (hk : k < l.length) :
    ∃ b off, A = some ⟨b, off, none⟩ ∧ w.cell? ⟨b, off + k, none⟩ = some (.int .i64 (l[k] : Int)) := by
  obtain ⟨b, off, e, hc⟩ := Rd.get h (k := k) (by simpa using hk); exact ⟨b, off, e, by simpa using hc⟩
theorem Kds.below {w w' : World} {A : Option Addr} {l : List Nat} (h : Kds w A l) (hb : Below w.heap.size w w') : Kds w' A l := Rd.below h hb
theorem Kds.take {w : World} {A : Option Addr} {l : List Nat} (h : Kds w A l) (n : Nat) : Kds w A (l.take n) := by
  have := Rd.take h n; unfold Kds ck; rw [List.map_take]; exact this
def dk (n : Nat) : List Nat := Dg.dg 10000 n
theorem b10k : 2 ≤ 10000 := by decide
def BigV (w : World) (v : Value) (n : Nat) : Prop := ∃ A c, v = .slice A (dk n).length c ∧ (dk n).length ≤ c ∧ c ≤ maxLen ∧ Kds w A (dk n)
theorem BigV.below {w w' : World} {v : Value} {n : Nat} (h : BigV w v n) (hb : Below w.heap.size w w') : BigV w' v n := by
  obtain ⟨A, c, rfl, h1, h2, h3⟩ := h; exact ⟨A, c, rfl, h1, h2, h3.below hb⟩
theorem BigV.zero (w : World) : BigV w (.slice none 0 0) 0 := ⟨none, 0, rfl, Nat.le_refl _, by unfold maxLen; omega, Rd.nil _ _⟩
theorem BigV.of_cut {w : World} {A : Option Addr} {l : List Nat} {c : Nat} (h : Kds w A l) (hd : Dg.Dig 10000 l) (h1 : l.length ≤ c) (h2 : c ≤ maxLen) : BigV w (.slice A (Dg.cut l).length c) (Dg.val 10000 l) := by
  have e : Dg.cut l = dk (Dg.val 10000 l) := Dg.cut_eq b10k hd; refine ⟨A, c, by rw [e], ?_, h2, ?_⟩
  · rw [← e]; exact Nat.le_trans (Dg.cut_le l) h1
  · rw [← e, Dg.cut_take l]; exact h.take _

open Go.RowKit

theorem dig_snoc {b : Nat} {O : List Nat} {x : Nat} (h : Dg.Dig b O) (hx : x < b) : Dg.Dig b (O ++ [x]) := by
  intro y hy
  rcases List.mem_append.1 hy with h1 | h1
  · exact h y h1
  · have : y = x := by simpa using h1
    omega

open Go.RowKit

open Go.RowKit Dg

open Go.RowKit

theorem BigV.set {w : World} {v : Value} {n g i : Nat} {u : Value} (h : BigV w v n) (hn : v.ownBlock ≠ some g) : BigV (w.setCell ⟨g, i, none⟩ u) v n := by
  obtain ⟨A, c, rfl, h1, h2, h3⟩ := h; refine ⟨A, c, rfl, h1, h2, ?_⟩; intro j x hx; obtain ⟨b, off, e, hc⟩ := h3 j x hx; subst e; refine ⟨b, off, rfl, ?_⟩; have hbg : g ≠ b := fun e => hn (by subst e; rfl); unfold World.cell? at hc ⊢; rw [Below.heap_setCell w ⟨g, i, none⟩ u b (fun e => hbg e.symm)]; exact hc

open Go.RowKit

open Go.RowKit Dg

theorem dec_small {n : Nat} (h : n < 10) : dec n = [n] := by
  have hx : ∀ d ∈ [n], d < 10 := by
    intro d hd; have : d = n := by simpa using hd
    omega
  have ht : Txt [n] := ⟨hx, by simp, fun h => by simp at h⟩; have := dec_num ht; have e : num [n] = n := by simp [num]
  rw [e] at this; exact this
theorem dec_step {n : Nat} (h : 10 ≤ n) : dec n = dec (n / 10) ++ [n % 10] := by
  have h1 : dec n = (Dg.dg 10 n).reverse := if_neg (by omega); have h2 : dec (n / 10) = (Dg.dg 10 (n / 10)).reverse := if_neg (by omega); rw [h1, h2, Dg.dg_pos (by decide) (by omega)]; simp

open Go.RowKit Dg

open Go.RowKit Dg

theorem dk_dec (n : Nat) : (dk n).length ≤ (dec n).length := by
  refine Dg.dg_le b10k (Nat.lt_of_lt_of_le (dec_lt n) (Nat.pow_le_pow_left (by decide) _))
theorem OkN.dk {n : Nat} (h : OkN n) : (dk n).length ≤ 20000 := Nat.le_trans (dk_dec n) h
open Go.RowKit Dg

theorem okn0 : OkN 0 := by unfold OkN; decide
theorem okn1 : OkN 1 := by unfold OkN; decide
theorem okS_1 : S 1 = ⟨#[49]⟩ := rfl
open Go.RowKit Dg

open Go.RowKit Dg

end Go.Proofs.YtffldjghdcfpiaaGreatDoor
