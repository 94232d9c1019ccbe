/- Parts of the proof: Rt, Nk, Nm, La. No condition of its own. -/
import Derived.Test.YtffldjghdcfpiaaGreatDoorNv
set_option linter.unusedSimpArgs false
set_option linter.unusedVariables false
set_option linter.unusedSectionVars false
set_option maxRecDepth 100000
set_option maxHeartbeats 4000000
namespace Go.Proofs.YtffldjghdcfpiaaGreatDoor
open Go.RowKit Dg

abbrev RV (x : Rat) : Value := RatV (decide (x.num < 0)) x.num.natAbs x.den
def OkR (x : Rat) : Prop := OkN x.num.natAbs ∧ OkN x.den
def rat (neg : Bool) (a b : Nat) : Rat := mkRat (if neg then -(a : Int) else a) b
def RatRes (x : Rat) (e : Ending) : Prop := (OkR x ∧ e = .returned (.tuple #[RV x, .int .i64 0])) ∨ (¬ OkR x ∧ e = .returned (.tuple #[Rat0, .int .i64 2]))
theorem RatRes.ok {x : Rat} {e : Ending} (h : RatRes x e) (hx : OkR x) : e = .returned (.tuple #[RV x, .int .i64 0]) := by
  rcases h with h | h
  · exact h.2
  · exact absurd hx h.1
theorem RatRes.eq {x : Rat} {e e' : Ending} (h : RatRes x e) (h' : RatRes x e') : e = e' := by
  rcases h with h | h
  · rw [h.2, h'.ok h.1]
  · rcases h' with h' | h'
    · exact absurd h'.1 h.1
    · rw [h.2, h'.2]
theorem natAbs_sgn (neg : Bool) (a : Nat) : (if neg then -(a : Int) else a).natAbs = a := by cases neg <;> simp
theorem rat_den (neg : Bool) {a b : Nat} (hb : 0 < b) : (rat neg a b).den = b / Nat.gcd a b := by
  unfold rat; rw [Rat.den_mkRat, if_neg (by omega), natAbs_sgn, Nat.gcd_comm]
theorem rat_num (neg : Bool) {a b : Nat} (hb : 0 < b) : (rat neg a b).num = if neg then -((a / Nat.gcd a b : Nat) : Int) else ((a / Nat.gcd a b : Nat) : Int) := by
  unfold rat; rw [Rat.num_mkRat, if_neg (by omega), natAbs_sgn, Nat.gcd_comm]
  cases neg with
  | false => simp
  | true =>
    simp only [if_true]
    rw [Int.neg_ediv_of_dvd (Int.natCast_dvd_natCast.2 (Nat.gcd_dvd_left a b))]
    simp
theorem rat_abs (neg : Bool) {a b : Nat} (hb : 0 < b) : (rat neg a b).num.natAbs = a / Nat.gcd a b := by
  rw [rat_num neg hb]; exact natAbs_sgn _ _
theorem gcd_pos_right {a b : Nat} (hb : 0 < b) : 0 < Nat.gcd a b := Nat.gcd_pos_of_pos_right a hb
theorem rat_neg (neg : Bool) {a b : Nat} (hb : 0 < b) : decide ((rat neg a b).num < 0) = (neg && decide (0 < a)) := by
  rw [rat_num neg hb]; have h : 0 < a / Nat.gcd a b ↔ 0 < a := by
    constructor
    · intro h
      rcases Nat.eq_zero_or_pos a with e | e
      · rw [e, Nat.zero_div] at h; omega
      · exact e
    · intro h; exact Nat.div_pos (Nat.gcd_le_left b h) (gcd_pos_right hb)
  cases neg with
  | false =>
    have : ¬ ((a / Nat.gcd a b : Nat) : Int) < 0 := Int.not_lt.2 (Int.natCast_nonneg _)
    simp only [Bool.false_eq_true, if_false, this, decide_false, Bool.false_and]
  | true =>
    simp only [if_true, Bool.true_and]
    rw [decide_eq_decide]
    omega
theorem rat_RV (neg : Bool) {a b : Nat} (hb : 0 < b) : RV (rat neg a b) = RatV (neg && decide (0 < a)) (a / Nat.gcd a b) (b / Nat.gcd a b) := by
  show RatV _ _ _ = _
  rw [rat_neg neg hb, rat_abs neg hb, rat_den neg hb]
theorem LowRes.toRat {neg : Bool} {a b : Nat} {e : Ending} (hb : 0 < b) (h : LowRes neg a b e) : RatRes (rat neg a b) e := by
  have hok : OkR (rat neg a b) ↔ OkN (a / Nat.gcd a b) ∧ OkN (b / Nat.gcd a b) := by
    unfold OkR; rw [rat_abs neg hb, rat_den neg hb]
  rcases h with ⟨h1, h2, rfl⟩ | ⟨h1, rfl⟩
  · exact .inl ⟨hok.2 ⟨h1, h2⟩, by rw [← rat_RV neg hb]⟩
  · exact .inr ⟨fun h => h1 (hok.1 h), rfl⟩
theorem rat_self (x : Rat) : rat (decide (x.num < 0)) x.num.natAbs x.den = x := by
  unfold rat; have e : (if decide (x.num < 0) = true then -((x.num.natAbs : Nat) : Int) else (x.num.natAbs : Int)) = x.num := by
    by_cases h : x.num < 0
    · rw [if_pos (by simpa using h)]; omega
    · rw [if_neg (by simpa using h)]; omega
  rw [e]; exact Rat.mkRat_self x
theorem rat_parts {neg : Bool} {m n : Nat} (hn : 0 < n) (h : ¬ (neg = true ∧ m = 0)) (hg : Nat.gcd m n = 1) : RV (rat neg m n) = RatV neg m n ∧ (OkR (rat neg m n) ↔ OkN m ∧ OkN n) := by
  refine ⟨?_, ?_⟩
  · rw [rat_RV neg hn, hg, Nat.div_one, Nat.div_one]
    cases neg with
    | false => simp
    | true =>
      have : 0 < m := by
        rcases Nat.eq_zero_or_pos m with e | e
        · exact absurd ⟨rfl, e⟩ h
        · exact e
      simp [this]
  · unfold OkR; rw [rat_abs neg hn, rat_den neg hn, hg, Nat.div_one, Nat.div_one]
def IsR (neg : Bool) (s t : ByteArray) : Prop := ∃ x : Rat, OkR x ∧ neg = decide (x.num < 0) ∧ s = S x.num.natAbs ∧ t = S x.den
theorem isR_RV {x : Rat} (h : OkR x) : IsR (decide (x.num < 0)) (S x.num.natAbs) (S x.den) := ⟨x, h, rfl, rfl, rfl⟩
theorem isR_iff {neg : Bool} {m n : Nat} (hm : OkN m) (hn : OkN n) : IsR neg (S m) (S n) ↔ (0 < n ∧ ¬ (neg = true ∧ m = 0) ∧ Nat.gcd m n = 1) := by
  constructor
  · rintro ⟨x, hx, h1, h2, h3⟩; obtain rfl := S_inj h2; obtain rfl := S_inj h3; refine ⟨Nat.pos_of_ne_zero x.den_nz, ?_, x.reduced⟩; rintro ⟨e1, e2⟩; rw [h1] at e1; have := of_decide_eq_true e1
    omega
  · rintro ⟨h1, h2, h3⟩; obtain ⟨g1, g2⟩ := rat_parts h1 h2 h3; refine ⟨rat neg m n, g2.2 ⟨hm, hn⟩, ?_⟩
    simp only [RV, RatV, Value.agg.injEq] at g1
    have e := congrArg Array.toList g1
    simp at e
    exact ⟨e.1.symm, e.2.1.symm, e.2.2.symm⟩
theorem rat_add_same (neg : Bool) (a b c d : Nat) (hb : 0 < b) (hd : 0 < d) : rat neg (a * d + c * b) (b * d) = rat neg a b + rat neg c d := by
  unfold rat; rw [Rat.mkRat_add_mkRat _ _ (by omega) (by omega)]
  cases neg <;> simp
  congr 1
  rw [Int.neg_add, Int.neg_mul, Int.neg_mul]
theorem rat_mul (n1 n2 : Bool) (a b c d : Nat) : rat (n1 != n2) (a * c) (b * d) = rat n1 a b * rat n2 c d := by
  unfold rat; rw [Rat.mkRat_mul_mkRat]
  cases n1 <;> cases n2 <;> simp [Int.neg_mul, Int.mul_neg]
theorem rat_flip (neg : Bool) (a b : Nat) : rat (!neg) a b = - rat neg a b := by
  unfold rat; rw [Rat.neg_mkRat]
  cases neg <;> simp
theorem rat_sub_ge (neg : Bool) (a b c d : Nat) (hb : 0 < b) (hd : 0 < d) (h : c * b ≤ a * d) : rat neg (a * d - c * b) (b * d) = rat neg a b + rat (!neg) c d := by
  unfold rat; rw [Rat.mkRat_add_mkRat _ _ (by omega) (by omega)]
  congr 1
  have e : ((a * d - c * b : Nat) : Int) = (a : Int) * d - c * b := by rw [Int.natCast_sub h]; simp
  cases neg <;> simp [e] <;> grind
theorem rat_sub_lt (neg : Bool) (a b c d : Nat) (hb : 0 < b) (hd : 0 < d) (h : a * d ≤ c * b) : rat (!neg) (c * b - a * d) (b * d) = rat neg a b + rat (!neg) c d := by
  unfold rat; rw [Rat.mkRat_add_mkRat _ _ (by omega) (by omega)]
  congr 1
  have e : ((c * b - a * d : Nat) : Int) = (c : Int) * b - a * d := by rw [Int.natCast_sub h]; simp
  cases neg <;> simp [e] <;> grind
open Go.RowKit Dg

theorem size_nat (k : Nat) (w : World) (hk : k < 9223372036854775808) : Calls Tryz.prog 20 #[.int .i64 (k : Int)] w fun e w' => ∃ v, e = .returned v ∧ NatV w' v k ∧ Below w.heap.size w w' := by
  have HO := Lib.hid (of_any k w (by omega)); have d1 : decide ((k : Int) < 0) = false := decide_eq_false (by omega); have g1 : IntKind.u64.wrap (k : Int) = (k : Int) := IntWalk.u64_in _ (by omega); clear hk
  go_enter Tryz.func20, Tryz.ntmps20
  go_wp2_with fail
  refine HO.out.mono ?_; rintro e w1 ⟨v, rfl, hv, hb⟩
  go_wp2
  go_ret
  exact ⟨v, rfl, hv, hb⟩
theorem size_neg (k : Nat) (z : Int) (w : World) (hz : z = -(k : Int)) (hk0 : 0 < k) (hk : k ≤ 9223372036854775808) : Calls Tryz.prog 20 #[.int .i64 z] w fun e w' => ∃ v, e = .returned v ∧ NatV w' v k ∧ Below w.heap.size w w' := by
  have HO := Lib.hid (of_any k w (by omega)); have d1 : decide (z < 0) = true := decide_eq_true (by omega); have hz0 : z < 0 := by omega
  have g1 : IntKind.u64.wrap z = z + 18446744073709551616 := by rw [IntKind.wrap_u64]; omega
  have g2 : IntKind.u64.wrap (-(z + 18446744073709551616)) = (k : Int) := by rw [IntKind.wrap_u64]; omega
  have g3 : IntKind.u64.wrap (-18446744073709551616 + -z) = (k : Int) := by rw [IntKind.wrap_u64]; omega
  clear hk hz hk0
  go_enter Tryz.func20, Tryz.ntmps20
  go_wp2_with fail
  refine HO.out.mono ?_; rintro e w1 ⟨v, rfl, hv, hb⟩
  go_wp2
  go_ret
  exact ⟨v, rfl, hv, hb⟩
theorem size_any (z : Int) (w : World) (h1 : -9223372036854775808 ≤ z) (h2 : z ≤ 9223372036854775807) : Calls Tryz.prog 20 #[.int .i64 z] w fun e w' => ∃ v, e = .returned v ∧ NatV w' v z.natAbs ∧ Below w.heap.size w w' := by
  by_cases hz : z < 0
  · exact size_neg z.natAbs z w (by omega) (by omega) (by omega)
  · have := size_nat z.natAbs w (by omega); have e : ((z.natAbs : Nat) : Int) = z := by omega
    rw [e] at this; exact this
theorem dw64 {n : Nat} (h : n < 18446744073709551616) : (dw n).length ≤ 2 := dg_le b32 (by show n < 4294967296 ^ 2; omega)

theorem make_any (num den : Int) (w : World) (h1 : -9223372036854775808 ≤ num) (h2 : num ≤ 9223372036854775807) (h3 : -9223372036854775808 ≤ den) (h4 : den ≤ 9223372036854775807) (hd : den ≠ 0) :
    Calls Tryz.prog 7 #[.int .i64 num, .int .i64 den] w fun e w' => LowRes (decide (num < 0) != decide (den < 0)) num.natAbs den.natAbs e ∧ Below w.heap.size w w' := by
  have S1 := Lib.hid (fun w => size_any num w h1 h2); have S2 := Lib.hid (fun w => size_any den w h3 h4); have l1 := dw64 (n := num.natAbs) (by omega); have l2 := dw64 (n := den.natAbs) (by omega); have hd0 : 0 < den.natAbs := by omega
  have b0 : (den == 0) = false := beq_eq_false_iff_ne.2 hd; clear hd h1 h2 h3 h4; have l1' := Lib.hid l1; have l2' := Lib.hid l2; clear l1 l2; have key : ∀ x1 x2 : Bool, decide (num < 0) = x1 → decide (den < 0) = x2 → Calls Tryz.prog 7 #[.int .i64 num, .int .i64 den] w fun e w' => LowRes (x1 != x2) num.natAbs den.natAbs e ∧ Below w.heap.size w w' := by
    intro x1 x2 t1 t2
    cases x1 <;> cases x2
    all_goals
      go_enter Tryz.func7, Tryz.ntmps7
      go_wp2_with fail
      have hor : Own (w.alloc (.cells #[.bool false, .string ⟨#[]⟩, .string ⟨#[]⟩] 26)) w.heap.size 26 [.bool false, .string ⟨#[]⟩, .string ⟨#[]⟩] := Own.new w _ _; have hbb : Below w.heap.size w (w.alloc (.cells #[.bool false, .string ⟨#[]⟩, .string ⟨#[]⟩] 26)) := (Below.refl _ _).alloc (Nat.le_refl _) _; generalize (w.alloc (.cells #[.bool false, .string ⟨#[]⟩, .string ⟨#[]⟩] 26)) = wb at hor hbb ⊢; refine (S1.out _).mono ?_; rintro e w1 ⟨v1, rfl, hv1, hb1⟩; have or1 := hor.below hb1 hor.lt; have s1 := hbb.trans (hb1.mono hbb.size); clear hor hbb hb1
      go_wp2_with fail
      refine (S2.out _).mono ?_; rintro e w2 ⟨v2, rfl, hv2, hb2⟩; have or2 := or1.below hb2 or1.lt; have s2 := s1.trans (hb2.mono s1.size); have hv1' := hv1.below hb2; clear or1 s1 hb2 hv1; have N1 := Lib.hid hv1'; have N2 := Lib.hid hv2; obtain ⟨A1, c1, rfl, -⟩ := hv1'; obtain ⟨A2, c2, rfl, -⟩ := hv2
      go_wp2_with fail
      refine (lowest_any _ _ _ _ _ _ N1.out N2.out (by have := l1'.out; omega) (by have := l2'.out; omega) hd0).mono ?_; rintro e w3 ⟨hlow, hb3⟩; have or3 := or2.below hb3 or2.lt; have s3 := s2.trans (hb3.mono s2.size); clear or2 s2 hb3; obtain ⟨hr0, hr1, hr2⟩ := or3.cells3; obtain ⟨hf0, hf1, hf2⟩ := or3.frozens3
      rcases hlow with ⟨hp, hq, rfl⟩ | ⟨hpq, rfl⟩
      · have HP := Lib.hid hp; have HQ := Lib.hid hq; clear hp hq; generalize hbx : (_ && decide (0 < num.natAbs)) = bx at *; have HBX := Lib.hid hbx; clear hbx; have oz : Own (((w3.setCell ⟨w.heap.size, 0, none⟩ (Value.bool bx)).setCell ⟨w.heap.size, 1, none⟩ (Value.string (S (num.natAbs / num.natAbs.gcd den.natAbs)))).setCell ⟨w.heap.size, 2, none⟩ (Value.string (S (den.natAbs / num.natAbs.gcd den.natAbs)))) (w.heap.size) 26 [Value.bool bx, Value.string (S (num.natAbs / num.natAbs.gcd den.natAbs)), Value.string (S (den.natAbs / num.natAbs.gcd den.natAbs))] := ((or3.set_ 0 (Value.bool bx)).set_ 1 (Value.string (S (num.natAbs / num.natAbs.gcd den.natAbs)))).set_ 2 (Value.string (S (den.natAbs / num.natAbs.gcd den.natAbs))); have sz : Below w.heap.size w (((w3.setCell ⟨w.heap.size, 0, none⟩ (Value.bool bx)).setCell ⟨w.heap.size, 1, none⟩ (Value.string (S (num.natAbs / num.natAbs.gcd den.natAbs)))).setCell ⟨w.heap.size, 2, none⟩ (Value.string (S (den.natAbs / num.natAbs.gcd den.natAbs)))) := ((s3.setCell (Nat.le_refl _) _).setCell (Nat.le_refl _) _).setCell (Nat.le_refl _) _
        go_wp2_with fail
        generalize (((w3.setCell ⟨w.heap.size, 0, none⟩ (Value.bool bx)).setCell ⟨w.heap.size, 1, none⟩ (Value.string (S (num.natAbs / num.natAbs.gcd den.natAbs)))).setCell ⟨w.heap.size, 2, none⟩ (Value.string (S (den.natAbs / num.natAbs.gcd den.natAbs)))) = wz at oz sz ⊢; obtain ⟨z0, z1, z2⟩ := oz.cells3; exact bodyPost_ret (v := .tuple #[.agg #[Value.bool bx, Value.string (S (num.natAbs / num.natAbs.gcd den.natAbs)), Value.string (S (den.natAbs / num.natAbs.gcd den.natAbs))], .int .i64 0]) (by simp [results, Tryz.results7, go_sem, z0, z1, z2]) rfl ⟨.inl ⟨HP.out, HQ.out, by rw [← HBX.out]; rfl⟩, sz⟩
      · have HPQ : Hid (¬ (OkN (num.natAbs / num.natAbs.gcd den.natAbs) ∧ OkN (den.natAbs / num.natAbs.gcd den.natAbs))) := hpq; clear hpq; have oz : Own (((w3.setCell ⟨w.heap.size, 0, none⟩ (Value.bool false)).setCell ⟨w.heap.size, 1, none⟩ (Value.string ⟨#[]⟩)).setCell ⟨w.heap.size, 2, none⟩ (Value.string ⟨#[]⟩)) (w.heap.size) 26 [Value.bool false, Value.string ⟨#[]⟩, Value.string ⟨#[]⟩] := ((or3.set_ 0 (Value.bool false)).set_ 1 (Value.string ⟨#[]⟩)).set_ 2 (Value.string ⟨#[]⟩); have sz : Below w.heap.size w (((w3.setCell ⟨w.heap.size, 0, none⟩ (Value.bool false)).setCell ⟨w.heap.size, 1, none⟩ (Value.string ⟨#[]⟩)).setCell ⟨w.heap.size, 2, none⟩ (Value.string ⟨#[]⟩)) := ((s3.setCell (Nat.le_refl _) _).setCell (Nat.le_refl _) _).setCell (Nat.le_refl _) _
        go_wp2_with fail
        generalize (((w3.setCell ⟨w.heap.size, 0, none⟩ (Value.bool false)).setCell ⟨w.heap.size, 1, none⟩ (Value.string ⟨#[]⟩)).setCell ⟨w.heap.size, 2, none⟩ (Value.string ⟨#[]⟩)) = wz at oz sz ⊢; obtain ⟨z0, z1, z2⟩ := oz.cells3; exact bodyPost_ret (v := .tuple #[.agg #[Value.bool false, Value.string ⟨#[]⟩, Value.string ⟨#[]⟩], .int .i64 2]) (by simp [results, Tryz.results7, go_sem, z0, z1, z2]) rfl ⟨.inr ⟨HPQ.out, rfl⟩, sz⟩
  exact key _ _ rfl rfl

theorem okn_small {n : Nat} (h : n < 10000000000) : OkN n := by
  have : (dec n).length ≤ 10 := dec_len_le (by decide) h; unfold OkN; omega
open Go.RowKit Dg

open Go.RowKit Dg

theorem OkN.mono {m n : Nat} (h : OkN n) (hmn : m ≤ n) : OkN m := by
  unfold OkN at *
  rcases Nat.lt_or_ge (dec n).length (dec m).length with h1 | h1
  · have := dec_lt_of_len h1; omega
  · omega
theorem below6 {w w1 w2 : World} (h1 : Below w.heap.size w w1) (h2 : Below w1.heap.size w1 w2) : Below w.heap.size w w2 := h1.trans (h2.mono h1.size)
theorem okS_0 : S 0 = ⟨#[48]⟩ := rfl
theorem str_ne {s : ByteArray} (h : s ≠ ⟨#[48]⟩) : (s.toList == [48]) = false := by
  rw [beq_eq_false_iff_ne]; intro e
  apply h
  apply ba_ext
  rw [← ByteArray.toList_eq, e]
end Go.Proofs.YtffldjghdcfpiaaGreatDoor
