/- Parts of the proof: Rt, La, Ia. No condition of its own. -/
import Derived.Test.YtjimfbmegmnocaaGreatDoorNv
import Derived.Test.YtjimfbmegmnocaaGreatDoorNm
import Derived.Test.YtjimfbmegmnocaaGreatDoorReg
import Derived.Test.YtjimfbmegmnocaaGreatDoorMem
set_option linter.unusedSimpArgs false
set_option linter.unusedVariables false
set_option maxRecDepth 100000
set_option maxHeartbeats 4000000
namespace Go.Proofs.YtjimfbmegmnocaaGreatDoor
open Go.RowKit Dg

abbrev RV (x : Rat) : Value := RatV (decide (x.num < 0)) x.num.natAbs x.den
def OkR (x : Rat) : Prop := OkN x.num.natAbs /\ OkN x.den
def rat (neg : Bool) (a b : Nat) : Rat := mkRat (if neg then -(a : Int) else a) b
def RatRes (x : Rat) (e : Ending) : Prop := (OkR x /\ e = .returned (.tuple #[RV x, .int .i64 0])) \/ (¬ OkR x /\ e = .returned (.tuple #[Rat0, .int .i64 2]))
theorem RatRes.ok {x : Rat} {e : Ending} (h : RatRes x e) (hx : OkR x) : e = .returned (.tuple #[RV x, .int .i64 0]) := by
 rcases h with h | h
 ·exact h.2
 ·exact absurd hx h.1
theorem RatRes.eq {x : Rat} {e e' : Ending} (h : RatRes x e) (h' : RatRes x e') : e = e' := by
 rcases h with h | h
 ·rw [h.2, h'.ok h.1]
 ·rcases h' with h' | h'
  ·exact absurd h'.1 h.1
  ·rw [h.2, h'.2]
theorem natAbs_sgn (neg : Bool) (a : Nat) : (if neg then -(a : Int) else a).natAbs = a := by cases neg <;> simp
theorem rat_den (neg : Bool) {a b : Nat} (hb : 0 < b) : (rat neg a b).den = b / Nat.gcd a b := by
 unfold rat; rw [Rat.den_mkRat, if_neg (by omega), natAbs_sgn, Nat.gcd_comm]
theorem rat_num (neg : Bool) {a b : Nat} (hb : 0 < b) : (rat neg a b).num = if neg then -((a / Nat.gcd a b : Nat) : Int) else ((a / Nat.gcd a b : Nat) : Int) := by
 unfold rat; rw [Rat.num_mkRat, if_neg (by omega), natAbs_sgn, Nat.gcd_comm]
 cases neg with
 | false => simp
 | true =>
  simp only [if_true]
  rw [Int.neg_ediv_of_dvd (Int.natCast_dvd_natCast.2 (Nat.gcd_dvd_left a b))]
  simp
theorem rat_abs (neg : Bool) {a b : Nat} (hb : 0 < b) : (rat neg a b).num.natAbs = a / Nat.gcd a b := by
 rw [rat_num neg hb]; exact natAbs_sgn _ _
theorem gcd_pos_right {a b : Nat} (hb : 0 < b) : 0 < Nat.gcd a b := Nat.gcd_pos_of_pos_right a hb
theorem rat_neg (neg : Bool) {a b : Nat} (hb : 0 < b) : decide ((rat neg a b).num < 0) = (neg && decide (0 < a)) := by
 rw [rat_num neg hb]; have h : 0 < a / Nat.gcd a b ↔ 0 < a := by
  constructor
  ·intro h
   rcases Nat.eq_zero_or_pos a with e | e
   ·rw [e, Nat.zero_div] at h; omega
   ·exact e
  ·intro h; exact Nat.div_pos (Nat.gcd_le_left b h) (gcd_pos_right hb)
 cases neg with
 | false =>
  have : ¬ ((a / Nat.gcd a b : Nat) : Int) < 0 := Int.not_lt.2 (Int.natCast_nonneg _)
  simp only [Bool.false_eq_true, if_false, this, decide_false, Bool.false_and]
 | true =>
  simp only [if_true, Bool.true_and]
  rw [decide_eq_decide]
  omega
theorem rat_RV (neg : Bool) {a b : Nat} (hb : 0 < b) : RV (rat neg a b) = RatV (neg && decide (0 < a)) (a / Nat.gcd a b) (b / Nat.gcd a b) := by
 show RatV _ _ _ = _
 rw [rat_neg neg hb, rat_abs neg hb, rat_den neg hb]
theorem LowRes.toRat {neg : Bool} {a b : Nat} {e : Ending} (hb : 0 < b) (h : LowRes neg a b e) : RatRes (rat neg a b) e := by
 have hok : OkR (rat neg a b) ↔ OkN (a / Nat.gcd a b) /\ OkN (b / Nat.gcd a b) := by
  unfold OkR; rw [rat_abs neg hb, rat_den neg hb]
 rcases h with ⟨h1, h2, rfl⟩ | ⟨h1, rfl⟩
 ·exact .inl ⟨hok.2 ⟨h1, h2⟩, by rw [<- rat_RV neg hb]⟩
 ·exact .inr ⟨fun h => h1 (hok.1 h), rfl⟩
theorem rat_self (x : Rat) : rat (decide (x.num < 0)) x.num.natAbs x.den = x := by
 unfold rat; have e : (if decide (x.num < 0) = true then -((x.num.natAbs : Nat) : Int) else (x.num.natAbs : Int)) = x.num := by
  by_cases h : x.num < 0
  ·rw [if_pos (by simpa using h)]; omega
  ·rw [if_neg (by simpa using h)]; omega
 rw [e]; exact Rat.mkRat_self x
theorem rat_parts {neg : Bool} {m n : Nat} (hn : 0 < n) (h : ¬ (neg = true /\ m = 0)) (hg : Nat.gcd m n = 1) : RV (rat neg m n) = RatV neg m n /\ (OkR (rat neg m n) ↔ OkN m /\ OkN n) := by
 refine ⟨?_, ?_⟩
 ·rw [rat_RV neg hn, hg, Nat.div_one, Nat.div_one]
  cases neg with
  | false => simp
  | true =>
   have : 0 < m := by
    rcases Nat.eq_zero_or_pos m with e | e
    ·exact absurd ⟨rfl, e⟩ h
    ·exact e
   simp [this]
 ·unfold OkR; rw [rat_abs neg hn, rat_den neg hn, hg, Nat.div_one, Nat.div_one]
def IsR (neg : Bool) (s t : ByteArray) : Prop := ∃ x : Rat, OkR x /\ neg = decide (x.num < 0) /\ s = S x.num.natAbs /\ t = S x.den
theorem isR_RV {x : Rat} (h : OkR x) : IsR (decide (x.num < 0)) (S x.num.natAbs) (S x.den) := ⟨x, h, rfl, rfl, rfl⟩
theorem isR_iff {neg : Bool} {m n : Nat} (hm : OkN m) (hn : OkN n) : IsR neg (S m) (S n) ↔ (0 < n /\ ¬ (neg = true /\ m = 0) /\ Nat.gcd m n = 1) := by
 constructor
 ·rintro ⟨x, hx, h1, h2, h3⟩; obtain rfl := S_inj h2; obtain rfl := S_inj h3; refine ⟨Nat.pos_of_ne_zero x.den_nz, ?_, x.reduced⟩; rintro ⟨e1, e2⟩; rw [h1] at e1; have := of_decide_eq_true e1
  omega
 ·rintro ⟨h1, h2, h3⟩; obtain ⟨g1, g2⟩ := rat_parts h1 h2 h3; refine ⟨rat neg m n, g2.2 ⟨hm, hn⟩, ?_⟩
  simp only [RV, RatV, Value.agg.injEq] at g1
  have e := congrArg Array.toList g1
  simp at e
  exact ⟨e.1.symm, e.2.1.symm, e.2.2.symm⟩
open Go.RowKit Dg

theorem OkN.mono {m n : Nat} (h : OkN n) (hmn : m <= n) : OkN m := by
 unfold OkN at *
 rcases Nat.lt_or_ge (dec n).length (dec m).length with h1 | h1
 ·have := dec_lt_of_len h1; omega
 ·omega
theorem below6 {w w1 w2 : World} (h1 : Below w.heap.size w w1) (h2 : Below w1.heap.size w1 w2) : Below w.heap.size w w2 := h1.trans (h2.mono h1.size)
theorem okS_0 : S 0 = ⟨#[48]⟩ := rfl
theorem str_ne {s : ByteArray} (h : s ≠ ⟨#[48]⟩) : (s.toList == [48]) = false := by
 rw [beq_eq_false_iff_ne]; intro e
 apply h
 apply ba_ext
 rw [<- ByteArray.toList_eq, e]
def Wide (l : List Int) : Prop := ∀ x ∈ l, -9223372036854775808 <= x /\ x <= 9223372036854775807

open Go.RowKit Dg

theorem beqI_false {a b : Int} (h : a ≠ b) : (a == b) = false := beq_eq_false_iff_ne.2 h
theorem cmp1 {g : Nat} : (cmpI g 1 == 0) = decide (g = 1) := by
 unfold cmpI
 by_cases h1 : g < 1
 ·rw [if_pos h1]; have : g ≠ 1 := by omega
  simp [this]
 ·rw [if_neg h1]
  by_cases h2 : g = 1
  ·rw [if_pos h2]; simp [h2]
  ·rw [if_neg h2]; simp [h2]
def isRB (neg : Bool) (m n : Nat) : Bool := decide (0 < n /\ ¬ (neg = true /\ m = 0) /\ Nat.gcd m n = 1)
theorem isRB_gcd {neg : Bool} {m n : Nat} (hn : 0 < n) (h : ¬ (neg = true /\ m = 0)) : isRB neg m n = decide (Nat.gcd m n = 1) := by
 unfold isRB; rw [decide_eq_decide]; exact ⟨fun h' => h'.2.2, fun h' => ⟨hn, h, h'⟩⟩

theorem isratio_nat (neg : Bool) (m n : Nat) (w : World) (hm : OkN m) (hn : OkN n) :
  Calls Tryz.prog 99 #[RatV neg m n] w fun e w' => e = .returned (.bool (isRB neg m n)) /\ Below w.heap.size w w' := by
 have hbb : Below w.heap.size w (w.alloc (.cells #[.bool neg, .string (S m), .string (S n)] 73)) := (Below.refl _ _).alloc (Nat.le_refl _) _; have hob : Own (w.alloc (.cells #[.bool neg, .string (S m), .string (S n)] 73)) w.heap.size 73 [.bool neg, .string (S m), .string (S n)] := Own.new w _ _; have HB := Lib.hid (fun w => both_yes m n w hm hn); have hmd := hm.dw; have hnd := hn.dw; clear hm hn
 go_enter Tryz.func99, Tryz.ntmps99
 go_wp2_with fail
 generalize (w.alloc (.cells #[.bool neg, .string (S m), .string (S n)] 73)) = wb at hbb hob |-; have c1 : wb.cell? ⟨w.heap.size, 1, none⟩ = some (.string (S m)) := hob.cell 1; have c2 : wb.cell? ⟨w.heap.size, 2, none⟩ = some (.string (S n)) := hob.cell 2; generalize S m = sm at *; generalize S n = sn at *
 go_wp2_with fail
 refine (HB.out _).mono ?_; rintro e w1 ⟨v1, v2, rfl, hv1, hv2, hb1⟩; have HV1 := Lib.hid hv1; have HV2 := Lib.hid hv2; obtain ⟨A1, k1, rfl, hk1, hk1', -⟩ := hv1; obtain ⟨A2, k2, rfl, hk2, hk2', -⟩ := hv2; unfold maxLen at hk1' hk2'; replace hob := hob.below hb1 hob.lt; replace hbb := below6 hbb hb1; have c0 : w1.cell? ⟨w.heap.size, 0, none⟩ = some (.bool neg) := hob.cell 0; clear c1 c2 hb1 HB
 by_cases hn0 : n = 0
 ·subst hn0; have hz : (dw 0).length = 0 := rfl; rw [hz]; clear hk2 hnd hz
  go_wp2
  go_ret
  exact ⟨ret_bool rfl, hbb⟩
 have hn0' : 0 < n := by omega
 have hnl := dw_len_pos hn0'; have b0 : (((dw n).length : Int) == 0) = false := beqI_false (by omega)
 by_cases hng : neg = true /\ m = 0
 ·obtain ⟨rfl, rfl⟩ := hng; have hz : (dw 0).length = 0 := rfl; have HR : Hid (isRB true 0 n = false) := by show _ = _; unfold isRB; simp
  rw [hz]; clear hk1 hmd hz hn0 hn0'
  go_wp2
  go_ret
  exact ⟨ret_bool HR.out.symm, hbb⟩
 have HR := Lib.hid (isRB_gcd hn0' hng); have HG := fun w h1 h2 => Lib.hid (gcd_any (v1 := .slice A1 (dw m).length k1) (v2 := .slice A2 (dw n).length k2) (m := m) (n := n) w h1 h2 (by omega) (by omega))
 cases neg with
 | false =>
  clear hng hn0 hn0'
  go_wp2_with fail
  refine (HG _ HV1.out HV2.out).out.mono ?_; rintro e w2 ⟨v3, rfl, hv3, hb2⟩; replace hbb := below6 hbb hb2
  go_wp2_with fail
  refine (of_any 1 _ (by decide)).mono ?_; rintro e w3 ⟨v4, rfl, hv4, hb3⟩; replace hv3 := hv3.below hb3; replace hbb := below6 hbb hb3
  go_wp2_with fail
  refine (cmp_any _ hv3 hv4).mono ?_; rintro e w4 ⟨rfl, hb4⟩; replace hbb := below6 hbb hb4; clear c0 hob hb2 hb3 hb4 hv3 hv4
  go_wp2
  go_ret
  exact ⟨ret_bool (by rw [HR.out]; exact cmp1), hbb⟩
 | true =>
  have hm0 : 0 < m := by
   rcases Nat.eq_zero_or_pos m with e | e
   ·exact absurd ⟨rfl, e⟩ hng
   ·exact e
  have hml := dw_len_pos hm0; have b1 : (((dw m).length : Int) == 0) = false := beqI_false (by omega); clear hng hn0 hn0' hm0
  go_wp2_with fail
  refine (HG _ HV1.out HV2.out).out.mono ?_; rintro e w2 ⟨v3, rfl, hv3, hb2⟩; replace hbb := below6 hbb hb2
  go_wp2_with fail
  refine (of_any 1 _ (by decide)).mono ?_; rintro e w3 ⟨v4, rfl, hv4, hb3⟩; replace hv3 := hv3.below hb3; replace hbb := below6 hbb hb3
  go_wp2_with fail
  refine (cmp_any _ hv3 hv4).mono ?_; rintro e w4 ⟨rfl, hb4⟩; replace hbb := below6 hbb hb4; clear c0 hob hb2 hb3 hb4 hv3 hv4
  go_wp2
  go_ret
  exact ⟨ret_bool (by rw [HR.out]; exact cmp1), hbb⟩

theorem isratio_yes {x : Rat} (w : World) (h : OkR x) : Calls Tryz.prog 99 #[RV x] w fun e w' => e = .returned (.bool true) /\ Below w.heap.size w w' := by
 refine (isratio_nat _ _ _ w h.1 h.2).mono ?_; rintro e w' ⟨rfl, hb⟩; refine ⟨ret_bool (decide_eq_true ?_), hb⟩; exact (isR_iff h.1 h.2).1 (isR_RV h)
open Go.RowKit Dg

def noI (v : Value) : Bool := match v with | .int _ _ => false | _ => true
theorem noI_cw {v : Value} (h : noI v = true) (l : List Nat) : v ∉ cw l := by
 intro hm
 simp only [cw, List.mem_map] at hm
 obtain ⟨x, _, rfl⟩ := hm
 cases h
theorem NatV.set3 {w : World} {v : Value} {n g : Nat} {t : TypeId} {a b c : Value} (h : NatV w v n) (ho : Own w g t [a, b, c]) (x y z : Value) (hn : ([a, b, c, x, y, z].all noI) = true) :
  NatV (((w.setCell ⟨g, 0, none⟩ x).setCell ⟨g, 1, none⟩ y).setCell ⟨g, 2, none⟩ z) v n := by
 obtain ⟨A, k, rfl, h1, h2, h3⟩ := h; refine ⟨A, k, rfl, h1, h2, Rd.set3 h3 ho x y z fun v hv => noI_cw ?_ _⟩; exact List.all_eq_true.1 hn v hv
def NumOk (L : Nat) (x : Rat) (w : World) (v : Value) : Prop := ∃ neg v1 v2 a b, v = .agg #[.bool neg, v1, v2] /\ NatV w v1 a /\ NatV w v2 b /\ 0 < b /\ (dw a).length <= L /\ (dw b).length <= L /\ x = rat neg a b
end Go.Proofs.YtjimfbmegmnocaaGreatDoor
