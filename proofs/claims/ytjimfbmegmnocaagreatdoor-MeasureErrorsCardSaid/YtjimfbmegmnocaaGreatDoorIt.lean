/- Parts of the proof: Rt, La, Ia, Ic, Id, Oq, Rd, Rf, Rk, Ja, If, Jb, En, Mk, It. No condition of its own. -/
import Derived.Test.YtjimfbmegmnocaaGreatDoorNv
import Derived.Test.YtjimfbmegmnocaaGreatDoorNm
import Derived.Test.YtjimfbmegmnocaaGreatDoorReg
import Derived.Test.YtjimfbmegmnocaaGreatDoorMem
import Derived.Maps.AppendAt
import Derived.Test.YtjimfbmegmnocaaGreatDoorRw
import Derived.Lib.LaidTab
import Derived.Lib.AppendIntMem
import Derived.Lib.ItoaNum
set_option linter.unusedSimpArgs false
set_option linter.unusedVariables false
set_option maxRecDepth 100000
set_option maxHeartbeats 4000000
namespace Go.Proofs.YtjimfbmegmnocaaGreatDoor
open Go.RowKit Dg

abbrev RV (x : Rat) : Value := RatV (decide (x.num < 0)) x.num.natAbs x.den
def OkR (x : Rat) : Prop := OkN x.num.natAbs /\ OkN x.den
def rat (neg : Bool) (a b : Nat) : Rat := mkRat (if neg then -(a : Int) else a) b
def RatRes (x : Rat) (e : Ending) : Prop := (OkR x /\ e = .returned (.tuple #[RV x, .int .i64 0])) \/ (¬ OkR x /\ e = .returned (.tuple #[Rat0, .int .i64 2]))
theorem RatRes.ok {x : Rat} {e : Ending} (h : RatRes x e) (hx : OkR x) : e = .returned (.tuple #[RV x, .int .i64 0]) := by
 rcases h with h | h
 ·exact h.2
 ·exact absurd hx h.1
theorem RatRes.eq {x : Rat} {e e' : Ending} (h : RatRes x e) (h' : RatRes x e') : e = e' := by
 rcases h with h | h
 ·rw [h.2, h'.ok h.1]
 ·rcases h' with h' | h'
  ·exact absurd h'.1 h.1
  ·rw [h.2, h'.2]
theorem natAbs_sgn (neg : Bool) (a : Nat) : (if neg then -(a : Int) else a).natAbs = a := by cases neg <;> simp
theorem rat_den (neg : Bool) {a b : Nat} (hb : 0 < b) : (rat neg a b).den = b / Nat.gcd a b := by
 unfold rat; rw [Rat.den_mkRat, if_neg (by omega), natAbs_sgn, Nat.gcd_comm]
theorem rat_num (neg : Bool) {a b : Nat} (hb : 0 < b) : (rat neg a b).num = if neg then -((a / Nat.gcd a b : Nat) : Int) else ((a / Nat.gcd a b : Nat) : Int) := by
 unfold rat; rw [Rat.num_mkRat, if_neg (by omega), natAbs_sgn, Nat.gcd_comm]
 cases neg with
 | false => simp
 | true =>
  simp only [if_true]
  rw [Int.neg_ediv_of_dvd (Int.natCast_dvd_natCast.2 (Nat.gcd_dvd_left a b))]
  simp
theorem rat_abs (neg : Bool) {a b : Nat} (hb : 0 < b) : (rat neg a b).num.natAbs = a / Nat.gcd a b := by
 rw [rat_num neg hb]; exact natAbs_sgn _ _
theorem gcd_pos_right {a b : Nat} (hb : 0 < b) : 0 < Nat.gcd a b := Nat.gcd_pos_of_pos_right a hb
theorem rat_neg (neg : Bool) {a b : Nat} (hb : 0 < b) : decide ((rat neg a b).num < 0) = (neg && decide (0 < a)) := by
 rw [rat_num neg hb]; have h : 0 < a / Nat.gcd a b ↔ 0 < a := by
  constructor
  ·intro h
   rcases Nat.eq_zero_or_pos a with e | e
   ·rw [e, Nat.zero_div] at h; omega
   ·exact e
  ·intro h; exact Nat.div_pos (Nat.gcd_le_left b h) (gcd_pos_right hb)
 cases neg with
 | false =>
  have : ¬ ((a / Nat.gcd a b : Nat) : Int) < 0 := Int.not_lt.2 (Int.natCast_nonneg _)
  simp only [Bool.false_eq_true, if_false, this, decide_false, Bool.false_and]
 | true =>
  simp only [if_true, Bool.true_and]
  rw [decide_eq_decide]
  omega
theorem rat_RV (neg : Bool) {a b : Nat} (hb : 0 < b) : RV (rat neg a b) = RatV (neg && decide (0 < a)) (a / Nat.gcd a b) (b / Nat.gcd a b) := by
 show RatV _ _ _ = _
 rw [rat_neg neg hb, rat_abs neg hb, rat_den neg hb]
theorem LowRes.toRat {neg : Bool} {a b : Nat} {e : Ending} (hb : 0 < b) (h : LowRes neg a b e) : RatRes (rat neg a b) e := by
 have hok : OkR (rat neg a b) ↔ OkN (a / Nat.gcd a b) /\ OkN (b / Nat.gcd a b) := by
  unfold OkR; rw [rat_abs neg hb, rat_den neg hb]
 rcases h with ⟨h1, h2, rfl⟩ | ⟨h1, rfl⟩
 ·exact .inl ⟨hok.2 ⟨h1, h2⟩, by rw [<- rat_RV neg hb]⟩
 ·exact .inr ⟨fun h => h1 (hok.1 h), rfl⟩
theorem rat_self (x : Rat) : rat (decide (x.num < 0)) x.num.natAbs x.den = x := by
 unfold rat; have e : (if decide (x.num < 0) = true then -((x.num.natAbs : Nat) : Int) else (x.num.natAbs : Int)) = x.num := by
  by_cases h : x.num < 0
  ·rw [if_pos (by simpa using h)]; omega
  ·rw [if_neg (by simpa using h)]; omega
 rw [e]; exact Rat.mkRat_self x
theorem rat_parts {neg : Bool} {m n : Nat} (hn : 0 < n) (h : ¬ (neg = true /\ m = 0)) (hg : Nat.gcd m n = 1) : RV (rat neg m n) = RatV neg m n /\ (OkR (rat neg m n) ↔ OkN m /\ OkN n) := by
 refine ⟨?_, ?_⟩
 ·rw [rat_RV neg hn, hg, Nat.div_one, Nat.div_one]
  cases neg with
  | false => simp
  | true =>
   have : 0 < m := by
    rcases Nat.eq_zero_or_pos m with e | e
    ·exact absurd ⟨rfl, e⟩ h
    ·exact e
   simp [this]
 ·unfold OkR; rw [rat_abs neg hn, rat_den neg hn, hg, Nat.div_one, Nat.div_one]
def IsR (neg : Bool) (s t : ByteArray) : Prop := ∃ x : Rat, OkR x /\ neg = decide (x.num < 0) /\ s = S x.num.natAbs /\ t = S x.den
theorem isR_RV {x : Rat} (h : OkR x) : IsR (decide (x.num < 0)) (S x.num.natAbs) (S x.den) := ⟨x, h, rfl, rfl, rfl⟩
theorem isR_iff {neg : Bool} {m n : Nat} (hm : OkN m) (hn : OkN n) : IsR neg (S m) (S n) ↔ (0 < n /\ ¬ (neg = true /\ m = 0) /\ Nat.gcd m n = 1) := by
 constructor
 ·rintro ⟨x, hx, h1, h2, h3⟩; obtain rfl := S_inj h2; obtain rfl := S_inj h3; refine ⟨Nat.pos_of_ne_zero x.den_nz, ?_, x.reduced⟩; rintro ⟨e1, e2⟩; rw [h1] at e1; have := of_decide_eq_true e1
  omega
 ·rintro ⟨h1, h2, h3⟩; obtain ⟨g1, g2⟩ := rat_parts h1 h2 h3; refine ⟨rat neg m n, g2.2 ⟨hm, hn⟩, ?_⟩
  simp only [RV, RatV, Value.agg.injEq] at g1
  have e := congrArg Array.toList g1
  simp at e
  exact ⟨e.1.symm, e.2.1.symm, e.2.2.symm⟩
open Go.RowKit Dg

theorem OkN.mono {m n : Nat} (h : OkN n) (hmn : m <= n) : OkN m := by
 unfold OkN at *
 rcases Nat.lt_or_ge (dec n).length (dec m).length with h1 | h1
 ·have := dec_lt_of_len h1; omega
 ·omega
theorem below6 {w w1 w2 : World} (h1 : Below w.heap.size w w1) (h2 : Below w1.heap.size w1 w2) : Below w.heap.size w w2 := h1.trans (h2.mono h1.size)
theorem okS_0 : S 0 = ⟨#[48]⟩ := rfl
theorem str_ne {s : ByteArray} (h : s ≠ ⟨#[48]⟩) : (s.toList == [48]) = false := by
 rw [beq_eq_false_iff_ne]; intro e
 apply h
 apply ba_ext
 rw [<- ByteArray.toList_eq, e]
def Wide (l : List Int) : Prop := ∀ x ∈ l, -9223372036854775808 <= x /\ x <= 9223372036854775807

open Go.RowKit Dg

theorem beqI_false {a b : Int} (h : a ≠ b) : (a == b) = false := beq_eq_false_iff_ne.2 h
theorem cmp1 {g : Nat} : (cmpI g 1 == 0) = decide (g = 1) := by
 unfold cmpI
 by_cases h1 : g < 1
 ·rw [if_pos h1]; have : g ≠ 1 := by omega
  simp [this]
 ·rw [if_neg h1]
  by_cases h2 : g = 1
  ·rw [if_pos h2]; simp [h2]
  ·rw [if_neg h2]; simp [h2]
def isRB (neg : Bool) (m n : Nat) : Bool := decide (0 < n /\ ¬ (neg = true /\ m = 0) /\ Nat.gcd m n = 1)
theorem isRB_gcd {neg : Bool} {m n : Nat} (hn : 0 < n) (h : ¬ (neg = true /\ m = 0)) : isRB neg m n = decide (Nat.gcd m n = 1) := by
 unfold isRB; rw [decide_eq_decide]; exact ⟨fun h' => h'.2.2, fun h' => ⟨hn, h, h'⟩⟩

theorem isratio_nat (neg : Bool) (m n : Nat) (w : World) (hm : OkN m) (hn : OkN n) (hs9 : n < 4294967296) :
  Calls Tryz.prog 99 #[RatV neg m n] w fun e w' => e = .returned (.bool (isRB neg m n)) /\ Below w.heap.size w w' := by
 have HS9 := Z' hs9; clear hs9; have hbb : Below w.heap.size w (w.alloc (.cells #[.bool neg, .string (S m), .string (S n)] 73)) := (Below.refl _ _).alloc (Nat.le_refl _) _; have hob : Own (w.alloc (.cells #[.bool neg, .string (S m), .string (S n)] 73)) w.heap.size 73 [.bool neg, .string (S m), .string (S n)] := Own.new w _ _; have HB := Z' (fun w => both_yes m n w hm hn); have hmd := hm.dw; have hnd := hn.dw; clear hm hn
 go_enter Tryz.func99, Tryz.ntmps99
 go_wp2_with fail
 generalize (w.alloc (.cells #[.bool neg, .string (S m), .string (S n)] 73)) = wb at hbb hob |-; have c1 : wb.cell? ⟨w.heap.size, 1, none⟩ = some (.string (S m)) := hob.cell 1; have c2 : wb.cell? ⟨w.heap.size, 2, none⟩ = some (.string (S n)) := hob.cell 2; generalize S m = sm at *; generalize S n = sn at *
 go_wp2_with fail
 refine (HB.out _).mono ?_; rintro e w1 ⟨v1, v2, rfl, hv1, hv2, hb1⟩; have HV1 := Z' hv1; have HV2 := Z' hv2; obtain ⟨A1, k1, rfl, hk1, hk1', -⟩ := hv1; obtain ⟨A2, k2, rfl, hk2, hk2', -⟩ := hv2; unfold maxLen at hk1' hk2'; replace hob := hob.below hb1 hob.lt; replace hbb := below6 hbb hb1; have c0 : w1.cell? ⟨w.heap.size, 0, none⟩ = some (.bool neg) := hob.cell 0; clear c1 c2 hb1 HB
 by_cases hn0 : n = 0
 ·subst hn0; have hz : (dw 0).length = 0 := rfl; rw [hz]; clear hk2 hnd hz
  go_wp2
  go_ret
  exact ⟨ret_bool rfl, hbb⟩
 have hn0' : 0 < n := by omega
 have hnl := dw_len_pos hn0'; have b0 : (((dw n).length : Int) == 0) = false := beqI_false (by omega)
 by_cases hng : neg = true /\ m = 0
 ·obtain ⟨rfl, rfl⟩ := hng; have hz : (dw 0).length = 0 := rfl; have HR : Hid (isRB true 0 n = false) := by show _ = _; unfold isRB; simp
  rw [hz]; clear hk1 hmd hz hn0 hn0'
  go_wp2
  go_ret
  exact ⟨ret_bool HR.out.symm, hbb⟩
 have HR := Z' (isRB_gcd hn0' hng); have HG := fun w h1 h2 => Z' (gcd_any (v1 := .slice A1 (dw m).length k1) (v2 := .slice A2 (dw n).length k2) (m := m) (n := n) w h1 h2 (by omega) (by omega) HS9.out)
 cases neg with
 | false =>
  clear hng hn0 hn0'
  go_wp2_with fail
  refine (HG _ HV1.out HV2.out).out.mono ?_; rintro e w2 ⟨v3, rfl, hv3, hb2⟩; replace hbb := below6 hbb hb2
  go_wp2_with fail
  refine (of_any 1 _ (by decide)).mono ?_; rintro e w3 ⟨v4, rfl, hv4, hb3⟩; replace hv3 := hv3.below hb3; replace hbb := below6 hbb hb3
  go_wp2_with fail
  refine (cmp_any _ hv3 hv4).mono ?_; rintro e w4 ⟨rfl, hb4⟩; replace hbb := below6 hbb hb4; clear c0 hob hb2 hb3 hb4 hv3 hv4
  go_wp2
  go_ret
  exact ⟨ret_bool (by rw [HR.out]; exact cmp1), hbb⟩
 | true =>
  have hm0 : 0 < m := by
   rcases Nat.eq_zero_or_pos m with e | e
   ·exact absurd ⟨rfl, e⟩ hng
   ·exact e
  have hml := dw_len_pos hm0; have b1 : (((dw m).length : Int) == 0) = false := beqI_false (by omega); clear hng hn0 hn0' hm0
  go_wp2_with fail
  refine (HG _ HV1.out HV2.out).out.mono ?_; rintro e w2 ⟨v3, rfl, hv3, hb2⟩; replace hbb := below6 hbb hb2
  go_wp2_with fail
  refine (of_any 1 _ (by decide)).mono ?_; rintro e w3 ⟨v4, rfl, hv4, hb3⟩; replace hv3 := hv3.below hb3; replace hbb := below6 hbb hb3
  go_wp2_with fail
  refine (cmp_any _ hv3 hv4).mono ?_; rintro e w4 ⟨rfl, hb4⟩; replace hbb := below6 hbb hb4; clear c0 hob hb2 hb3 hb4 hv3 hv4
  go_wp2
  go_ret
  exact ⟨ret_bool (by rw [HR.out]; exact cmp1), hbb⟩

theorem isratio_yes {x : Rat} (w : World) (h : OkR x) (hs9 : x.den < 4294967296) : Calls Tryz.prog 99 #[RV x] w fun e w' => e = .returned (.bool true) /\ Below w.heap.size w w' := by
 refine (isratio_nat _ _ _ w h.1 h.2 hs9).mono ?_; rintro e w' ⟨rfl, hb⟩; refine ⟨ret_bool (decide_eq_true ?_), hb⟩; exact (isR_iff h.1 h.2).1 (isR_RV h)
open Go.RowKit Dg

def noI (v : Value) : Bool := match v with | .int _ _ => false | _ => true
theorem noI_cw {v : Value} (h : noI v = true) (l : List Nat) : v ∉ cw l := by
 intro hm
 simp only [cw, List.mem_map] at hm
 obtain ⟨x, _, rfl⟩ := hm
 cases h
theorem NatV.set3 {w : World} {v : Value} {n g : Nat} {t : TypeId} {a b c : Value} (h : NatV w v n) (ho : Own w g t [a, b, c]) (x y z : Value) (hn : ([a, b, c, x, y, z].all noI) = true) :
  NatV (((w.setCell ⟨g, 0, none⟩ x).setCell ⟨g, 1, none⟩ y).setCell ⟨g, 2, none⟩ z) v n := by
 obtain ⟨A, k, rfl, h1, h2, h3⟩ := h; refine ⟨A, k, rfl, h1, h2, Rd.set3 h3 ho x y z fun v hv => noI_cw ?_ _⟩; exact List.all_eq_true.1 hn v hv
def NumOk (L : Nat) (x : Rat) (w : World) (v : Value) : Prop := ∃ neg v1 v2 a b, v = .agg #[.bool neg, v1, v2] /\ NatV w v1 a /\ NatV w v2 b /\ 0 < b /\ (dw a).length <= L /\ (dw b).length <= L /\ x = rat neg a b
open Go.RowKit Dg

def NatO (S : Nat -> Prop) (w : World) (v : Value) (n : Nat) : Prop := ∃ A c, v = .slice A (dw n).length c /\ (dw n).length <= c /\ c <= maxLen /\ RdOut S w A (cw (dw n))
section
variable {S T : Nat -> Prop} {w w' : World} {v : Value} {n : Nat}
theorem NatO.chg (h : NatO S w v n) (hc : Chg S w w') : NatO S w' v n := let ⟨A, c, e, h1, h2, h3⟩ := h; ⟨A, c, e, h1, h2, h3.chg hc⟩
theorem NatO.to (h : NatO S w v n) (hT : ∀ k, k < w.heap.size -> T k -> S k) : NatO T w v n := by
 obtain ⟨A, c, e, h1, h2, h3⟩ := h; refine ⟨A, c, e, h1, h2, fun j u hu => ?_⟩; obtain ⟨b, off, e1, e2, e3⟩ := h3 j u hu; exact ⟨b, off, e1, fun ht => e2 (hT b (World.block_lt_of_cell? w _ e3) ht), e3⟩
theorem NatV.fresh {B : Nat} (h : NatV w v n) (hb : ∀ k, v.ownBlock = some k -> B <= k) : NatO (fun k => k < B) w v n := by
 obtain ⟨A, c, rfl, h1, h2, h3⟩ := h; refine ⟨A, c, rfl, h1, h2, fun j u hu => ?_⟩; obtain ⟨b, off, rfl, e3⟩ := h3 j u hu; refine ⟨b, off, rfl, fun hlt => ?_, e3⟩; have := hb b rfl
 omega
end
def NumL (S : Nat -> Prop) (w : World) : List Value -> List Rat -> Prop
 | [], [] => True
 | a :: b :: c :: r, x :: xs => a = .bool (decide (x.num < 0)) /\ NatO S w b x.num.natAbs /\ NatO S w c x.den /\ NumL S w r xs
 | _, _ => False
section
variable {S T : Nat -> Prop} {w w' : World}
theorem NumL.map (f : ∀ v n, NatO S w v n -> NatO T w' v n) : ∀ (l : List Value) (xs : List Rat), NumL S w l xs -> NumL T w' l xs
 | [], [], _ => trivial
 | a :: b :: c :: r, x :: xs, h => ⟨h.1, f _ _ h.2.1, f _ _ h.2.2.1, NumL.map f r xs h.2.2.2⟩
 | [], _ :: _, h => h.elim
 | [_], [], h => h.elim
 | [_], _ :: _, h => h.elim
 | [_, _], [], h => h.elim
 | [_, _], _ :: _, h => h.elim
 | _ :: _ :: _ :: _, [], h => h.elim
end
theorem NatO.below {S : Nat -> Prop} {w w' : World} {v : Value} {n : Nat} (h : NatO S w v n) (hb : Below w.heap.size w w') : NatO S w' v n := h.chg (Chg.of_below hb fun k h1 h2 => by omega)
open Go.RowKit Dg

theorem ratRes_one (z : Rat) : ∃ n s t k, (∀ e, RatRes z e -> e = .returned (.tuple #[.agg #[.bool n, .string s, .string t], .int .i64 k])) /\ RatRes z (.returned (.tuple #[.agg #[.bool n, .string s, .string t], .int .i64 k])) := by
 by_cases h : OkR z
 ·exact ⟨_, _, _, _, fun e he => he.ok h, .inl ⟨h, rfl⟩⟩
 ·refine ⟨_, _, _, _, fun e he => ?_, .inr ⟨h, rfl⟩⟩
  rcases he with he | he
  ·exact absurd he.1 h
  ·exact he.2
theorem NumOk.below {L : Nat} {z : Rat} {w w' : World} {v : Value} (h : NumOk L z w v) (hb : Below w.heap.size w w') : NumOk L z w' v := by
 obtain ⟨neg, v1, v2, a, b, rfl, h1, h2, h3⟩ := h; exact ⟨neg, v1, v2, a, b, rfl, h1.below hb, h2.below hb, h3⟩
open Go.RowKit Dg

theorem OkN.size {n : Nat} (h : OkN n) : (S n).size <= maxLen := by rw [S_size]; unfold OkN at h; unfold maxLen; omega
theorem den_pos (x : Rat) : 0 < x.den := Nat.pos_of_ne_zero x.den_nz
section
variable {n1 n2 : Bool} {s1 t1 s2 t2 : ByteArray} (hs1 : s1.size <= maxLen) (ht1 : t1.size <= maxLen) (hs2 : s2.size <= maxLen) (ht2 : t2.size <= maxLen) (h : ¬ (IsR n1 s1 t1 /\ IsR n2 s2 t2)) (w : World)
include hs1 ht1 hs2 ht2 h
end
open Go.RowKit Dg

theorem of_core (neg : Bool) (a b : Nat) (h1 : OkN a) (h2 : OkN b) (hb : 0 < b) (hs9 : b < 4294967296) (w : World) :
  Calls Tryz.prog 78 #[.bool neg, .string (S a), .string (S b)] w fun e w' => RatRes (rat neg a b) e /\ Below w.heap.size w w' := by
 have HS9 := Z' hs9; clear hs9; have HB := Z' (fun w => both_yes a b w h1 h2); have HD := Z' hb; have HL := Z' (dw_len_pos hb); have L1 := Z' h1.dw; have L2 := Z' h2.dw; obtain ⟨nz, sz, tz, kz, hend, hres⟩ := ratRes_one (rat neg a b); have HEND := Z' hend; have HRES := Z' hres; clear hend hres hb h1 h2; generalize S a = sa at *; generalize S b = sb at *; obtain ⟨o_r, hbw⟩ := new1 w [.bool false, .string ⟨#[]⟩, .string ⟨#[]⟩] 73
 go_enter Tryz.func78, Tryz.ntmps78
 go_upto_region 1 with (fail)
 generalize (w.alloc (.cells #[.bool false, .string ⟨#[]⟩, .string ⟨#[]⟩] 73)) = wb at o_r hbw |-
 go_wp2_with fail
 refine (HB.out _).mono ?_; rintro e w1 ⟨v1, v2, rfl, hv1, hv2, hb1⟩; replace o_r := o_r.below hb1 o_r.lt; replace hbw := below6 hbw hb1; clear hb1; have X1 := Z' hv1; have X2 := Z' hv2; obtain ⟨A1, c1, rfl, -⟩ := hv1; obtain ⟨A2, c2, rfl, -⟩ := hv2; have b0 : (((dw b).length : Int) == 0) = false := beqI_false (by have := HL.out; omega)
 go_wp2_with fail
 refine (lowest_any neg _ _ a b _ X1.out X2.out (by have := L1.out; omega) (by have := L2.out; omega) HD.out HS9.out).mono ?_; rintro e w9 ⟨hl, hb9⟩; have he := HEND.out _ (hl.toRat HD.out); subst he; replace o_r := o_r.below hb9 o_r.lt; replace hbw := below6 hbw hb9; clear hb9 hl; obtain ⟨qr_0, qr_1, qr_2⟩ := o_r.cells3; obtain ⟨fr_0, fr_1, fr_2⟩ := o_r.frozens3; have oz := o_r.set3 (.bool nz) (.string sz) (.string tz); have sz9 := Below.set3 hbw (g := w.heap.size) (by omega) (.bool nz) (.string sz) (.string tz)
 go_wp2_with fail
 generalize (((w9.setCell ⟨w.heap.size, 0, none⟩ (.bool nz)).setCell ⟨w.heap.size, 1, none⟩ (.string sz)).setCell ⟨w.heap.size, 2, none⟩ (.string tz)) = wz at oz sz9 |-; obtain ⟨z0, z1, z2⟩ := oz.cells3; exact bodyPost_ret (v := .tuple #[.agg #[.bool nz, .string sz, .string tz], .int .i64 kz]) (by simp [results, Tryz.results78, go_sem, z0, z1, z2]) rfl ⟨HRES.out, sz9⟩
theorem of_zero (neg : Bool) (a : Nat) (h1 : OkN a) (w : World) :
  Calls Tryz.prog 78 #[.bool neg, .string (S a), .string (S 0)] w fun e w' => e = .returned (.tuple #[.agg #[.bool false, .string ⟨#[]⟩, .string ⟨#[]⟩], .int .i64 25]) /\ Below w.heap.size w w' := by
 have HB := Z' (fun w => both_yes a 0 w h1 (okn_small (by decide))); clear h1; generalize S a = sa at *; generalize S 0 = sb at *; obtain ⟨o_r, hbw⟩ := new1 w [.bool false, .string ⟨#[]⟩, .string ⟨#[]⟩] 73
 go_enter Tryz.func78, Tryz.ntmps78
 go_upto_region 1 with (fail)
 generalize (w.alloc (.cells #[.bool false, .string ⟨#[]⟩, .string ⟨#[]⟩] 73)) = wb at o_r hbw |-
 go_wp2_with fail
 refine (HB.out _).mono ?_; rintro e w1 ⟨v1, v2, rfl, hv1, hv2, hb1⟩; replace o_r := o_r.below hb1 o_r.lt; replace hbw := below6 hbw hb1; clear hb1; obtain ⟨A1, c1, rfl, -⟩ := hv1; obtain ⟨A2, c2, rfl, -⟩ := hv2; have e0 : (dw 0).length = 0 := rfl; rw [e0]; clear e0; obtain ⟨qr_0, qr_1, qr_2⟩ := o_r.cells3; obtain ⟨fr_0, fr_1, fr_2⟩ := o_r.frozens3; have oz := o_r.set3 (.bool false) (.string ⟨#[]⟩) (.string ⟨#[]⟩); have sz9 := Below.set3 hbw (g := w.heap.size) (by omega) (.bool false) (.string ⟨#[]⟩) (.string ⟨#[]⟩)
 go_wp2_with fail
 generalize (((w1.setCell ⟨w.heap.size, 0, none⟩ (.bool false)).setCell ⟨w.heap.size, 1, none⟩ (.string ⟨#[]⟩)).setCell ⟨w.heap.size, 2, none⟩ (.string ⟨#[]⟩)) = wz at oz sz9 |-; obtain ⟨z0, z1, z2⟩ := oz.cells3; exact bodyPost_ret (v := .tuple #[.agg #[.bool false, .string ⟨#[]⟩, .string ⟨#[]⟩], .int .i64 25]) (by simp [results, Tryz.results78, go_sem, z0, z1, z2]) rfl ⟨rfl, sz9⟩
open Go.RowKit

theorem BigV.set {w : World} {v : Value} {n g i : Nat} {u : Value} (h : BigV w v n) (hn : v.ownBlock ≠ some g) : BigV (w.setCell ⟨g, i, none⟩ u) v n := by
 obtain ⟨A, c, rfl, h1, h2, h3⟩ := h; refine ⟨A, c, rfl, h1, h2, ?_⟩; intro j x hx; obtain ⟨b, off, e, hc⟩ := h3 j x hx; subst e; refine ⟨b, off, rfl, ?_⟩; have hbg : g ≠ b := fun e => hn (by subst e; rfl); unfold World.cell? at hc |-; rw [Below.heap_setCell w ⟨g, i, none⟩ u b (fun e => hbg e.symm)]; exact hc

open Go.RowKit

open Go.RowKit Dg

theorem dec_small {n : Nat} (h : n < 10) : dec n = [n] := by
 have hx : ∀ d ∈ [n], d < 10 := by
  intro d hd; have : d = n := by simpa using hd
  omega
 have ht : Txt [n] := ⟨hx, by simp, fun h => by simp at h⟩; have := dec_num ht; have e : num [n] = n := by simp [num]
 rw [e] at this; exact this
theorem dec_step {n : Nat} (h : 10 <= n) : dec n = dec (n / 10) ++ [n % 10] := by
 have h1 : dec n = (Dg.dg 10 n).reverse := if_neg (by omega); have h2 : dec (n / 10) = (Dg.dg 10 (n / 10)).reverse := if_neg (by omega); rw [h1, h2, Dg.dg_pos (by decide) (by omega)]; simp

open Go.RowKit Dg

open Go.RowKit Dg

theorem dk_dec (n : Nat) : (dk n).length <= (dec n).length := by
 refine Dg.dg_le b10k (Nat.lt_of_lt_of_le (dec_lt n) (Nat.pow_le_pow_left (by decide) _))
theorem OkN.dk {n : Nat} (h : OkN n) : (dk n).length <= 20000 := Nat.le_trans (dk_dec n) h
open Go.RowKit Dg

theorem okn0 : OkN 0 := by unfold OkN; decide
theorem okn1 : OkN 1 := by unfold OkN; decide
theorem okS_1 : S 1 = ⟨#[49]⟩ := rfl
open Go.RowKit Dg

open Go.RowKit Dg

open Go.RowKit Dg

def cmpR (x y : Rat) : Int := if x < y then -1 else if x = y then 0 else 1
open Go.RowKit Dg

open Go.RowKit Dg

def RetV (f : FuncId) (args : Array Value) (v : Value) : Prop := ∀ w, Calls Tryz.prog f args w fun e w' => e = .returned v /\ Below w.heap.size w w'
theorem Own.set6 {w : World} {g : Nat} {t : TypeId} {a b c d e f : Value} (h : Own w g t [a, b, c, d, e, f]) (u v x y z q : Value) :
  Own ((((((w.setCell ⟨g, 0, none⟩ u).setCell ⟨g, 1, none⟩ v).setCell ⟨g, 2, none⟩ x).setCell ⟨g, 3, none⟩ y).setCell ⟨g, 4, none⟩ z).setCell ⟨g, 5, none⟩ q) g t [u, v, x, y, z, q] :=
 (((((h.set_ 0 u).set_ 1 v).set_ 2 x).set_ 3 y).set_ 4 z).set_ 5 q
theorem Below.set6 {B : Nat} {w w' : World} (h : Below B w w') {g : Nat} (hg : B <= g) (u v x y z q : Value) :
  Below B w ((((((w'.setCell ⟨g, 0, none⟩ u).setCell ⟨g, 1, none⟩ v).setCell ⟨g, 2, none⟩ x).setCell ⟨g, 3, none⟩ y).setCell ⟨g, 4, none⟩ z).setCell ⟨g, 5, none⟩ q) :=
 (((((h.setCell hg u).setCell hg v).setCell hg x).setCell hg y).setCell hg z).setCell hg q
theorem new4 (w : World) (c1 c2 c3 c4 : List Value) (t1 t2 t3 t4 : TypeId) :
  Own ((((w.alloc (.cells c1.toArray t1)).alloc (.cells c2.toArray t2)).alloc (.cells c3.toArray t3)).alloc (.cells c4.toArray t4)) w.heap.size t1 c1 /\ Own ((((w.alloc (.cells c1.toArray t1)).alloc (.cells c2.toArray t2)).alloc (.cells c3.toArray t3)).alloc (.cells c4.toArray t4)) (w.heap.size + 1) t2 c2 /\
  Own ((((w.alloc (.cells c1.toArray t1)).alloc (.cells c2.toArray t2)).alloc (.cells c3.toArray t3)).alloc (.cells c4.toArray t4)) (w.heap.size + 1 + 1) t3 c3 /\ Own ((((w.alloc (.cells c1.toArray t1)).alloc (.cells c2.toArray t2)).alloc (.cells c3.toArray t3)).alloc (.cells c4.toArray t4)) (w.heap.size + 1 + 1 + 1) t4 c4 /\
  Below w.heap.size w ((((w.alloc (.cells c1.toArray t1)).alloc (.cells c2.toArray t2)).alloc (.cells c3.toArray t3)).alloc (.cells c4.toArray t4)) := by
 obtain ⟨h1, h2, h3, h4⟩ := new3 w c1 c2 c3 t1 t2 t3; have hs : (((w.alloc (.cells c1.toArray t1)).alloc (.cells c2.toArray t2)).alloc (.cells c3.toArray t3)).heap.size = w.heap.size + 1 + 1 + 1 := by simp
 refine ⟨h1.alloc _, h2.alloc _, h3.alloc _, ?_, h4.alloc (by rw [hs]; omega) _⟩; have := Own.new (((w.alloc (.cells c1.toArray t1)).alloc (.cells c2.toArray t2)).alloc (.cells c3.toArray t3)) t4 c4; rw [hs] at this; exact this
open Go.RowKit Dg

open Go.RowKit Dg

def Tab (w : World) : Prop := Lib.TabIs Tryz.prog w "internal/strconv.uint64pow10" .u64 Lib.pow10Tab
theorem Tab.below {w w' : World} (h : Tab w) (hb : Below w.heap.size w w') : Tab w' := Lib.tabBelow_of_tabIs h w' hb
theorem tab_of_head {W : World} {rest : List (String × DataW Unit)} {d : DataW Unit} {ps : List MemPlace} {g : Nat} {t e : TypeId} {n : Nat} (hd : d = Lib.tabData .u64 Lib.pow10Tab)
  (hg : Tryz.prog.globalNamed "internal/strconv.uint64pow10" = some g) (hty : (Tryz.prog.globals[g]?).map (·.type) = some t) (ht : Tryz.prog.underlying t = some (.array n e)) (he : Tryz.prog.underlying e = some (.int .u64)) (hce : Tryz.prog.cellsOf e = 1) (hct : Tryz.prog.cellsOf t = n)
  (h : DataW.LaidVars Tryz.prog W (("internal/strconv.uint64pow10", d) :: rest) ps) : Tab W := by
 subst hd; obtain ⟨g', t', cs, fuel, p, q, hg', ht', hvar, hd, _, _⟩ := h; obtain rfl := Option.some.inj (hg.symm.trans hg'); obtain rfl := Option.some.inj (hty.symm.trans ht'); unfold Tab Lib.TabIs; rw [hvar, <- Lib.cells_of_tab ht he hce hct hd]
theorem decDigits_S (n : Nat) : (⟨(Lib.decDigits n).toArray⟩ : ByteArray) = S n := by
 apply ba_ext
 show Lib.decDigits n = (S n).data.toList
 induction n using Nat.strongRecOn with
 | _ n ih =>
  unfold Lib.decDigits
  by_cases h : n < 10
  ·rw [dif_pos h, S_list, dec_small h]; rfl
  ·rw [dif_neg h, ih (n / 10) (by omega), S_list, S_list, dec_step (n := n) (by omega), asc_append]; rfl
theorem itoa_S (n : Nat) : (⟨(Lib.itoa (n : Int)).toArray⟩ : ByteArray) = S n := by
 unfold Lib.itoa; rw [if_neg (by omega)]; exact decDigits_S n
theorem fromint_yes (k : Nat) (hk : k <= 9223372036854775807) (w : World) (ht : Tab w) : Calls Tryz.prog 97 #[.int .i64 (k : Int)] w fun e w' => e = .returned (.tuple #[.string (S k), .int .i64 0]) /\ Below w.heap.size w w' := by
 have HI : Hid (Calls Tryz.prog 118 #[.int .i64 (k : Int)] w fun e w' => e = .returned (.string (S k)) /\ Below w.heap.size w w') := (Tryz.strconv_Itoa (k : Int) (by omega) (by omega) w ht).mono fun e w' ⟨h1, j, os, h2⟩ => by
  rw [itoa_S] at h1; rw [h2]; exact ⟨h1, Lib.below_grow _ w (Nat.le_refl _) j os⟩
 have d1 : decide ((k : Int) < 0) = false := decide_eq_false (by omega); clear hk ht
 go_enter Tryz.func97, Tryz.ntmps97
 go_wp2_with fail
 refine HI.out.mono ?_; rintro e w1 ⟨rfl, hb⟩
 go_wp2
 go_ret2
 exact ⟨rfl, hb⟩
end Go.Proofs.YtjimfbmegmnocaaGreatDoor
