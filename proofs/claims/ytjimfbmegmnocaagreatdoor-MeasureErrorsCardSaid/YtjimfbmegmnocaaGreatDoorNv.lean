/- Parts of the proof: Nu, Nv. No condition of its own. -/
import Derived.Test.YtjimfbmegmnocaaGreatDoorNt
set_option linter.unusedSimpArgs false
set_option linter.unusedVariables false
set_option maxRecDepth 100000
set_option maxHeartbeats 4000000
namespace Go.Proofs.YtjimfbmegmnocaaGreatDoor
open Go.RowKit Dg

def OkN (n : Nat) : Prop := (dec n).length <= 20000
theorem dw_dec (n : Nat) : (dw n).length <= (dec n).length := by
 refine dg_le b32 (Nat.lt_of_lt_of_le (dec_lt n) (Nat.pow_le_pow_left (by decide) _))
theorem OkN.vld {n : Nat} (h : OkN n) : VLD (S n) := vld_S h
theorem OkN.dw {n : Nat} (h : OkN n) : (dw n).length <= 20000 := Nat.le_trans (dw_dec n) h
theorem blen_dec {n k : Nat} (h : (dec n).length <= k) : blen n <= 4 * k := by
 refine dg_le (Nat.le_refl 2) (Nat.lt_of_lt_of_le (dec_lt n) (Nat.le_trans (Nat.pow_le_pow_right (by decide) h) (pow16 k)))
theorem S_ne_0 {n : Nat} (h : 0 < n) : S n ≠ S 0 := fun e => by have := S_inj e; omega

theorem parse_S (n : Nat) (w : World) (h : OkN n) : Calls Tryz.prog 114 #[.string (S n)] w fun e w' => ∃ v, e = .returned v /\ NatV w' v n /\ Below w.heap.size w w' := by
 have := parse_any (S n) (dec n) w (S_list n) (dec_dig n) (by unfold OkN at h; omega)
 rwa [num_dec] at this

theorem both_yes (m n : Nat) (w : World) (hm : OkN m) (hn : OkN n) :
  Calls Tryz.prog 95 #[.string (S m), .string (S n)] w fun e w' => ∃ v1 v2, e = .returned (.tuple #[v1, v2, .bool true]) /\ NatV w' v1 m /\ NatV w' v2 n /\ Below w.heap.size w w' := by
 have H1 := Z' (fun w => valid_yes w hm.vld); have H2 := Z' (fun w => valid_yes w hn.vld); have P1 := Z' (fun w => parse_S m w hm); have P2 := Z' (fun w => parse_S n w hn); clear hm hn; generalize S m = s at H1 P1 |-; generalize S n = t at H2 P2 |-
 go_enter Tryz.func95, Tryz.ntmps95
 go_wp2_with fail
 refine (H1.out _).mono ?_; rintro e w1 ⟨rfl, rfl⟩
 go_wp2_with fail
 refine (H2.out _).mono ?_; rintro e w1 ⟨rfl, rfl⟩
 go_wp2_with fail
 refine (P1.out _).mono ?_; rintro e w1 ⟨v1, rfl, hv1, hb1⟩
 go_wp2_with fail
 refine (P2.out _).mono ?_; rintro e w2 ⟨v2, rfl, hv2, hb2⟩; have hv1' := hv1.below hb2
 go_wp2
 go_ret3
 exact ⟨v1, v2, rfl, hv1', hv2, hb1.trans (hb2.mono hb1.size)⟩
def TextRes (n : Nat) (e : Ending) : Prop := (OkN n /\ e = .returned (.tuple #[.string (S n), .int .i64 0])) \/ (¬ OkN n /\ e = .returned (.tuple #[.string ⟨#[]⟩, .int .i64 2]))
theorem TextRes.ok {n : Nat} {e : Ending} (h : TextRes n e) (hn : OkN n) : e = .returned (.tuple #[.string (S n), .int .i64 0]) := by
 rcases h with h | h
 ·exact h.2
 ·exact absurd hn h.1
theorem text_any {v : Value} {n : Nat} (w : World) (hv : NatV w v n) (hl : (dw n).length <= 1048000) :
  Calls Tryz.prog 117 #[v] w fun e w' => TextRes n e /\ Below w.heap.size w w' := by
 have HB := Z' (bits_any w hv (by omega)); have HS := Z' (string_any w hv hl); clear hv
 by_cases hb : 80000 < blen n
 ·have hno : Hid (¬ OkN n) := fun h => by have := blen_dec h; omega
  have d1 : decide ((80000 : Int) < (blen n : Int)) = true := decide_eq_true (by omega); have d2 : decide (80000 < blen n) = true := decide_eq_true hb; clear hb
  go_enter Tryz.func117, Tryz.ntmps117
  go_wp2_with fail
  refine HB.out.mono ?_; rintro e w1 ⟨rfl, rfl⟩
  go_wp2
  go_ret2
  exact ⟨.inr ⟨hno.out, rfl⟩, Below.refl _ _⟩
 ·have d1 : decide ((80000 : Int) < (blen n : Int)) = false := decide_eq_false (by omega); have d2 : decide (80000 < blen n) = false := decide_eq_false hb; have hsz := S_size n; clear hb
  by_cases hok : OkN n
  ·have hok1 : (S n).size <= 20000 := by rw [hsz]; exact hok
   have d3 : decide ((20000 : Int) < ((S n).size : Int)) = false := decide_eq_false (by omega); have d4 : decide (20000 < (S n).size) = false := decide_eq_false (by omega); have hok' := Z' hok; clear hok hsz
   go_enter Tryz.func117, Tryz.ntmps117
   go_wp2_with fail
   refine HB.out.mono ?_; rintro e w1 ⟨rfl, rfl⟩
   go_wp2_with fail
   refine HS.out.mono ?_; rintro e w1 ⟨rfl, hb1⟩
   go_wp2
   go_ret2
   exact ⟨.inl ⟨hok'.out, rfl⟩, hb1⟩
  ·have hok1 : 20000 < (S n).size := by rw [hsz]; unfold OkN at hok; omega
   have d3 : decide ((20000 : Int) < ((S n).size : Int)) = true := decide_eq_true (by omega); have d4 : decide (20000 < (S n).size) = true := decide_eq_true hok1; have hok' := Z' hok; clear hok hsz hok1
   go_enter Tryz.func117, Tryz.ntmps117
   go_wp2_with fail
   refine HB.out.mono ?_; rintro e w1 ⟨rfl, rfl⟩
   go_wp2_with fail
   refine HS.out.mono ?_; rintro e w1 ⟨rfl, hb1⟩
   go_wp2
   go_ret2
   exact ⟨.inr ⟨hok'.out, rfl⟩, hb1⟩

theorem operate_mul (R : Nat) (m n : Nat) (w : World) (hm : OkN m) (hn : OkN n) (hR : (dw R).length <= 1048000)
  (hf : ∀ v1 v2 w, NatV w v1 m -> NatV w v2 n -> Calls Tryz.prog 120 #[v1, v2] w fun e w' => ∃ v, e = .returned v /\ NatV w' v R /\ Below w.heap.size w w') :
  Calls Tryz.prog 119 #[.string (S m), .string (S n), .func (.func 120) #[] #[]] w fun e w' => TextRes R e /\ Below w.heap.size w w' := by
 have HB := Z' (both_yes m n w hm hn); have HF := Z' hf; clear hf; generalize S m = s at HB |-; generalize S n = t at HB |-
 go_enter Tryz.func119, Tryz.ntmps119
 go_wp2_with fail
 refine HB.out.mono ?_; rintro e w1 ⟨v1, v2, rfl, hv1, hv2, hb1⟩
 go_wp2_with fail
 refine (HF.out _ _ _ hv1 hv2).mono ?_; rintro e w2 ⟨v, rfl, hv, hb2⟩
 go_wp2_with fail
 refine (text_any _ hv hR).mono ?_; rintro e w3 ⟨htx, hb3⟩; have hbt := (hb1.trans (hb2.mono hb1.size)).trans (hb3.mono (Nat.le_trans hb1.size hb2.size))
 rcases htx with ⟨h, rfl⟩ | ⟨h, rfl⟩
 ·have hh := Z' h; clear h
  go_wp2
  go_ret2
  exact ⟨.inl ⟨hh.out, rfl⟩, hbt⟩
 ·have hh := Z' h; clear h
  go_wp2
  go_ret2
  exact ⟨.inr ⟨hh.out, rfl⟩, hbt⟩
theorem dw_mul (m n : Nat) : (dw (m * n)).length <= (dw m).length + (dw n).length := dg_mul_len b32 m n
theorem natmul_yes (m n : Nat) (w : World) (hm : OkN m) (hn : OkN n) :
  Calls Tryz.prog 98 #[.string (S m), .string (S n)] w fun e w' => TextRes (m * n) e /\ Below w.heap.size w w' := by
 have h1 := hm.dw; have h2 := hn.dw; have h3 := dw_mul m n; have HO := Z' (operate_mul (m * n) m n w hm hn (by omega) fun v1 v2 w a b => mul_any w a b (by omega) (by omega)); clear h1 h2 h3 hm hn
 go_enter Tryz.func98, Tryz.ntmps98
 go_wp2_with fail
 refine HO.out.mono ?_; rintro e w3 ⟨htx, hb⟩
 rcases htx with ⟨h, rfl⟩ | ⟨h, rfl⟩
 all_goals
  have hh := Z' h; clear h
  go_wp2
  go_ret2
  first | exact ⟨.inl ⟨hh.out, rfl⟩, hb⟩ | exact ⟨.inr ⟨hh.out, rfl⟩, hb⟩
theorem dw_len_pos {n : Nat} (h : 0 < n) : 0 < (dw n).length := List.length_pos_iff.2 fun e => by have := (dg_nil b32).1 e; omega
open Go.RowKit Dg

abbrev RatV (neg : Bool) (p q : Nat) : Value := .agg #[.bool neg, .string (S p), .string (S q)]
abbrev Rat0 : Value := .agg #[.bool false, .string ⟨#[]⟩, .string ⟨#[]⟩]
def LowRes (neg : Bool) (a b : Nat) (e : Ending) : Prop :=
 (OkN (a / Nat.gcd a b) /\ OkN (b / Nat.gcd a b) /\ e = .returned (.tuple #[RatV (neg && decide (0 < a)) (a / Nat.gcd a b) (b / Nat.gcd a b), .int .i64 0])) \/
 (¬ (OkN (a / Nat.gcd a b) /\ OkN (b / Nat.gcd a b)) /\ e = .returned (.tuple #[Rat0, .int .i64 2]))
theorem lowest_any (neg : Bool) (v1 v2 : Value) (a b : Nat) (w : World) (h1 : NatV w v1 a) (h2 : NatV w v2 b) (ha : (dw a).length <= 1000000) (hb : (dw b).length <= 1000000) (hb0 : 0 < b) (hs9 : b < 4294967296) :
  Calls Tryz.prog 96 #[.agg #[.bool neg, v1, v2]] w fun e w' => LowRes neg a b e /\ Below w.heap.size w w' := by
 have hg0 : 0 < Nat.gcd a b := Nat.gcd_pos_of_pos_right a hb0; have hgb : Nat.gcd a b <= b := Nat.gcd_le_right a hb0; have hgl : (dw (Nat.gcd a b)).length <= 1000000 := Nat.le_trans (dg_mono b32 hgb) hb; have hpl : (dw (a / Nat.gcd a b)).length <= 1000000 := Nat.le_trans (dg_mono b32 (Nat.div_le_self _ _)) ha; have hql : (dw (b / Nat.gcd a b)).length <= 1000000 := Nat.le_trans (dg_mono b32 (Nat.div_le_self _ _)) hb; have hp0 : (0 < (dw (a / Nat.gcd a b)).length) ↔ 0 < a := by
  constructor
  ·intro h
   rcases Nat.eq_zero_or_pos a with e | e
   ·rw [e, Nat.zero_div] at h; exact absurd h (by decide)
   ·exact e
  ·intro h; exact dw_len_pos (Nat.div_pos (Nat.gcd_le_left b h) hg0)
 have HP0 := Z' hp0; have HS9 := Z' hs9; have HG9 := Z' (Nat.lt_of_le_of_lt hgb hs9); clear hs9; clear hp0; have H1 := Z' h1; have H2 := Z' h2; obtain ⟨A, c, rfl, -⟩ := h1; obtain ⟨A2, c2, rfl, -⟩ := h2; have HFin : Hid (∀ e, LowRes neg a b e -> LowRes neg a b e) := fun e h => h; have HR1 : Hid (∀ (_ : OkN (a / Nat.gcd a b)) (_ : OkN (b / Nat.gcd a b)) (bb : Bool), bb = (neg && decide (0 < a)) -> LowRes neg a b (.returned (.tuple #[RatV bb (a / Nat.gcd a b) (b / Nat.gcd a b), .int .i64 0]))) :=
  fun o1 o2 bb hbb => .inl ⟨o1, o2, by rw [hbb]⟩
 have HR2 : Hid (¬ (OkN (a / Nat.gcd a b) /\ OkN (b / Nat.gcd a b)) -> LowRes neg a b (.returned (.tuple #[Rat0, .int .i64 2]))) := fun h => .inr ⟨h, rfl⟩
 go_enter Tryz.func96, Tryz.ntmps96
 go_wp2_with fail
 have hbb : Below w.heap.size w ((w.alloc (.cells #[.bool neg, .slice A (dw a).length c, .slice A2 (dw b).length c2] 158)).alloc (.cells #[.bool false, .string ⟨#[]⟩, .string ⟨#[]⟩] 73)) :=
  ((Below.refl _ _).alloc (Nat.le_refl _) _).alloc (by rw [size1]; omega) _
 have hob : Own ((w.alloc (.cells #[.bool neg, .slice A (dw a).length c, .slice A2 (dw b).length c2] 158)).alloc (.cells #[.bool false, .string ⟨#[]⟩, .string ⟨#[]⟩] 73)) w.heap.size 158 [.bool neg, .slice A (dw a).length c, .slice A2 (dw b).length c2] :=
  (Own.new w _ _).alloc _
 have hor : Own ((w.alloc (.cells #[.bool neg, .slice A (dw a).length c, .slice A2 (dw b).length c2] 158)).alloc (.cells #[.bool false, .string ⟨#[]⟩, .string ⟨#[]⟩] 73)) (w.heap.size + 1) 73 [.bool false, .string ⟨#[]⟩, .string ⟨#[]⟩] := by
  have := Own.new (w.alloc (.cells #[.bool neg, .slice A (dw a).length c, .slice A2 (dw b).length c2] 158)) 73 [.bool false, .string ⟨#[]⟩, .string ⟨#[]⟩]; rw [size1] at this; exact this
 generalize ((w.alloc (.cells #[.bool neg, .slice A (dw a).length c, .slice A2 (dw b).length c2] 158)).alloc (.cells #[.bool false, .string ⟨#[]⟩, .string ⟨#[]⟩] 73)) = wb at hbb hob hor |-; have n1 := H1.out.below hbb; have n2 := H2.out.below hbb; refine (gcd_any _ n1 n2 (by omega) (by omega) HS9.out).mono ?_; rintro e wg ⟨vg, rfl, hvg, hb1⟩; have ob1 := hob.below hb1 hob.lt; have or1 := hor.below hb1 hor.lt; have c1 : wg.cell? ⟨w.heap.size, 1, none⟩ = some (.slice A (dw a).length c) := ob1.cell 1; have n1' := n1.below hb1; have n2' := n2.below hb1; have s1 := hbb.trans (hb1.mono hbb.size); clear hob hor n1 n2 hb1 hbb
 go_wp2_with fail
 refine (div_any _ n1' hvg (by omega) hg0 HG9.out).mono ?_; rintro e wp ⟨vp, vr, rfl, hvp, -, hb2⟩; have ob2 := ob1.below hb2 ob1.lt; have or2 := or1.below hb2 or1.lt; have c2' : wp.cell? ⟨w.heap.size, 2, none⟩ = some (.slice A2 (dw b).length c2) := ob2.cell 2; have n2'' := n2'.below hb2; have hvg' := hvg.below hb2; have s2 := s1.trans (hb2.mono s1.size); clear ob1 or1 n1' n2' hvg s1 c1 hb2
 go_wp2_with fail
 refine (div_any _ n2'' hvg' (by omega) hg0 HG9.out).mono ?_; rintro e wq ⟨vq, vr2, rfl, hvq, -, hb3⟩; have ob3 := ob2.below hb3 ob2.lt; have or3 := or2.below hb3 or2.lt; have hvp' := hvp.below hb3; have s3 := s2.trans (hb3.mono s2.size); clear ob2 or2 n2'' hvg' hvp s2 c2' hb3; clear HG9 HS9; generalize hPP : a / Nat.gcd a b = P at *; generalize hQQ : b / Nat.gcd a b = Q at *; clear hPP hQQ; have HVP := Z' hvp'; obtain ⟨Ap, cp, rfl, hcp1, hcp2, -⟩ := hvp'; unfold maxLen at hcp2
 go_wp2_with fail
 refine (text_any _ HVP.out (by omega)).mono ?_; rintro e wt ⟨htx, hb4⟩; have ob4 := ob3.below hb4 ob3.lt; have or4 := or3.below hb4 or3.lt; have hvq' := hvq.below hb4; have s4 := s3.trans (hb4.mono s3.size); clear ob3 or3 hvq s3 hb4; obtain ⟨hr0, hr1, hr2⟩ := or4.cells3; obtain ⟨hf0, hf1, hf2⟩ := or4.frozens3
 rcases htx with ⟨hp, rfl⟩ | ⟨hp, rfl⟩
 ·have HPK := Z' hp; clear hp hr0 hr1 hr2 hf0 hf1 hf2
  go_wp2_with fail
  refine (text_any _ hvq' (by omega)).mono ?_; rintro e wu ⟨htx, hb5⟩; have ob5 := ob4.below hb5 ob4.lt; have or5 := or4.below hb5 or4.lt; have s5 := s4.trans (hb5.mono s4.size); obtain ⟨hr0, hr1, hr2⟩ := or5.cells3; obtain ⟨hf0, hf1, hf2⟩ := or5.frozens3; have hn0 : wu.cell? ⟨w.heap.size, 0, none⟩ = some (.bool neg) := ob5.cell 0; clear ob4 or4 hvq' s4 hb5
  rcases htx with ⟨hq, rfl⟩ | ⟨hq, rfl⟩
  ·have HQK := Z' hq; clear hq; have hpl2 : (0 : Int) <= ((dw P).length : Int) := by omega
   cases neg with
   | false =>
    have oz : Own (((wu.setCell ⟨w.heap.size + 1, 0, none⟩ (Value.bool false)).setCell ⟨w.heap.size + 1, 1, none⟩ (Value.string (S P))).setCell ⟨w.heap.size + 1, 2, none⟩ (Value.string (S Q))) (w.heap.size + 1) 73 [Value.bool false, Value.string (S P), Value.string (S Q)] := ((or5.set_ 0 (Value.bool false)).set_ 1 (Value.string (S P))).set_ 2 (Value.string (S Q)); have sz : Below w.heap.size w (((wu.setCell ⟨w.heap.size + 1, 0, none⟩ (Value.bool false)).setCell ⟨w.heap.size + 1, 1, none⟩ (Value.string (S P))).setCell ⟨w.heap.size + 1, 2, none⟩ (Value.string (S Q))) := ((s5.setCell (Nat.le_succ _) _).setCell (Nat.le_succ _) _).setCell (Nat.le_succ _) _
    go_wp2_with fail
    generalize (((wu.setCell ⟨w.heap.size + 1, 0, none⟩ (Value.bool false)).setCell ⟨w.heap.size + 1, 1, none⟩ (Value.string (S P))).setCell ⟨w.heap.size + 1, 2, none⟩ (Value.string (S Q))) = wz at oz sz |-; obtain ⟨z0, z1, z2⟩ := oz.cells3; exact bodyPost_ret (v := .tuple #[.agg #[Value.bool false, Value.string (S P), Value.string (S Q)], .int .i64 0]) (by simp [results, Tryz.results96, go_sem, z0, z1, z2]) rfl ⟨HR1.out HPK.out HQK.out _ (by simp), sz⟩
   | true =>
    by_cases ha0 : 0 < a
    ·have hpp := HP0.out.2 ha0; have d1 : decide ((0 : Int) < ((dw P).length : Int)) = true := decide_eq_true (by omega); have d2 : decide (0 < (dw P).length) = true := decide_eq_true hpp; have HA := Z' ha0; clear ha0; have oz : Own (((wu.setCell ⟨w.heap.size + 1, 0, none⟩ (Value.bool true)).setCell ⟨w.heap.size + 1, 1, none⟩ (Value.string (S P))).setCell ⟨w.heap.size + 1, 2, none⟩ (Value.string (S Q))) (w.heap.size + 1) 73 [Value.bool true, Value.string (S P), Value.string (S Q)] := ((or5.set_ 0 (Value.bool true)).set_ 1 (Value.string (S P))).set_ 2 (Value.string (S Q)); have sz : Below w.heap.size w (((wu.setCell ⟨w.heap.size + 1, 0, none⟩ (Value.bool true)).setCell ⟨w.heap.size + 1, 1, none⟩ (Value.string (S P))).setCell ⟨w.heap.size + 1, 2, none⟩ (Value.string (S Q))) := ((s5.setCell (Nat.le_succ _) _).setCell (Nat.le_succ _) _).setCell (Nat.le_succ _) _
     go_wp2_with fail
     generalize (((wu.setCell ⟨w.heap.size + 1, 0, none⟩ (Value.bool true)).setCell ⟨w.heap.size + 1, 1, none⟩ (Value.string (S P))).setCell ⟨w.heap.size + 1, 2, none⟩ (Value.string (S Q))) = wz at oz sz |-; obtain ⟨z0, z1, z2⟩ := oz.cells3; exact bodyPost_ret (v := .tuple #[.agg #[Value.bool true, Value.string (S P), Value.string (S Q)], .int .i64 0]) (by simp [results, Tryz.results96, go_sem, z0, z1, z2]) rfl ⟨HR1.out HPK.out HQK.out _ (by simp; exact HA.out), sz⟩
    ·have hpp : ¬ 0 < (dw P).length := fun h => ha0 (HP0.out.1 h); have d1 : decide ((0 : Int) < ((dw P).length : Int)) = false := decide_eq_false (by omega); have d2 : decide (0 < (dw P).length) = false := decide_eq_false hpp; have HA : Hid (¬ 0 < a) := ha0; clear ha0; have oz : Own (((wu.setCell ⟨w.heap.size + 1, 0, none⟩ (Value.bool false)).setCell ⟨w.heap.size + 1, 1, none⟩ (Value.string (S P))).setCell ⟨w.heap.size + 1, 2, none⟩ (Value.string (S Q))) (w.heap.size + 1) 73 [Value.bool false, Value.string (S P), Value.string (S Q)] := ((or5.set_ 0 (Value.bool false)).set_ 1 (Value.string (S P))).set_ 2 (Value.string (S Q)); have sz : Below w.heap.size w (((wu.setCell ⟨w.heap.size + 1, 0, none⟩ (Value.bool false)).setCell ⟨w.heap.size + 1, 1, none⟩ (Value.string (S P))).setCell ⟨w.heap.size + 1, 2, none⟩ (Value.string (S Q))) := ((s5.setCell (Nat.le_succ _) _).setCell (Nat.le_succ _) _).setCell (Nat.le_succ _) _
     go_wp2_with fail
     generalize (((wu.setCell ⟨w.heap.size + 1, 0, none⟩ (Value.bool false)).setCell ⟨w.heap.size + 1, 1, none⟩ (Value.string (S P))).setCell ⟨w.heap.size + 1, 2, none⟩ (Value.string (S Q))) = wz at oz sz |-; obtain ⟨z0, z1, z2⟩ := oz.cells3; exact bodyPost_ret (v := .tuple #[.agg #[Value.bool false, Value.string (S P), Value.string (S Q)], .int .i64 0]) (by simp [results, Tryz.results96, go_sem, z0, z1, z2]) rfl ⟨HR1.out HPK.out HQK.out _ (by have := HA.out; simp; omega), sz⟩
  ·have HQK := Z' hq; clear hq; have oz : Own (((wu.setCell ⟨w.heap.size + 1, 0, none⟩ (Value.bool false)).setCell ⟨w.heap.size + 1, 1, none⟩ (Value.string ⟨#[]⟩)).setCell ⟨w.heap.size + 1, 2, none⟩ (Value.string ⟨#[]⟩)) (w.heap.size + 1) 73 [Value.bool false, Value.string ⟨#[]⟩, Value.string ⟨#[]⟩] := ((or5.set_ 0 (Value.bool false)).set_ 1 (Value.string ⟨#[]⟩)).set_ 2 (Value.string ⟨#[]⟩); have sz : Below w.heap.size w (((wu.setCell ⟨w.heap.size + 1, 0, none⟩ (Value.bool false)).setCell ⟨w.heap.size + 1, 1, none⟩ (Value.string ⟨#[]⟩)).setCell ⟨w.heap.size + 1, 2, none⟩ (Value.string ⟨#[]⟩)) := ((s5.setCell (Nat.le_succ _) _).setCell (Nat.le_succ _) _).setCell (Nat.le_succ _) _
   go_wp2_with fail
   generalize (((wu.setCell ⟨w.heap.size + 1, 0, none⟩ (Value.bool false)).setCell ⟨w.heap.size + 1, 1, none⟩ (Value.string ⟨#[]⟩)).setCell ⟨w.heap.size + 1, 2, none⟩ (Value.string ⟨#[]⟩)) = wz at oz sz |-; obtain ⟨z0, z1, z2⟩ := oz.cells3; exact bodyPost_ret (v := .tuple #[.agg #[Value.bool false, Value.string ⟨#[]⟩, Value.string ⟨#[]⟩], .int .i64 2]) (by simp [results, Tryz.results96, go_sem, z0, z1, z2]) rfl ⟨HR2.out fun h => HQK.out h.2, sz⟩
 ·have HPK := Z' hp; clear hp; have oz : Own (((wt.setCell ⟨w.heap.size + 1, 0, none⟩ (Value.bool false)).setCell ⟨w.heap.size + 1, 1, none⟩ (Value.string ⟨#[]⟩)).setCell ⟨w.heap.size + 1, 2, none⟩ (Value.string ⟨#[]⟩)) (w.heap.size + 1) 73 [Value.bool false, Value.string ⟨#[]⟩, Value.string ⟨#[]⟩] := ((or4.set_ 0 (Value.bool false)).set_ 1 (Value.string ⟨#[]⟩)).set_ 2 (Value.string ⟨#[]⟩); have sz : Below w.heap.size w (((wt.setCell ⟨w.heap.size + 1, 0, none⟩ (Value.bool false)).setCell ⟨w.heap.size + 1, 1, none⟩ (Value.string ⟨#[]⟩)).setCell ⟨w.heap.size + 1, 2, none⟩ (Value.string ⟨#[]⟩)) := ((s4.setCell (Nat.le_succ _) _).setCell (Nat.le_succ _) _).setCell (Nat.le_succ _) _
  go_wp2_with fail
  generalize (((wt.setCell ⟨w.heap.size + 1, 0, none⟩ (Value.bool false)).setCell ⟨w.heap.size + 1, 1, none⟩ (Value.string ⟨#[]⟩)).setCell ⟨w.heap.size + 1, 2, none⟩ (Value.string ⟨#[]⟩)) = wz at oz sz |-; obtain ⟨z0, z1, z2⟩ := oz.cells3; exact bodyPost_ret (v := .tuple #[.agg #[Value.bool false, Value.string ⟨#[]⟩, Value.string ⟨#[]⟩], .int .i64 2]) (by simp [results, Tryz.results96, go_sem, z0, z1, z2]) rfl ⟨HR2.out fun h => HPK.out h.1, sz⟩
end Go.Proofs.YtjimfbmegmnocaaGreatDoor
