/- Parts of the proof: Rk, Ja. No condition of its own. -/
import Derived.Test.YtopfcfbiaadfeaaGreatDoorRf
import Derived.Test.YtopfcfbiaadfeaaGreatDoorLa
import Derived.Test.YtopfcfbiaadfeaaGreatDoorNv
import Derived.Test.YtopfcfbiaadfeaaGreatDoorIa
import Derived.Test.YtopfcfbiaadfeaaGreatDoorMem
import Derived.Test.YtopfcfbiaadfeaaGreatDoorReg
set_option linter.unusedSimpArgs false
set_option linter.unusedVariables false
set_option linter.unusedSectionVars false
set_option maxRecDepth 100000
set_option maxHeartbeats 4000000
namespace Go.Proofs.YtopfcfbiaadfeaaGreatDoor
open Go.RowKit Dg

theorem okn0 : OkN 0 := by unfold OkN; decide
theorem okn1 : OkN 1 := by unfold OkN; decide
theorem okS_1 : S 1 = ⟨#[49]⟩ := rfl
theorem low_zero (neg : Bool) {b : Nat} (hb0 : 0 < b) : LowRes neg 0 b (.returned (.tuple #[.agg #[.bool false, .string ⟨#[48]⟩, .string ⟨#[49]⟩], .int .i64 0])) := by
  have e : b / Nat.gcd 0 b = 1 := by rw [Nat.gcd_zero_left]; exact Nat.div_self hb0
  refine .inl ⟨?_, ?_, ?_⟩
  · rw [Nat.zero_div]; exact okn0
  · rw [e]; exact okn1
  · rw [e, Nat.zero_div, ← okS_0, ← okS_1]; simp

theorem lowest_ref (neg : Bool) (v1 v2 : Value) (a b : Nat) (w : World) (h1 : BigV w v1 a) (h2 : BigV w v2 b) (ha : (dk a).length ≤ 100000) (hb : (dk b).length ≤ 100000) (hb0 : 0 < b) :
    Calls Tryz.prog 74 #[.bool neg, v1, v2] w fun e w' => LowRes neg a b e ∧ Below w.heap.size w w' := by
  have hbb : Below w.heap.size w (w.alloc (.cells #[.bool false, .string ⟨#[]⟩, .string ⟨#[]⟩] 57)) := (Below.refl _ _).alloc (Nat.le_refl _) _; have hor : Own (w.alloc (.cells #[.bool false, .string ⟨#[]⟩, .string ⟨#[]⟩] 57)) w.heap.size 57 [.bool false, .string ⟨#[]⟩, .string ⟨#[]⟩] := Own.new w _ _; have H1 := Lib.hid h1; obtain ⟨A, c, rfl, hc1, hc2, -⟩ := h1; unfold maxLen at hc2
  rcases Nat.eq_zero_or_pos a with rfl | ha0
  · have h0 : (dk 0).length = 0 := rfl; rw [h0]; have HR := Lib.hid (low_zero neg hb0); clear hc1 h0 ha H1 h2
    go_enter Tryz.func74, Tryz.ntmps74
    go_upto_if 19 with (fail)
    generalize (w.alloc (.cells #[.bool false, .string ⟨#[]⟩, .string ⟨#[]⟩] 57)) = wb at hbb hor ⊢; obtain ⟨hr0, hr1, hr2⟩ := hor.cells3; obtain ⟨hf0, hf1, hf2⟩ := hor.frozens3; have oz : Own (((wb.setCell ⟨w.heap.size, 0, none⟩ (Value.bool false)).setCell ⟨w.heap.size, 1, none⟩ (Value.string ⟨#[48]⟩)).setCell ⟨w.heap.size, 2, none⟩ (Value.string ⟨#[49]⟩)) (w.heap.size) 57 [Value.bool false, Value.string ⟨#[48]⟩, Value.string ⟨#[49]⟩] := ((hor.set_ 0 (Value.bool false)).set_ 1 (Value.string ⟨#[48]⟩)).set_ 2 (Value.string ⟨#[49]⟩); have sz : Below w.heap.size w (((wb.setCell ⟨w.heap.size, 0, none⟩ (Value.bool false)).setCell ⟨w.heap.size, 1, none⟩ (Value.string ⟨#[48]⟩)).setCell ⟨w.heap.size, 2, none⟩ (Value.string ⟨#[49]⟩)) := ((hbb.setCell (Nat.le_refl _) _).setCell (Nat.le_refl _) _).setCell (Nat.le_refl _) _
    go_wp2_with fail
    generalize (((wb.setCell ⟨w.heap.size, 0, none⟩ (Value.bool false)).setCell ⟨w.heap.size, 1, none⟩ (Value.string ⟨#[48]⟩)).setCell ⟨w.heap.size, 2, none⟩ (Value.string ⟨#[49]⟩)) = wz at oz sz ⊢; obtain ⟨z0, z1, z2⟩ := oz.cells3; exact bodyPost_ret (v := .tuple #[.agg #[Value.bool false, Value.string ⟨#[48]⟩, Value.string ⟨#[49]⟩], .int .i64 0]) (by simp [results, Tryz.results74, go_sem, z0, z1, z2]) rfl ⟨HR.out, sz⟩
  · have hg0 : 0 < Nat.gcd a b := Nat.gcd_pos_of_pos_right a hb0; have hgl : (dk (Nat.gcd a b)).length ≤ 100000 := Nat.le_trans (Dg.dg_mono b10k (Nat.gcd_le_right a hb0)) hb; have hpl : (dk (a / Nat.gcd a b)).length ≤ 100000 := Nat.le_trans (Dg.dg_mono b10k (Nat.div_le_self _ _)) ha; have hql : (dk (b / Nat.gcd a b)).length ≤ 100000 := Nat.le_trans (Dg.dg_mono b10k (Nat.div_le_self _ _)) hb; have HR1 : Hid (∀ (_ : OkN (a / Nat.gcd a b)) (_ : OkN (b / Nat.gcd a b)), LowRes neg a b (.returned (.tuple #[RatV neg (a / Nat.gcd a b) (b / Nat.gcd a b), .int .i64 0]))) :=
      fun o1 o2 => .inl ⟨o1, o2, by simp [ha0]⟩
    have HR2 : Hid (¬ (OkN (a / Nat.gcd a b) ∧ OkN (b / Nat.gcd a b)) → LowRes neg a b (.returned (.tuple #[Rat0, .int .i64 2]))) := fun h => .inr ⟨h, rfl⟩; have hl0 : 0 < (dk a).length := List.length_pos_iff.2 fun e => by have := (Dg.dg_nil b10k).1 e; omega
    have b0 : (((dk a).length : Int) == 0) = false := beq_eq_false_iff_ne.2 (by omega)
    go_enter Tryz.func74, Tryz.ntmps74
    go_wp2_with fail
    generalize (w.alloc (.cells #[.bool false, .string ⟨#[]⟩, .string ⟨#[]⟩] 57)) = wb at hbb hor ⊢; have n1 := H1.out.below hbb; have n2 := h2.below hbb; refine (gcd_ref _ n1 n2 (by omega) (by omega)).mono ?_; rintro e wg ⟨vg, rfl, hvg, hb1⟩; have or1 := hor.below hb1 hor.lt; have n1' := n1.below hb1; have n2' := n2.below hb1; have s1 := hbb.trans (hb1.mono hbb.size); clear hor n1 n2 hb1 hbb
    go_wp2_with fail
    refine (divide_ref _ n1' hvg (by omega) (by omega) hg0).mono ?_; rintro e wp ⟨vp, vr, rfl, hvp, -, hb2⟩; have or2 := or1.below hb2 or1.lt; have n2'' := n2'.below hb2; have hvg' := hvg.below hb2; have s2 := s1.trans (hb2.mono s1.size); clear or1 n1' n2' hvg s1 hb2
    go_wp2_with fail
    refine (divide_ref _ n2'' hvg' (by omega) (by omega) hg0).mono ?_; rintro e wq ⟨vq, vr2, rfl, hvq, -, hb3⟩; have or3 := or2.below hb3 or2.lt; have hvp' := hvp.below hb3; have s3 := s2.trans (hb3.mono s2.size); clear or2 n2'' hvg' hvp s2 hb3; generalize hPP : a / Nat.gcd a b = P at *; generalize hQQ : b / Nat.gcd a b = Q at *; clear hPP hQQ
    go_wp2_with fail
    refine (done_ref _ hvp' (by omega)).mono ?_; rintro e wt ⟨htx, hb4⟩; have or4 := or3.below hb4 or3.lt; have hvq' := hvq.below hb4; have s4 := s3.trans (hb4.mono s3.size); clear or3 hvq s3 hb4; have HQV := Lib.hid (done_ref _ hvq' (by omega)); clear hvq'
    rcases htx with ⟨hp, rfl⟩ | ⟨hp, rfl⟩
    · skip
      have HPK := Lib.hid hp; clear hp
      go_wp2_with fail
      refine HQV.out.mono ?_; rintro e wu ⟨htx, hb5⟩; have or5 := or4.below hb5 or4.lt; have s5 := s4.trans (hb5.mono s4.size); obtain ⟨hr0, hr1, hr2⟩ := or5.cells3; obtain ⟨hf0, hf1, hf2⟩ := or5.frozens3; clear or4 s4 hb5
      rcases htx with ⟨hq, rfl⟩ | ⟨hq, rfl⟩
      · have HQK := Lib.hid hq; clear hq; have oz : Own (((wu.setCell ⟨w.heap.size, 0, none⟩ (Value.bool neg)).setCell ⟨w.heap.size, 1, none⟩ (Value.string (S P))).setCell ⟨w.heap.size, 2, none⟩ (Value.string (S Q))) (w.heap.size) 57 [Value.bool neg, Value.string (S P), Value.string (S Q)] := ((or5.set_ 0 (Value.bool neg)).set_ 1 (Value.string (S P))).set_ 2 (Value.string (S Q)); have sz : Below w.heap.size w (((wu.setCell ⟨w.heap.size, 0, none⟩ (Value.bool neg)).setCell ⟨w.heap.size, 1, none⟩ (Value.string (S P))).setCell ⟨w.heap.size, 2, none⟩ (Value.string (S Q))) := ((s5.setCell (Nat.le_refl _) _).setCell (Nat.le_refl _) _).setCell (Nat.le_refl _) _
        go_wp2_with fail
        generalize (((wu.setCell ⟨w.heap.size, 0, none⟩ (Value.bool neg)).setCell ⟨w.heap.size, 1, none⟩ (Value.string (S P))).setCell ⟨w.heap.size, 2, none⟩ (Value.string (S Q))) = wz at oz sz ⊢; obtain ⟨z0, z1, z2⟩ := oz.cells3; exact bodyPost_ret (v := .tuple #[.agg #[Value.bool neg, Value.string (S P), Value.string (S Q)], .int .i64 0]) (by simp [results, Tryz.results74, go_sem, z0, z1, z2]) rfl ⟨HR1.out HPK.out HQK.out, sz⟩
      · have HQK := Lib.hid hq; clear hq; have oz : Own (((wu.setCell ⟨w.heap.size, 0, none⟩ (Value.bool false)).setCell ⟨w.heap.size, 1, none⟩ (Value.string ⟨#[]⟩)).setCell ⟨w.heap.size, 2, none⟩ (Value.string ⟨#[]⟩)) (w.heap.size) 57 [Value.bool false, Value.string ⟨#[]⟩, Value.string ⟨#[]⟩] := ((or5.set_ 0 (Value.bool false)).set_ 1 (Value.string ⟨#[]⟩)).set_ 2 (Value.string ⟨#[]⟩); have sz : Below w.heap.size w (((wu.setCell ⟨w.heap.size, 0, none⟩ (Value.bool false)).setCell ⟨w.heap.size, 1, none⟩ (Value.string ⟨#[]⟩)).setCell ⟨w.heap.size, 2, none⟩ (Value.string ⟨#[]⟩)) := ((s5.setCell (Nat.le_refl _) _).setCell (Nat.le_refl _) _).setCell (Nat.le_refl _) _
        go_wp2_with fail
        generalize (((wu.setCell ⟨w.heap.size, 0, none⟩ (Value.bool false)).setCell ⟨w.heap.size, 1, none⟩ (Value.string ⟨#[]⟩)).setCell ⟨w.heap.size, 2, none⟩ (Value.string ⟨#[]⟩)) = wz at oz sz ⊢; obtain ⟨z0, z1, z2⟩ := oz.cells3; exact bodyPost_ret (v := .tuple #[.agg #[Value.bool false, Value.string ⟨#[]⟩, Value.string ⟨#[]⟩], .int .i64 2]) (by simp [results, Tryz.results74, go_sem, z0, z1, z2]) rfl ⟨HR2.out fun h => HQK.out h.2, sz⟩
    · skip
      have HPK := Lib.hid hp; clear hp
      go_wp2_with fail
      refine HQV.out.mono ?_; rintro e wu ⟨htx, hb5⟩; have or5 := or4.below hb5 or4.lt; have s5 := s4.trans (hb5.mono s4.size); obtain ⟨hr0, hr1, hr2⟩ := or5.cells3; obtain ⟨hf0, hf1, hf2⟩ := or5.frozens3; clear or4 s4 hb5
      rcases htx with ⟨hq, rfl⟩ | ⟨hq, rfl⟩
      · have HQK := Lib.hid hq; clear hq; have oz : Own (((wu.setCell ⟨w.heap.size, 0, none⟩ (Value.bool false)).setCell ⟨w.heap.size, 1, none⟩ (Value.string ⟨#[]⟩)).setCell ⟨w.heap.size, 2, none⟩ (Value.string ⟨#[]⟩)) (w.heap.size) 57 [Value.bool false, Value.string ⟨#[]⟩, Value.string ⟨#[]⟩] := ((or5.set_ 0 (Value.bool false)).set_ 1 (Value.string ⟨#[]⟩)).set_ 2 (Value.string ⟨#[]⟩); have sz : Below w.heap.size w (((wu.setCell ⟨w.heap.size, 0, none⟩ (Value.bool false)).setCell ⟨w.heap.size, 1, none⟩ (Value.string ⟨#[]⟩)).setCell ⟨w.heap.size, 2, none⟩ (Value.string ⟨#[]⟩)) := ((s5.setCell (Nat.le_refl _) _).setCell (Nat.le_refl _) _).setCell (Nat.le_refl _) _
        go_wp2_with fail
        generalize (((wu.setCell ⟨w.heap.size, 0, none⟩ (Value.bool false)).setCell ⟨w.heap.size, 1, none⟩ (Value.string ⟨#[]⟩)).setCell ⟨w.heap.size, 2, none⟩ (Value.string ⟨#[]⟩)) = wz at oz sz ⊢; obtain ⟨z0, z1, z2⟩ := oz.cells3; exact bodyPost_ret (v := .tuple #[.agg #[Value.bool false, Value.string ⟨#[]⟩, Value.string ⟨#[]⟩], .int .i64 2]) (by simp [results, Tryz.results74, go_sem, z0, z1, z2]) rfl ⟨HR2.out fun h => HPK.out h.1, sz⟩
      · have HQK := Lib.hid hq; clear hq; have oz : Own (((wu.setCell ⟨w.heap.size, 0, none⟩ (Value.bool false)).setCell ⟨w.heap.size, 1, none⟩ (Value.string ⟨#[]⟩)).setCell ⟨w.heap.size, 2, none⟩ (Value.string ⟨#[]⟩)) (w.heap.size) 57 [Value.bool false, Value.string ⟨#[]⟩, Value.string ⟨#[]⟩] := ((or5.set_ 0 (Value.bool false)).set_ 1 (Value.string ⟨#[]⟩)).set_ 2 (Value.string ⟨#[]⟩); have sz : Below w.heap.size w (((wu.setCell ⟨w.heap.size, 0, none⟩ (Value.bool false)).setCell ⟨w.heap.size, 1, none⟩ (Value.string ⟨#[]⟩)).setCell ⟨w.heap.size, 2, none⟩ (Value.string ⟨#[]⟩)) := ((s5.setCell (Nat.le_refl _) _).setCell (Nat.le_refl _) _).setCell (Nat.le_refl _) _
        go_wp2_with fail
        generalize (((wu.setCell ⟨w.heap.size, 0, none⟩ (Value.bool false)).setCell ⟨w.heap.size, 1, none⟩ (Value.string ⟨#[]⟩)).setCell ⟨w.heap.size, 2, none⟩ (Value.string ⟨#[]⟩)) = wz at oz sz ⊢; obtain ⟨z0, z1, z2⟩ := oz.cells3; exact bodyPost_ret (v := .tuple #[.agg #[Value.bool false, Value.string ⟨#[]⟩, Value.string ⟨#[]⟩], .int .i64 2]) (by simp [results, Tryz.results74, go_sem, z0, z1, z2]) rfl ⟨HR2.out fun h => HPK.out h.1, sz⟩
open Go.RowKit Dg

open Go.RowKit Dg

theorem str_ne1 {s : ByteArray} (h : s ≠ ⟨#[49]⟩) : (s.toList == [49]) = false := by
  rw [beq_eq_false_iff_ne]; intro e
  apply h
  apply ba_ext
  rw [← ByteArray.toList_eq, e]
theorem sg_of (g : Nat) : ∃ sg, S g = sg ∧ (sg.toList == [49]) = decide (g = 1) := by
  refine ⟨_, rfl, ?_⟩
  by_cases h1 : g = 1
  · subst h1; rw [okS_1, ByteArray.toList_eq]; rfl
  · rw [str_ne1 (fun e => h1 (by rw [← okS_1] at e; exact S_inj e))]; simp [h1]
theorem dk_gcd {m n : Nat} (hm : (dk m).length ≤ 20000) (hn : (dk n).length ≤ 20000) : (dk (Nat.gcd m n)).length ≤ 20000 := by
  rcases Nat.eq_zero_or_pos m with rfl | h0
  · rw [Nat.gcd_zero_left]; exact hn
  · exact Nat.le_trans (Dg.dg_mono b10k (Nat.gcd_le_left n h0)) hm

theorem isratior_nat (neg : Bool) (m n : Nat) (w : World) (hm : OkN m) (hn : OkN n) :
    Calls Tryz.prog 109 #[RatV neg m n] w fun e w' => e = .returned (.bool (isRB neg m n)) ∧ Below w.heap.size w w' := by
  have HV1 := Lib.hid hm.vld; have HV2 := Lib.hid hn.vld; have HG1 := fun W => Lib.hid (big_S m W hm); have HG2 := fun W => Lib.hid (big_S n W hn); have hdm := hm.dk; have hdn := hn.dk; have hdg := dk_gcd hdm hdn; clear hm hn
  rcases Nat.eq_zero_or_pos n with rfl | hn0
  · have HR : Hid (isRB neg m 0 = false) := by show _ = _; unfold isRB; simp
    show Calls _ _ #[.agg #[.bool neg, .string (S m), .string (S 0)]] _ _
    rw [okS_0] at HV2 ⊢; clear HG1 HG2 hdg; generalize S m = sm at *; obtain ⟨o1, hbw⟩ := new1 w [.bool neg, .string sm, .string ⟨#[48]⟩] 57
    go_enter Tryz.func109, Tryz.ntmps109
    go_upto_region 1 with (fail)
    generalize (w.alloc (.cells #[.bool neg, .string sm, .string ⟨#[48]⟩] 57)) = wb at o1 hbw ⊢; have c1 : wb.cell? ⟨w.heap.size, 1, none⟩ = some (.string sm) := o1.cell 1; have c2 : wb.cell? ⟨w.heap.size, 2, none⟩ = some (.string ⟨#[48]⟩) := o1.cell 2
    go_wp2_with fail
    refine (validr_yes _ HV1.out).mono ?_; rintro e w1 ⟨rfl, rfl⟩
    go_wp2_with fail
    refine (validr_yes _ HV2.out).mono ?_; rintro e w1 ⟨rfl, rfl⟩
    go_wp2
    go_ret
    exact ⟨ret_bool HR.out.symm, hbw⟩
  have hb0 := str_ne (s := S n) (by rw [← okS_0]; exact S_ne_0 hn0)
  rcases Nat.eq_zero_or_pos m with rfl | hm0
  · show Calls _ _ #[.agg #[.bool neg, .string (S 0), .string (S n)]] _ _
    rw [okS_0] at HV1 ⊢; clear HG1 HG2 hdg
    by_cases hn1 : n = 1
    · subst hn1; rw [okS_1] at HV2 hb0 ⊢; have HR : Hid (isRB neg 0 1 = !neg) := by show _ = _; unfold isRB; cases neg <;> decide
      clear hn0 hb0; obtain ⟨o1, hbw⟩ := new1 w [.bool neg, .string ⟨#[48]⟩, .string ⟨#[49]⟩] 57
      go_enter Tryz.func109, Tryz.ntmps109
      go_upto_region 1 with (fail)
      generalize (w.alloc (.cells #[.bool neg, .string ⟨#[48]⟩, .string ⟨#[49]⟩] 57)) = wb at o1 hbw ⊢; obtain ⟨c0, c1, c2⟩ := o1.cells3
      go_wp2_with fail
      refine (validr_yes _ HV1.out).mono ?_; rintro e w1 ⟨rfl, rfl⟩
      go_wp2_with fail
      refine (validr_yes _ HV2.out).mono ?_; rintro e w1 ⟨rfl, rfl⟩
      cases neg with
      | true =>
        go_wp2
        go_ret
        exact ⟨ret_bool HR.out.symm, hbw⟩
      | false =>
        go_wp2
        go_ret
        exact ⟨ret_bool HR.out.symm, hbw⟩
    · have hb1 := str_ne1 (s := S n) (fun e => hn1 (by rw [← okS_1] at e; exact S_inj e)); have HR : Hid (isRB neg 0 n = false) := by show _ = _; unfold isRB; simp [hn1]
      clear hn0 hn1; generalize S n = sn at *; obtain ⟨o1, hbw⟩ := new1 w [.bool neg, .string ⟨#[48]⟩, .string sn] 57
      go_enter Tryz.func109, Tryz.ntmps109
      go_upto_region 1 with (fail)
      generalize (w.alloc (.cells #[.bool neg, .string ⟨#[48]⟩, .string sn] 57)) = wb at o1 hbw ⊢; obtain ⟨c0, c1, c2⟩ := o1.cells3
      go_wp2_with fail
      refine (validr_yes _ HV1.out).mono ?_; rintro e w1 ⟨rfl, rfl⟩
      go_wp2_with fail
      refine (validr_yes _ HV2.out).mono ?_; rintro e w1 ⟨rfl, rfl⟩
      cases neg with
      | true =>
        go_wp2
        go_ret
        exact ⟨ret_bool HR.out.symm, hbw⟩
      | false =>
        go_wp2
        go_ret
        exact ⟨ret_bool HR.out.symm, hbw⟩
  have hb2 := str_ne (s := S m) (by rw [← okS_0]; exact S_ne_0 hm0); have HR := Lib.hid (isRB_gcd (neg := neg) (m := m) hn0 (fun h => by omega)); obtain ⟨sg, HSG, HE⟩ := sg_of (Nat.gcd m n); have HSG := Lib.hid HSG; have HE := Lib.hid HE; clear hn0 hm0
  show Calls _ _ #[.agg #[.bool neg, .string (S m), .string (S n)]] _ _
  generalize S m = sm at *; generalize S n = sn at *; obtain ⟨o1, hbw⟩ := new1 w [.bool neg, .string sm, .string sn] 57
  go_enter Tryz.func109, Tryz.ntmps109
  go_upto_region 1 with (fail)
  generalize (w.alloc (.cells #[.bool neg, .string sm, .string sn] 57)) = wb at o1 hbw ⊢; obtain ⟨c0, c1, c2⟩ := o1.cells3
  go_wp2_with fail
  refine (validr_yes _ HV1.out).mono ?_; rintro e w1 ⟨rfl, rfl⟩
  go_wp2_with fail
  refine (validr_yes _ HV2.out).mono ?_; rintro e w1 ⟨rfl, rfl⟩
  go_upto_region 5 with (fail)
  refine wp_reg_ra [some 29, some 30, some 31, some 32, some 33, some 34, some 35, some 36, some 37, some 2] [isV ?v1_0, isV ?v1_1, (fun v w' => BigV w' v (m)), isV ?v1_3, isV ?v1_4, (fun v w' => BigV w' v (n)), (fun v w' => BigV w' v (Nat.gcd m n)), isV (.string sg), isV ?v1_8, isV ?v1_9] rfl (by kernel_rfl) rfl rfl ?k1 ⟨?s1_0, ?s1_1, ?s1_2, ?s1_3, ?s1_4, ?s1_5, ?s1_6, ?s1_7, ?s1_8, ?s1_9, trivial⟩ ?p1
  case s1_0 =>
    intro t9 w9 hT9 hV9 hO9 K9 hK9; have o9_1 := hO9 1 _ (show List.contains _ _ = false from by kernel_rfl) rfl; clear hV9 hO9; go_simp
    (refine hK9 _ _ (Grow.refl _) ?_; exact rfl)
  case s1_1 =>
    intro t9 w9 hT9 hV9 hO9 K9 hK9; obtain ⟨x9_0, p9_0, q9_0⟩ := hV9.g 0 29 rfl rfl (by kernel_rfl); obtain rfl : x9_0 = ?v1_0 := q9_0; clear hV9 hO9; have d9_0 := grow_cell hT9 c0; have d9_1 := grow_cell hT9 c1; have d9_2 := grow_cell hT9 c2; go_simp
    (refine hK9 _ _ (Grow.refl _) ?_; exact rfl)
  case s1_2 =>
    intro t9 w9 hT9 hV9 hO9 K9 hK9; obtain ⟨x9_1, p9_1, q9_1⟩ := hV9.g 1 30 rfl rfl (by kernel_rfl); obtain rfl : x9_1 = ?v1_1 := q9_1; clear hV9 hO9; go_simp; refine ((HG1 _).out).mono ?_; rintro _ w8 ⟨v8, rfl, hv8, hb8⟩; exact hK9 _ _ hb8 hv8
  case s1_3 =>
    intro t9 w9 hT9 hV9 hO9 K9 hK9; have o9_1 := hO9 1 _ (show List.contains _ _ = false from by kernel_rfl) rfl; clear hV9 hO9; go_simp
    (refine hK9 _ _ (Grow.refl _) ?_; exact rfl)
  case s1_4 =>
    intro t9 w9 hT9 hV9 hO9 K9 hK9; obtain ⟨x9_3, p9_3, q9_3⟩ := hV9.g 3 32 rfl rfl (by kernel_rfl); obtain rfl : x9_3 = ?v1_3 := q9_3; clear hV9 hO9; have d9_0 := grow_cell hT9 c0; have d9_1 := grow_cell hT9 c1; have d9_2 := grow_cell hT9 c2; go_simp
    (refine hK9 _ _ (Grow.refl _) ?_; exact rfl)
  case s1_5 =>
    intro t9 w9 hT9 hV9 hO9 K9 hK9; obtain ⟨x9_4, p9_4, q9_4⟩ := hV9.g 4 33 rfl rfl (by kernel_rfl); obtain rfl : x9_4 = ?v1_4 := q9_4; clear hV9 hO9; go_simp; refine ((HG2 _).out).mono ?_; rintro _ w8 ⟨v8, rfl, hv8, hb8⟩; exact hK9 _ _ hb8 hv8
  case s1_6 =>
    intro t9 w9 hT9 hV9 hO9 K9 hK9; obtain ⟨x9_2, p9_2, q9_2⟩ := hV9.g 2 31 rfl rfl (by kernel_rfl); replace q9_2 : ((fun v w' => BigV w' v (m))) x9_2 _ := q9_2; obtain ⟨x9_5, p9_5, q9_5⟩ := hV9.g 5 34 rfl rfl (by kernel_rfl); replace q9_5 : ((fun v w' => BigV w' v (n))) x9_5 _ := q9_5; clear hV9 hO9; go_simp; refine (gcd_ref _ q9_2 q9_5 (by omega) (by omega)).mono ?_; rintro _ w8 ⟨v8, rfl, hv8, hb8⟩; exact hK9 _ _ hb8 hv8
  case s1_7 =>
    intro t9 w9 hT9 hV9 hO9 K9 hK9; obtain ⟨x9_6, p9_6, q9_6⟩ := hV9.g 6 35 rfl rfl (by kernel_rfl); replace q9_6 : ((fun v w' => BigV w' v (Nat.gcd m n))) x9_6 _ := q9_6; clear hV9 hO9; go_simp; refine (textr_any _ q9_6 (by omega)).mono ?_; rintro _ w8 ⟨rfl, hb8⟩; rw [HSG.out]; exact hK9 _ _ hb8 rfl
  case s1_8 =>
    intro t9 w9 hT9 hV9 hO9 K9 hK9; obtain ⟨x9_7, p9_7, q9_7⟩ := hV9.g 7 36 rfl rfl (by kernel_rfl); obtain rfl : x9_7 = (.string sg) := q9_7; clear hV9 hO9; go_simp
    (refine hK9 _ _ (Grow.refl _) ?_; exact rfl)
  case s1_9 =>
    intro t9 w9 hT9 hV9 hO9 K9 hK9; obtain ⟨x9_8, p9_8, q9_8⟩ := hV9.g 8 37 rfl rfl (by kernel_rfl); obtain rfl : x9_8 = ?v1_8 := q9_8; clear hV9 hO9; go_simp
    (refine hK9 _ _ (Grow.refl _) ?_; exact rfl)
  case k1 =>
    intro i9 v9 w9 x9 h9 g9
    match i9, h9 with
    | 0, h9 => exact h9
    | 1, h9 => exact h9
    | 2, h9 => (replace h9 : (fun v w' => BigV w' v (m)) v9 w9 := h9); exact BigV.below h9 g9
    | 3, h9 => exact h9
    | 4, h9 => exact h9
    | 5, h9 => (replace h9 : (fun v w' => BigV w' v (n)) v9 w9 := h9); exact BigV.below h9 g9
    | 6, h9 => (replace h9 : (fun v w' => BigV w' v (Nat.gcd m n)) v9 w9 := h9); exact BigV.below h9 g9
    | 7, h9 => exact h9
    | 8, h9 => exact h9
    | 9, h9 => exact h9
    | _ + 10, h9 => exact trivial
  intro u9 w9 hE9 hu9; have r9_0 : u9 0 = ?v1_0 := hu9 0 (by decide); have r9_1 : u9 1 = ?v1_1 := hu9 1 (by decide); have r9_2 : (fun v w' => BigV w' v (m)) (u9 2) w9 := hu9 2 (by decide); have r9_3 : u9 3 = ?v1_3 := hu9 3 (by decide); have r9_4 : u9 4 = ?v1_4 := hu9 4 (by decide); have r9_5 : (fun v w' => BigV w' v (n)) (u9 5) w9 := hu9 5 (by decide); have r9_6 : (fun v w' => BigV w' v (Nat.gcd m n)) (u9 6) w9 := hu9 6 (by decide); have r9_7 : u9 7 = (.string sg) := hu9 7 (by decide); have r9_8 : u9 8 = ?v1_8 := hu9 8 (by decide); have r9_9 : u9 9 = ?v1_9 := hu9 9 (by decide); clear hu9
  simp only [putAll, Act.put, List.setIfInBounds_toArray, List.set_cons_succ, List.set_cons_zero, List.getD_cons_succ, List.getD_cons_zero, Nat.reduceAdd, Nat.zero_add]
  simp only [r9_0, r9_1, r9_3, r9_4, r9_7, r9_8, r9_9]
  clear r9_0 r9_1 r9_3 r9_4 r9_7 r9_8 r9_9
  go_wp2_with fail
  go_ret
  exact ⟨ret_bool (by rw [HR.out]), hbw.trans (hE9.mono hbw.size)⟩

theorem isratior_yes {x : Rat} (w : World) (h : OkR x) : Calls Tryz.prog 109 #[RV x] w fun e w' => e = .returned (.bool true) ∧ Below w.heap.size w w' := by
  refine (isratior_nat _ _ _ w h.1 h.2).mono ?_; rintro e w' ⟨rfl, hb⟩; refine ⟨ret_bool (decide_eq_true ?_), hb⟩; exact (isR_iff h.1 h.2).1 (isR_RV h)
end Go.Proofs.YtopfcfbiaadfeaaGreatDoor
