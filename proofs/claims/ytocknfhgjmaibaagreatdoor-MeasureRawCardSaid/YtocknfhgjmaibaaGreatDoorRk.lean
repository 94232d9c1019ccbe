/- Parts of the proof: Rk. No condition of its own. -/
import Derived.Test.YtocknfhgjmaibaaGreatDoorRf
import Derived.Test.YtocknfhgjmaibaaGreatDoorLa
import Derived.Test.YtocknfhgjmaibaaGreatDoorNv
set_option linter.unusedSimpArgs false
set_option linter.unusedVariables false
set_option linter.unusedSectionVars false
set_option maxRecDepth 100000
set_option maxHeartbeats 4000000
namespace Go.Proofs.YtocknfhgjmaibaaGreatDoor
open Go.RowKit Dg

theorem okn0 : OkN 0 := by unfold OkN; decide
theorem okn1 : OkN 1 := by unfold OkN; decide
theorem okS_1 : S 1 = ⟨#[49]⟩ := rfl
theorem low_zero (neg : Bool) {b : Nat} (hb0 : 0 < b) : LowRes neg 0 b (.returned (.tuple #[.agg #[.bool false, .string ⟨#[48]⟩, .string ⟨#[49]⟩], .int .i64 0])) := by
  have e : b / Nat.gcd 0 b = 1 := by rw [Nat.gcd_zero_left]; exact Nat.div_self hb0
  refine .inl ⟨?_, ?_, ?_⟩
  · rw [Nat.zero_div]; exact okn0
  · rw [e]; exact okn1
  · rw [e, Nat.zero_div, ← okS_0, ← okS_1]; simp

theorem lowest_ref (neg : Bool) (v1 v2 : Value) (a b : Nat) (w : World) (h1 : BigV w v1 a) (h2 : BigV w v2 b) (ha : (dk a).length ≤ 100000) (hb : (dk b).length ≤ 100000) (hb0 : 0 < b) :
    Calls Tryz.prog 38 #[.bool neg, v1, v2] w fun e w' => LowRes neg a b e ∧ Below w.heap.size w w' := by
  have hbb : Below w.heap.size w (w.alloc (.cells #[.bool false, .string ⟨#[]⟩, .string ⟨#[]⟩] 27)) := (Below.refl _ _).alloc (Nat.le_refl _) _; have hor : Own (w.alloc (.cells #[.bool false, .string ⟨#[]⟩, .string ⟨#[]⟩] 27)) w.heap.size 27 [.bool false, .string ⟨#[]⟩, .string ⟨#[]⟩] := Own.new w _ _; have H1 := Lib.hid h1; obtain ⟨A, c, rfl, hc1, hc2, -⟩ := h1; unfold maxLen at hc2
  rcases Nat.eq_zero_or_pos a with rfl | ha0
  · have h0 : (dk 0).length = 0 := rfl; rw [h0]; have HR := Lib.hid (low_zero neg hb0); clear hc1 h0 ha H1 h2
    go_enter Tryz.func38, Tryz.ntmps38
    go_upto_if 19 with (fail)
    generalize (w.alloc (.cells #[.bool false, .string ⟨#[]⟩, .string ⟨#[]⟩] 27)) = wb at hbb hor ⊢; obtain ⟨hr0, hr1, hr2⟩ := hor.cells3; obtain ⟨hf0, hf1, hf2⟩ := hor.frozens3; have oz : Own (((wb.setCell ⟨w.heap.size, 0, none⟩ (Value.bool false)).setCell ⟨w.heap.size, 1, none⟩ (Value.string ⟨#[48]⟩)).setCell ⟨w.heap.size, 2, none⟩ (Value.string ⟨#[49]⟩)) (w.heap.size) 27 [Value.bool false, Value.string ⟨#[48]⟩, Value.string ⟨#[49]⟩] := ((hor.set_ 0 (Value.bool false)).set_ 1 (Value.string ⟨#[48]⟩)).set_ 2 (Value.string ⟨#[49]⟩); have sz : Below w.heap.size w (((wb.setCell ⟨w.heap.size, 0, none⟩ (Value.bool false)).setCell ⟨w.heap.size, 1, none⟩ (Value.string ⟨#[48]⟩)).setCell ⟨w.heap.size, 2, none⟩ (Value.string ⟨#[49]⟩)) := ((hbb.setCell (Nat.le_refl _) _).setCell (Nat.le_refl _) _).setCell (Nat.le_refl _) _
    go_wp2_with fail
    generalize (((wb.setCell ⟨w.heap.size, 0, none⟩ (Value.bool false)).setCell ⟨w.heap.size, 1, none⟩ (Value.string ⟨#[48]⟩)).setCell ⟨w.heap.size, 2, none⟩ (Value.string ⟨#[49]⟩)) = wz at oz sz ⊢; obtain ⟨z0, z1, z2⟩ := oz.cells3; exact bodyPost_ret (v := .tuple #[.agg #[Value.bool false, Value.string ⟨#[48]⟩, Value.string ⟨#[49]⟩], .int .i64 0]) (by simp [results, Tryz.results38, go_sem, z0, z1, z2]) rfl ⟨HR.out, sz⟩
  · have hg0 : 0 < Nat.gcd a b := Nat.gcd_pos_of_pos_right a hb0; have hgl : (dk (Nat.gcd a b)).length ≤ 100000 := Nat.le_trans (Dg.dg_mono b10k (Nat.gcd_le_right a hb0)) hb; have hpl : (dk (a / Nat.gcd a b)).length ≤ 100000 := Nat.le_trans (Dg.dg_mono b10k (Nat.div_le_self _ _)) ha; have hql : (dk (b / Nat.gcd a b)).length ≤ 100000 := Nat.le_trans (Dg.dg_mono b10k (Nat.div_le_self _ _)) hb; have HR1 : Hid (∀ (_ : OkN (a / Nat.gcd a b)) (_ : OkN (b / Nat.gcd a b)), LowRes neg a b (.returned (.tuple #[RatV neg (a / Nat.gcd a b) (b / Nat.gcd a b), .int .i64 0]))) :=
      fun o1 o2 => .inl ⟨o1, o2, by simp [ha0]⟩
    have HR2 : Hid (¬ (OkN (a / Nat.gcd a b) ∧ OkN (b / Nat.gcd a b)) → LowRes neg a b (.returned (.tuple #[Rat0, .int .i64 2]))) := fun h => .inr ⟨h, rfl⟩; have hl0 : 0 < (dk a).length := List.length_pos_iff.2 fun e => by have := (Dg.dg_nil b10k).1 e; omega
    have b0 : (((dk a).length : Int) == 0) = false := beq_eq_false_iff_ne.2 (by omega)
    go_enter Tryz.func38, Tryz.ntmps38
    go_wp2_with fail
    generalize (w.alloc (.cells #[.bool false, .string ⟨#[]⟩, .string ⟨#[]⟩] 27)) = wb at hbb hor ⊢; have n1 := H1.out.below hbb; have n2 := h2.below hbb; refine (gcd_ref _ n1 n2 (by omega) (by omega)).mono ?_; rintro e wg ⟨vg, rfl, hvg, hb1⟩; have or1 := hor.below hb1 hor.lt; have n1' := n1.below hb1; have n2' := n2.below hb1; have s1 := hbb.trans (hb1.mono hbb.size); clear hor n1 n2 hb1 hbb
    go_wp2_with fail
    refine (divide_ref _ n1' hvg (by omega) (by omega) hg0).mono ?_; rintro e wp ⟨vp, vr, rfl, hvp, -, hb2⟩; have or2 := or1.below hb2 or1.lt; have n2'' := n2'.below hb2; have hvg' := hvg.below hb2; have s2 := s1.trans (hb2.mono s1.size); clear or1 n1' n2' hvg s1 hb2
    go_wp2_with fail
    refine (divide_ref _ n2'' hvg' (by omega) (by omega) hg0).mono ?_; rintro e wq ⟨vq, vr2, rfl, hvq, -, hb3⟩; have or3 := or2.below hb3 or2.lt; have hvp' := hvp.below hb3; have s3 := s2.trans (hb3.mono s2.size); clear or2 n2'' hvg' hvp s2 hb3; generalize hPP : a / Nat.gcd a b = P at *; generalize hQQ : b / Nat.gcd a b = Q at *; clear hPP hQQ
    go_wp2_with fail
    refine (done_ref _ hvp' (by omega)).mono ?_; rintro e wt ⟨htx, hb4⟩; have or4 := or3.below hb4 or3.lt; have hvq' := hvq.below hb4; have s4 := s3.trans (hb4.mono s3.size); clear or3 hvq s3 hb4; have HQV := Lib.hid (done_ref _ hvq' (by omega)); clear hvq'
    rcases htx with ⟨hp, rfl⟩ | ⟨hp, rfl⟩
    · skip
      have HPK := Lib.hid hp; clear hp
      go_wp2_with fail
      refine HQV.out.mono ?_; rintro e wu ⟨htx, hb5⟩; have or5 := or4.below hb5 or4.lt; have s5 := s4.trans (hb5.mono s4.size); obtain ⟨hr0, hr1, hr2⟩ := or5.cells3; obtain ⟨hf0, hf1, hf2⟩ := or5.frozens3; clear or4 s4 hb5
      rcases htx with ⟨hq, rfl⟩ | ⟨hq, rfl⟩
      · have HQK := Lib.hid hq; clear hq; have oz : Own (((wu.setCell ⟨w.heap.size, 0, none⟩ (Value.bool neg)).setCell ⟨w.heap.size, 1, none⟩ (Value.string (S P))).setCell ⟨w.heap.size, 2, none⟩ (Value.string (S Q))) (w.heap.size) 27 [Value.bool neg, Value.string (S P), Value.string (S Q)] := ((or5.set_ 0 (Value.bool neg)).set_ 1 (Value.string (S P))).set_ 2 (Value.string (S Q)); have sz : Below w.heap.size w (((wu.setCell ⟨w.heap.size, 0, none⟩ (Value.bool neg)).setCell ⟨w.heap.size, 1, none⟩ (Value.string (S P))).setCell ⟨w.heap.size, 2, none⟩ (Value.string (S Q))) := ((s5.setCell (Nat.le_refl _) _).setCell (Nat.le_refl _) _).setCell (Nat.le_refl _) _
        go_wp2_with fail
        generalize (((wu.setCell ⟨w.heap.size, 0, none⟩ (Value.bool neg)).setCell ⟨w.heap.size, 1, none⟩ (Value.string (S P))).setCell ⟨w.heap.size, 2, none⟩ (Value.string (S Q))) = wz at oz sz ⊢; obtain ⟨z0, z1, z2⟩ := oz.cells3; exact bodyPost_ret (v := .tuple #[.agg #[Value.bool neg, Value.string (S P), Value.string (S Q)], .int .i64 0]) (by simp [results, Tryz.results38, go_sem, z0, z1, z2]) rfl ⟨HR1.out HPK.out HQK.out, sz⟩
      · have HQK := Lib.hid hq; clear hq; have oz : Own (((wu.setCell ⟨w.heap.size, 0, none⟩ (Value.bool false)).setCell ⟨w.heap.size, 1, none⟩ (Value.string ⟨#[]⟩)).setCell ⟨w.heap.size, 2, none⟩ (Value.string ⟨#[]⟩)) (w.heap.size) 27 [Value.bool false, Value.string ⟨#[]⟩, Value.string ⟨#[]⟩] := ((or5.set_ 0 (Value.bool false)).set_ 1 (Value.string ⟨#[]⟩)).set_ 2 (Value.string ⟨#[]⟩); have sz : Below w.heap.size w (((wu.setCell ⟨w.heap.size, 0, none⟩ (Value.bool false)).setCell ⟨w.heap.size, 1, none⟩ (Value.string ⟨#[]⟩)).setCell ⟨w.heap.size, 2, none⟩ (Value.string ⟨#[]⟩)) := ((s5.setCell (Nat.le_refl _) _).setCell (Nat.le_refl _) _).setCell (Nat.le_refl _) _
        go_wp2_with fail
        generalize (((wu.setCell ⟨w.heap.size, 0, none⟩ (Value.bool false)).setCell ⟨w.heap.size, 1, none⟩ (Value.string ⟨#[]⟩)).setCell ⟨w.heap.size, 2, none⟩ (Value.string ⟨#[]⟩)) = wz at oz sz ⊢; obtain ⟨z0, z1, z2⟩ := oz.cells3; exact bodyPost_ret (v := .tuple #[.agg #[Value.bool false, Value.string ⟨#[]⟩, Value.string ⟨#[]⟩], .int .i64 2]) (by simp [results, Tryz.results38, go_sem, z0, z1, z2]) rfl ⟨HR2.out fun h => HQK.out h.2, sz⟩
    · skip
      have HPK := Lib.hid hp; clear hp
      go_wp2_with fail
      refine HQV.out.mono ?_; rintro e wu ⟨htx, hb5⟩; have or5 := or4.below hb5 or4.lt; have s5 := s4.trans (hb5.mono s4.size); obtain ⟨hr0, hr1, hr2⟩ := or5.cells3; obtain ⟨hf0, hf1, hf2⟩ := or5.frozens3; clear or4 s4 hb5
      rcases htx with ⟨hq, rfl⟩ | ⟨hq, rfl⟩
      · have HQK := Lib.hid hq; clear hq; have oz : Own (((wu.setCell ⟨w.heap.size, 0, none⟩ (Value.bool false)).setCell ⟨w.heap.size, 1, none⟩ (Value.string ⟨#[]⟩)).setCell ⟨w.heap.size, 2, none⟩ (Value.string ⟨#[]⟩)) (w.heap.size) 27 [Value.bool false, Value.string ⟨#[]⟩, Value.string ⟨#[]⟩] := ((or5.set_ 0 (Value.bool false)).set_ 1 (Value.string ⟨#[]⟩)).set_ 2 (Value.string ⟨#[]⟩); have sz : Below w.heap.size w (((wu.setCell ⟨w.heap.size, 0, none⟩ (Value.bool false)).setCell ⟨w.heap.size, 1, none⟩ (Value.string ⟨#[]⟩)).setCell ⟨w.heap.size, 2, none⟩ (Value.string ⟨#[]⟩)) := ((s5.setCell (Nat.le_refl _) _).setCell (Nat.le_refl _) _).setCell (Nat.le_refl _) _
        go_wp2_with fail
        generalize (((wu.setCell ⟨w.heap.size, 0, none⟩ (Value.bool false)).setCell ⟨w.heap.size, 1, none⟩ (Value.string ⟨#[]⟩)).setCell ⟨w.heap.size, 2, none⟩ (Value.string ⟨#[]⟩)) = wz at oz sz ⊢; obtain ⟨z0, z1, z2⟩ := oz.cells3; exact bodyPost_ret (v := .tuple #[.agg #[Value.bool false, Value.string ⟨#[]⟩, Value.string ⟨#[]⟩], .int .i64 2]) (by simp [results, Tryz.results38, go_sem, z0, z1, z2]) rfl ⟨HR2.out fun h => HPK.out h.1, sz⟩
      · have HQK := Lib.hid hq; clear hq; have oz : Own (((wu.setCell ⟨w.heap.size, 0, none⟩ (Value.bool false)).setCell ⟨w.heap.size, 1, none⟩ (Value.string ⟨#[]⟩)).setCell ⟨w.heap.size, 2, none⟩ (Value.string ⟨#[]⟩)) (w.heap.size) 27 [Value.bool false, Value.string ⟨#[]⟩, Value.string ⟨#[]⟩] := ((or5.set_ 0 (Value.bool false)).set_ 1 (Value.string ⟨#[]⟩)).set_ 2 (Value.string ⟨#[]⟩); have sz : Below w.heap.size w (((wu.setCell ⟨w.heap.size, 0, none⟩ (Value.bool false)).setCell ⟨w.heap.size, 1, none⟩ (Value.string ⟨#[]⟩)).setCell ⟨w.heap.size, 2, none⟩ (Value.string ⟨#[]⟩)) := ((s5.setCell (Nat.le_refl _) _).setCell (Nat.le_refl _) _).setCell (Nat.le_refl _) _
        go_wp2_with fail
        generalize (((wu.setCell ⟨w.heap.size, 0, none⟩ (Value.bool false)).setCell ⟨w.heap.size, 1, none⟩ (Value.string ⟨#[]⟩)).setCell ⟨w.heap.size, 2, none⟩ (Value.string ⟨#[]⟩)) = wz at oz sz ⊢; obtain ⟨z0, z1, z2⟩ := oz.cells3; exact bodyPost_ret (v := .tuple #[.agg #[Value.bool false, Value.string ⟨#[]⟩, Value.string ⟨#[]⟩], .int .i64 2]) (by simp [results, Tryz.results38, go_sem, z0, z1, z2]) rfl ⟨HR2.out fun h => HPK.out h.1, sz⟩
open Go.RowKit Dg

end Go.Proofs.YtocknfhgjmaibaaGreatDoor
