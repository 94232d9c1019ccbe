/- Ratios: lowest, size, Make. -/
import Derived.Test.YtopfcfbiaadfeaaDoorNu
namespace Go.Proofs.YtopfcfbiaadfeaaDoor
set_option linter.unusedSimpArgs false
set_option linter.unusedVariables false
set_option linter.unusedSectionVars false
open Go.RowKit Dg

/-- A ratio as a value. -/
abbrev RatV (neg : Bool) (p q : Nat) : Value := .agg #[.bool neg, .string (S p), .string (S q)]
abbrev Rat0 : Value := .agg #[.bool false, .string ⟨#[]⟩, .string ⟨#[]⟩]
/-- What lowest returns. -/
def LowRes (neg : Bool) (a b : Nat) (e : Ending) : Prop :=
  (OkN (a / Nat.gcd a b) ∧ OkN (b / Nat.gcd a b) ∧ e = .returned (.tuple #[RatV (neg && decide (0 < a)) (a / Nat.gcd a b) (b / Nat.gcd a b), .int .i64 0])) ∨
  (¬ (OkN (a / Nat.gcd a b) ∧ OkN (b / Nat.gcd a b)) ∧ e = .returned (.tuple #[Rat0, .int .i64 2]))
theorem ratio_info : (Tryd.prog.info? 29).map (fun i => (i.zero, i.size)) = some (some Rat0, 3) := by kernel_rfl

set_option maxRecDepth 100000 in
set_option maxHeartbeats 2000000 in
theorem lowest_any (neg : Bool) (v1 v2 : Value) (a b : Nat) (w : World) (h1 : NatV w v1 a) (h2 : NatV w v2 b) (ha : (dw a).length ≤ 1000000) (hb : (dw b).length ≤ 1000000) (hb0 : 0 < b) :
    Calls Tryd.prog 28 #[.agg #[.bool neg, v1, v2]] w fun e w' => LowRes neg a b e ∧ Below w.heap.size w w' := by
  have hg0 : 0 < Nat.gcd a b := Nat.gcd_pos_of_pos_right a hb0
  have hgb : Nat.gcd a b ≤ b := Nat.gcd_le_right a hb0
  have hgl : (dw (Nat.gcd a b)).length ≤ 1000000 := Nat.le_trans (dg_mono b32 hgb) hb
  have hpl : (dw (a / Nat.gcd a b)).length ≤ 1000000 := Nat.le_trans (dg_mono b32 (Nat.div_le_self _ _)) ha
  have hql : (dw (b / Nat.gcd a b)).length ≤ 1000000 := Nat.le_trans (dg_mono b32 (Nat.div_le_self _ _)) hb
  have hp0 : (0 < (dw (a / Nat.gcd a b)).length) ↔ 0 < a := by
    constructor
    · intro h
      rcases Nat.eq_zero_or_pos a with e | e
      · rw [e, Nat.zero_div] at h; exact absurd h (by decide)
      · exact e
    · intro h
      exact dw_len_pos (Nat.div_pos (Nat.gcd_le_left b h) hg0)
  have HP0 := Lib.hid hp0
  clear hp0
  have H1 := Lib.hid h1
  have H2 := Lib.hid h2
  obtain ⟨A, c, rfl, -⟩ := h1
  obtain ⟨A2, c2, rfl, -⟩ := h2
  have HFin : Hid (∀ e, LowRes neg a b e → LowRes neg a b e) := fun e h => h
  have HR1 : Hid (∀ (_ : OkN (a / Nat.gcd a b)) (_ : OkN (b / Nat.gcd a b)) (bb : Bool), bb = (neg && decide (0 < a)) → LowRes neg a b (.returned (.tuple #[RatV bb (a / Nat.gcd a b) (b / Nat.gcd a b), .int .i64 0]))) :=
    fun o1 o2 bb hbb => .inl ⟨o1, o2, by rw [hbb]⟩
  have HR2 : Hid (¬ (OkN (a / Nat.gcd a b) ∧ OkN (b / Nat.gcd a b)) → LowRes neg a b (.returned (.tuple #[Rat0, .int .i64 2]))) := fun h => .inr ⟨h, rfl⟩
  go_enter Tryd.func28, Tryd.ntmps28
  go_wp2_with fail
  have hbb : Below w.heap.size w ((w.alloc (.cells #[.bool neg, .slice A (dw a).length c, .slice A2 (dw b).length c2] 57)).alloc (.cells #[.bool false, .string ⟨#[]⟩, .string ⟨#[]⟩] 29)) :=
    ((Below.refl _ _).alloc (Nat.le_refl _) _).alloc (by rw [size1]; omega) _
  have hob : Own ((w.alloc (.cells #[.bool neg, .slice A (dw a).length c, .slice A2 (dw b).length c2] 57)).alloc (.cells #[.bool false, .string ⟨#[]⟩, .string ⟨#[]⟩] 29)) w.heap.size 57 [.bool neg, .slice A (dw a).length c, .slice A2 (dw b).length c2] :=
    (Own.new w _ _).alloc _
  have hor : Own ((w.alloc (.cells #[.bool neg, .slice A (dw a).length c, .slice A2 (dw b).length c2] 57)).alloc (.cells #[.bool false, .string ⟨#[]⟩, .string ⟨#[]⟩] 29)) (w.heap.size + 1) 29 [.bool false, .string ⟨#[]⟩, .string ⟨#[]⟩] := by
    have := Own.new (w.alloc (.cells #[.bool neg, .slice A (dw a).length c, .slice A2 (dw b).length c2] 57)) 29 [.bool false, .string ⟨#[]⟩, .string ⟨#[]⟩]
    rw [size1] at this
    exact this
  generalize ((w.alloc (.cells #[.bool neg, .slice A (dw a).length c, .slice A2 (dw b).length c2] 57)).alloc (.cells #[.bool false, .string ⟨#[]⟩, .string ⟨#[]⟩] 29)) = wb at hbb hob hor ⊢
  have n1 := H1.out.below hbb
  have n2 := H2.out.below hbb
  refine (gcd_any _ n1 n2 (by omega) (by omega)).mono ?_
  rintro e wg ⟨vg, rfl, hvg, hb1⟩
  have ob1 := hob.below hb1 hob.lt
  have or1 := hor.below hb1 hor.lt
  have c1 : wg.cell? ⟨w.heap.size, 1, none⟩ = some (.slice A (dw a).length c) := ob1.cell 1
  have n1' := n1.below hb1
  have n2' := n2.below hb1
  have s1 := hbb.trans (hb1.mono hbb.size)
  clear hob hor n1 n2 hb1 hbb
  go_wp2_with fail
  refine (div_any _ n1' hvg (by omega) hg0).mono ?_
  rintro e wp ⟨vp, vr, rfl, hvp, -, hb2⟩
  have ob2 := ob1.below hb2 ob1.lt
  have or2 := or1.below hb2 or1.lt
  have c2' : wp.cell? ⟨w.heap.size, 2, none⟩ = some (.slice A2 (dw b).length c2) := ob2.cell 2
  have n2'' := n2'.below hb2
  have hvg' := hvg.below hb2
  have s2 := s1.trans (hb2.mono s1.size)
  clear ob1 or1 n1' n2' hvg s1 c1 hb2
  go_wp2_with fail
  refine (div_any _ n2'' hvg' (by omega) hg0).mono ?_
  rintro e wq ⟨vq, vr2, rfl, hvq, -, hb3⟩
  have ob3 := ob2.below hb3 ob2.lt
  have or3 := or2.below hb3 or2.lt
  have hvp' := hvp.below hb3
  have s3 := s2.trans (hb3.mono s2.size)
  clear ob2 or2 n2'' hvg' hvp s2 c2' hb3
  generalize hPP : a / Nat.gcd a b = P at *
  generalize hQQ : b / Nat.gcd a b = Q at *
  clear hPP hQQ
  have HVP := Lib.hid hvp'
  obtain ⟨Ap, cp, rfl, hcp1, hcp2, -⟩ := hvp'
  unfold maxLen at hcp2
  go_wp2_with fail
  refine (text_any _ HVP.out (by omega)).mono ?_
  rintro e wt ⟨htx, hb4⟩
  have ob4 := ob3.below hb4 ob3.lt
  have or4 := or3.below hb4 or3.lt
  have hvq' := hvq.below hb4
  have s4 := s3.trans (hb4.mono s3.size)
  clear ob3 or3 hvq s3 hb4
  have hr0 : wt.cell? ⟨w.heap.size + 1, 0, none⟩ = some (.bool false) := or4.cell 0
  have hr1 : wt.cell? ⟨w.heap.size + 1, 1, none⟩ = some (.string ⟨#[]⟩) := or4.cell 1
  have hr2 : wt.cell? ⟨w.heap.size + 1, 2, none⟩ = some (.string ⟨#[]⟩) := or4.cell 2
  have hf0 := or4.frozen 0
  have hf1 := or4.frozen 1
  have hf2 := or4.frozen 2
  rcases htx with ⟨hp, rfl⟩ | ⟨hp, rfl⟩
  · have HPK := Lib.hid hp
    clear hp hr0 hr1 hr2 hf0 hf1 hf2
    go_wp2_with fail
    refine (text_any _ hvq' (by omega)).mono ?_
    rintro e wu ⟨htx, hb5⟩
    have ob5 := ob4.below hb5 ob4.lt
    have or5 := or4.below hb5 or4.lt
    have s5 := s4.trans (hb5.mono s4.size)
    have hr0 : wu.cell? ⟨w.heap.size + 1, 0, none⟩ = some (.bool false) := or5.cell 0
    have hr1 : wu.cell? ⟨w.heap.size + 1, 1, none⟩ = some (.string ⟨#[]⟩) := or5.cell 1
    have hr2 : wu.cell? ⟨w.heap.size + 1, 2, none⟩ = some (.string ⟨#[]⟩) := or5.cell 2
    have hf0 := or5.frozen 0
    have hf1 := or5.frozen 1
    have hf2 := or5.frozen 2
    have hn0 : wu.cell? ⟨w.heap.size, 0, none⟩ = some (.bool neg) := ob5.cell 0
    clear ob4 or4 hvq' s4 hb5
    rcases htx with ⟨hq, rfl⟩ | ⟨hq, rfl⟩
    · have HQK := Lib.hid hq
      clear hq
      have hpl2 : (0 : Int) ≤ ((dw P).length : Int) := by omega
      cases neg with
      | false =>
        have oz : Own (((wu.setCell ⟨w.heap.size + 1, 0, none⟩ (Value.bool false)).setCell ⟨w.heap.size + 1, 1, none⟩ (Value.string (S P))).setCell ⟨w.heap.size + 1, 2, none⟩ (Value.string (S Q))) (w.heap.size + 1) 29 [Value.bool false, Value.string (S P), Value.string (S Q)] := ((or5.set_ 0 (Value.bool false)).set_ 1 (Value.string (S P))).set_ 2 (Value.string (S Q))
        have sz : Below w.heap.size w (((wu.setCell ⟨w.heap.size + 1, 0, none⟩ (Value.bool false)).setCell ⟨w.heap.size + 1, 1, none⟩ (Value.string (S P))).setCell ⟨w.heap.size + 1, 2, none⟩ (Value.string (S Q))) := ((s5.setCell (Nat.le_succ _) _).setCell (Nat.le_succ _) _).setCell (Nat.le_succ _) _
        go_wp2_with fail
        generalize (((wu.setCell ⟨w.heap.size + 1, 0, none⟩ (Value.bool false)).setCell ⟨w.heap.size + 1, 1, none⟩ (Value.string (S P))).setCell ⟨w.heap.size + 1, 2, none⟩ (Value.string (S Q))) = wz at oz sz ⊢
        have z0 : wz.cell? ⟨w.heap.size + 1, 0, none⟩ = some (Value.bool false) := oz.cell 0
        have z1 : wz.cell? ⟨w.heap.size + 1, 1, none⟩ = some (Value.string (S P)) := oz.cell 1
        have z2 : wz.cell? ⟨w.heap.size + 1, 2, none⟩ = some (Value.string (S Q)) := oz.cell 2
        exact bodyPost_ret (v := .tuple #[.agg #[Value.bool false, Value.string (S P), Value.string (S Q)], .int .i64 0]) (by simp [results, Tryd.results28, go_sem, z0, z1, z2]) rfl ⟨HR1.out HPK.out HQK.out _ (by simp), sz⟩
      | true =>
        by_cases ha0 : 0 < a
        · have hpp := HP0.out.2 ha0
          have d1 : decide ((0 : Int) < ((dw P).length : Int)) = true := decide_eq_true (by omega)
          have d2 : decide (0 < (dw P).length) = true := decide_eq_true hpp
          have HA := Lib.hid ha0
          clear ha0
          have oz : Own (((wu.setCell ⟨w.heap.size + 1, 0, none⟩ (Value.bool true)).setCell ⟨w.heap.size + 1, 1, none⟩ (Value.string (S P))).setCell ⟨w.heap.size + 1, 2, none⟩ (Value.string (S Q))) (w.heap.size + 1) 29 [Value.bool true, Value.string (S P), Value.string (S Q)] := ((or5.set_ 0 (Value.bool true)).set_ 1 (Value.string (S P))).set_ 2 (Value.string (S Q))
          have sz : Below w.heap.size w (((wu.setCell ⟨w.heap.size + 1, 0, none⟩ (Value.bool true)).setCell ⟨w.heap.size + 1, 1, none⟩ (Value.string (S P))).setCell ⟨w.heap.size + 1, 2, none⟩ (Value.string (S Q))) := ((s5.setCell (Nat.le_succ _) _).setCell (Nat.le_succ _) _).setCell (Nat.le_succ _) _
          go_wp2_with fail
          generalize (((wu.setCell ⟨w.heap.size + 1, 0, none⟩ (Value.bool true)).setCell ⟨w.heap.size + 1, 1, none⟩ (Value.string (S P))).setCell ⟨w.heap.size + 1, 2, none⟩ (Value.string (S Q))) = wz at oz sz ⊢
          have z0 : wz.cell? ⟨w.heap.size + 1, 0, none⟩ = some (Value.bool true) := oz.cell 0
          have z1 : wz.cell? ⟨w.heap.size + 1, 1, none⟩ = some (Value.string (S P)) := oz.cell 1
          have z2 : wz.cell? ⟨w.heap.size + 1, 2, none⟩ = some (Value.string (S Q)) := oz.cell 2
          exact bodyPost_ret (v := .tuple #[.agg #[Value.bool true, Value.string (S P), Value.string (S Q)], .int .i64 0]) (by simp [results, Tryd.results28, go_sem, z0, z1, z2]) rfl ⟨HR1.out HPK.out HQK.out _ (by simp; exact HA.out), sz⟩
        · have hpp : ¬ 0 < (dw P).length := fun h => ha0 (HP0.out.1 h)
          have d1 : decide ((0 : Int) < ((dw P).length : Int)) = false := decide_eq_false (by omega)
          have d2 : decide (0 < (dw P).length) = false := decide_eq_false hpp
          have HA : Hid (¬ 0 < a) := ha0
          clear ha0
          have oz : Own (((wu.setCell ⟨w.heap.size + 1, 0, none⟩ (Value.bool false)).setCell ⟨w.heap.size + 1, 1, none⟩ (Value.string (S P))).setCell ⟨w.heap.size + 1, 2, none⟩ (Value.string (S Q))) (w.heap.size + 1) 29 [Value.bool false, Value.string (S P), Value.string (S Q)] := ((or5.set_ 0 (Value.bool false)).set_ 1 (Value.string (S P))).set_ 2 (Value.string (S Q))
          have sz : Below w.heap.size w (((wu.setCell ⟨w.heap.size + 1, 0, none⟩ (Value.bool false)).setCell ⟨w.heap.size + 1, 1, none⟩ (Value.string (S P))).setCell ⟨w.heap.size + 1, 2, none⟩ (Value.string (S Q))) := ((s5.setCell (Nat.le_succ _) _).setCell (Nat.le_succ _) _).setCell (Nat.le_succ _) _
          go_wp2_with fail
          generalize (((wu.setCell ⟨w.heap.size + 1, 0, none⟩ (Value.bool false)).setCell ⟨w.heap.size + 1, 1, none⟩ (Value.string (S P))).setCell ⟨w.heap.size + 1, 2, none⟩ (Value.string (S Q))) = wz at oz sz ⊢
          have z0 : wz.cell? ⟨w.heap.size + 1, 0, none⟩ = some (Value.bool false) := oz.cell 0
          have z1 : wz.cell? ⟨w.heap.size + 1, 1, none⟩ = some (Value.string (S P)) := oz.cell 1
          have z2 : wz.cell? ⟨w.heap.size + 1, 2, none⟩ = some (Value.string (S Q)) := oz.cell 2
          exact bodyPost_ret (v := .tuple #[.agg #[Value.bool false, Value.string (S P), Value.string (S Q)], .int .i64 0]) (by simp [results, Tryd.results28, go_sem, z0, z1, z2]) rfl ⟨HR1.out HPK.out HQK.out _ (by have := HA.out; simp; omega), sz⟩
    · have HQK := Lib.hid hq
      clear hq
      have oz : Own (((wu.setCell ⟨w.heap.size + 1, 0, none⟩ (Value.bool false)).setCell ⟨w.heap.size + 1, 1, none⟩ (Value.string ⟨#[]⟩)).setCell ⟨w.heap.size + 1, 2, none⟩ (Value.string ⟨#[]⟩)) (w.heap.size + 1) 29 [Value.bool false, Value.string ⟨#[]⟩, Value.string ⟨#[]⟩] := ((or5.set_ 0 (Value.bool false)).set_ 1 (Value.string ⟨#[]⟩)).set_ 2 (Value.string ⟨#[]⟩)
      have sz : Below w.heap.size w (((wu.setCell ⟨w.heap.size + 1, 0, none⟩ (Value.bool false)).setCell ⟨w.heap.size + 1, 1, none⟩ (Value.string ⟨#[]⟩)).setCell ⟨w.heap.size + 1, 2, none⟩ (Value.string ⟨#[]⟩)) := ((s5.setCell (Nat.le_succ _) _).setCell (Nat.le_succ _) _).setCell (Nat.le_succ _) _
      go_wp2_with fail
      generalize (((wu.setCell ⟨w.heap.size + 1, 0, none⟩ (Value.bool false)).setCell ⟨w.heap.size + 1, 1, none⟩ (Value.string ⟨#[]⟩)).setCell ⟨w.heap.size + 1, 2, none⟩ (Value.string ⟨#[]⟩)) = wz at oz sz ⊢
      have z0 : wz.cell? ⟨w.heap.size + 1, 0, none⟩ = some (Value.bool false) := oz.cell 0
      have z1 : wz.cell? ⟨w.heap.size + 1, 1, none⟩ = some (Value.string ⟨#[]⟩) := oz.cell 1
      have z2 : wz.cell? ⟨w.heap.size + 1, 2, none⟩ = some (Value.string ⟨#[]⟩) := oz.cell 2
      exact bodyPost_ret (v := .tuple #[.agg #[Value.bool false, Value.string ⟨#[]⟩, Value.string ⟨#[]⟩], .int .i64 2]) (by simp [results, Tryd.results28, go_sem, z0, z1, z2]) rfl ⟨HR2.out fun h => HQK.out h.2, sz⟩
  · have HPK := Lib.hid hp
    clear hp
    have oz : Own (((wt.setCell ⟨w.heap.size + 1, 0, none⟩ (Value.bool false)).setCell ⟨w.heap.size + 1, 1, none⟩ (Value.string ⟨#[]⟩)).setCell ⟨w.heap.size + 1, 2, none⟩ (Value.string ⟨#[]⟩)) (w.heap.size + 1) 29 [Value.bool false, Value.string ⟨#[]⟩, Value.string ⟨#[]⟩] := ((or4.set_ 0 (Value.bool false)).set_ 1 (Value.string ⟨#[]⟩)).set_ 2 (Value.string ⟨#[]⟩)
    have sz : Below w.heap.size w (((wt.setCell ⟨w.heap.size + 1, 0, none⟩ (Value.bool false)).setCell ⟨w.heap.size + 1, 1, none⟩ (Value.string ⟨#[]⟩)).setCell ⟨w.heap.size + 1, 2, none⟩ (Value.string ⟨#[]⟩)) := ((s4.setCell (Nat.le_succ _) _).setCell (Nat.le_succ _) _).setCell (Nat.le_succ _) _
    go_wp2_with fail
    generalize (((wt.setCell ⟨w.heap.size + 1, 0, none⟩ (Value.bool false)).setCell ⟨w.heap.size + 1, 1, none⟩ (Value.string ⟨#[]⟩)).setCell ⟨w.heap.size + 1, 2, none⟩ (Value.string ⟨#[]⟩)) = wz at oz sz ⊢
    have z0 : wz.cell? ⟨w.heap.size + 1, 0, none⟩ = some (Value.bool false) := oz.cell 0
    have z1 : wz.cell? ⟨w.heap.size + 1, 1, none⟩ = some (Value.string ⟨#[]⟩) := oz.cell 1
    have z2 : wz.cell? ⟨w.heap.size + 1, 2, none⟩ = some (Value.string ⟨#[]⟩) := oz.cell 2
    exact bodyPost_ret (v := .tuple #[.agg #[Value.bool false, Value.string ⟨#[]⟩, Value.string ⟨#[]⟩], .int .i64 2]) (by simp [results, Tryd.results28, go_sem, z0, z1, z2]) rfl ⟨HR2.out fun h => HPK.out h.1, sz⟩
end Go.Proofs.YtopfcfbiaadfeaaDoor
