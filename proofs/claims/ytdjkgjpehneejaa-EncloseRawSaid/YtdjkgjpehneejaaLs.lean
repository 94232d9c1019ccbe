/- Chapter 37's some and known. -/
import Derived.Test.YtdjkgjpehneejaaBi
import Derived.Test.YtdjkgjpehneejaaNm
namespace Go.Proofs.Ytdjkgjpehneejaa
set_option linter.unusedSimpArgs false
set_option linter.unusedVariables false
set_option linter.unusedSectionVars false
open Go.RowKit Dg

theorem Chg.fresh {S : Nat → Prop} {w w' : World} (h : Chg S w w') {g : Nat} (hg : w.heap.size ≤ g) (i : Nat) (u : Value) : Chg S w (w'.setCell ⟨g, i, none⟩ u) :=
  ⟨h.os, h.tape, h.output, by have := h.size; simpa [World.setCell] using this, fun k hk hs => (Below.heap_setCell _ _ _ _ (fun e => by have e2 : k = g := e; omega)).trans (h.block k hk hs)⟩
theorem tape_fin {w w1 : World} {p : Nat} {A : Option Addr} {l : List Int} {c a0 a1 g : Nat} (h0 : Tape w p A l c a0) (h : Tape w1 p A l c a1) (hc : Chg (fun k => k = p) w w1) (hg : w.heap.size ≤ g) (hne : ¬ (g = p)) (x y z : Value) :
    Tape (((w1.setCell ⟨g, 0, none⟩ x).setCell ⟨g, 1, none⟩ y).setCell ⟨g, 2, none⟩ z) p A l c a1 ∧ Chg (fun k => k = p) w (((w1.setCell ⟨g, 0, none⟩ x).setCell ⟨g, 1, none⟩ y).setCell ⟨g, 2, none⟩ z) := by
  have hcc := ((hc.fresh hg 0 x).fresh hg 1 y).fresh hg 2 z
  have hp : ∀ i, p ≠ (⟨g, i, none⟩ : Addr).block := fun i e => hne e.symm
  exact ⟨⟨((h.own.far (hp 0) x).far (hp 1) y).far (hp 2) z, RdOut.chg h0.rd hcc, h.le, h.few, h.wf⟩, hcc⟩
/-- What the reference's Of returns of small numbers. -/
theorem some_of (neg : Bool) (m n : Nat) (s t : ByteArray) (hm : (dec m).length ≤ 6 ∧ S m = s) (hn : 0 < n ∧ (dec n).length ≤ 6 ∧ S n = t) :
    ∃ x : Rat, Few 6 x ∧ True ∧ RetV 38 #[.bool neg, .string s, .string t] (.tuple #[RV x, .int .i64 0]) := by
  obtain ⟨hm, rfl⟩ := hm
  obtain ⟨hn0, hn, rfl⟩ := hn
  have om : OkN m := by unfold OkN; omega
  have on : OkN n := by unfold OkN; omega
  have hf := few_rat (neg := neg) hn0 hm hn
  exact ⟨rat neg m n, hf, trivial, fun w => (ofr_low neg m n w om on hn0).mono fun e w' ⟨h1, hb⟩ => ⟨(h1.toRat hn0).ok (hf.ok (by omega)), hb⟩⟩
theorem some_ofp (m n : Nat) (s t : ByteArray) (hm : (dec m).length ≤ 6 ∧ S m = s) (hn : 0 < n ∧ (dec n).length ≤ 6 ∧ S n = t) (h1 : 0 < m) :
    ∃ x : Rat, Few 6 x ∧ 0 < x ∧ RetV 38 #[.bool false, .string s, .string t] (.tuple #[RV x, .int .i64 0]) := by
  obtain ⟨hm, rfl⟩ := hm
  obtain ⟨hn0, hn, rfl⟩ := hn
  have om : OkN m := by unfold OkN; omega
  have on : OkN n := by unfold OkN; omega
  have hf := few_rat (neg := false) hn0 hm hn
  refine ⟨rat false m n, hf, ?_, fun w => (ofr_low false m n w om on hn0).mono fun e w' ⟨h1, hb⟩ => ⟨(h1.toRat hn0).ok (hf.ok (by omega)), hb⟩⟩
  rcases Rat.le_iff_lt_or_eq.1 (Rat.not_lt.1 (fun h2 => by have := (rat_lt0 (neg := false) (a := m) hn0).1 h2; cases this.1) : (0 : Rat) ≤ rat false m n) with h2 | h2
  · exact h2
  · have := (rat_eq0 (neg := false) (a := m) hn0).1 h2.symm
    omega
set_option maxRecDepth 100000 in
set_option maxHeartbeats 8000000 in
theorem some37 (pos : Bool) (p : Nat) (A : Option Addr) (l : List Int) (c at_ : Nat) (w : World) (h : Tape w p A l c at_) :
    Calls Try.prog 12 #[.pointer (some ⟨p, 0, none⟩), .bool pos] w fun e w' => (∃ x, e = .returned (RV x) ∧ Few 6 x ∧ (pos = true → 0 < x)) ∧ (∃ a', Tape w' p A l c a') ∧ Chg (fun k => k = p) w w' := by
  have HT0 := Lib.hid h
  have hgp := h.own.lt
  have HNE : Hid (¬ (w.heap.size = p)) := by show ¬ _; omega
  obtain ⟨o0, hbw⟩ := new1 w [.bool false, .string ⟨#[]⟩, .string ⟨#[]⟩] 26
  have hT := h.below hbw
  have hcg : Chg (fun k => k = p) w (w.alloc (.cells #[.bool false, .string ⟨#[]⟩, .string ⟨#[]⟩] 26)) := Chg.of_below hbw fun k h1 h2 => by omega
  clear h hbw
  go_enter Try.func12, Try.ntmps12
  go_wp2_with fail
  generalize (w.alloc (.cells #[.bool false, .string ⟨#[]⟩, .string ⟨#[]⟩] 26)) = wb at o0 hT hcg ⊢
  refine (natural_any p A l c at_ 6 wb hT (by omega) (by omega)).mono ?_
  rintro e w2 ⟨⟨m, rfl, hm⟩, ⟨a2, hT2⟩, hc2⟩
  replace o0 := hc2.own o0 HNE.out
  replace hcg := hcg.trans hc2
  clear hT hc2
  go_wp2_with fail
  refine (natural_any p A l c a2 6 w2 hT2 (by omega) (by omega)).mono ?_
  rintro e w3 ⟨⟨n, rfl, hn⟩, ⟨a3, hT3⟩, hc3⟩
  replace o0 := hc3.own o0 HNE.out
  replace hcg := hcg.trans hc3
  clear hT2 hc3
  cases pos with
  | true =>
    rcases Nat.eq_zero_or_pos m with rfl | hm0
    · rw [okS_0]
      rcases Nat.eq_zero_or_pos n with rfl | hn0
      · rw [okS_0]
        obtain ⟨w4, a4, hT4, hw4⟩ : ∃ (w4 : World) (a4 : Nat), Tape w4 p A l c a4 ∧ w4 = w3 := ⟨w3, a3, hT3, rfl⟩
        subst hw4
        clear hT3
        have HOF : Hid (∃ x : Rat, Few 6 x ∧ 0 < x ∧ RetV 38 #[.bool false, .string ⟨#[49]⟩, .string ⟨#[49]⟩] (.tuple #[RV x, .int .i64 0])) := some_ofp 1 1 ⟨#[49]⟩ ⟨#[49]⟩ ⟨by decide, okS_1⟩ ⟨by decide, by decide, okS_1⟩ (by decide)
        obtain ⟨x, hf, hp0, HC⟩ := HOF.out
        have HF := Lib.hid hf
        have HP0 := Lib.hid hp0
        have HC := Lib.hid HC
        obtain ⟨nx, sx, tx, hx⟩ := rv_open' x
        rw [hx] at HC
        have HX := Lib.hid hx
        clear HOF hf hp0 hx
        go_wp2_with fail
        refine (HC.out _).mono ?_
        rintro e w5 ⟨rfl, hb5⟩
        replace o0 := o0.below hb5 o0.lt
        replace hT4 := hT4.below hb5
        replace hcg := hcg.trans (Chg.of_below hb5 fun k h1 h2 => by omega)
        clear HC hb5
        obtain ⟨o7, hb7⟩ := new1 w5 [.bool nx, .string sx, .string tx] 26
        replace o0 := o0.alloc (.cells #[.bool nx, .string sx, .string tx] 26)
        replace hT4 := hT4.below hb7
        replace hcg := hcg.trans (Chg.of_below hb7 fun k h1 h2 => by omega)
        have hg0 : (w5.alloc (.cells #[.bool nx, .string sx, .string tx] 26)).cell? ⟨w.heap.size, 0, none⟩ = some (.bool false) := o0.cell 0
        have hg1 : (w5.alloc (.cells #[.bool nx, .string sx, .string tx] 26)).cell? ⟨w.heap.size, 1, none⟩ = some (.string ⟨#[]⟩) := o0.cell 1
        have hg2 : (w5.alloc (.cells #[.bool nx, .string sx, .string tx] 26)).cell? ⟨w.heap.size, 2, none⟩ = some (.string ⟨#[]⟩) := o0.cell 2
        have hf0 := o0.frozen 0
        have hf1 := o0.frozen 1
        have hf2 := o0.frozen 2
        have k0 := o7.cell 0
        have k1 := o7.cell 1
        have k2 := o7.cell 2
        simp only [List.getElem?_cons_zero, List.getElem?_cons_succ] at k0 k1 k2
        have oz := o0.set3 (.bool nx) (.string sx) (.string tx)
        have HT := Lib.hid (tape_fin HT0.out hT4 hcg (Nat.le_refl _) HNE.out (.bool nx) (.string sx) (.string tx))
        clear hT4 hcg
        go_wp2_with fail
        generalize ((((w5.alloc (.cells #[.bool nx, .string sx, .string tx] 26)).setCell ⟨w.heap.size, 0, none⟩ (.bool nx)).setCell ⟨w.heap.size, 1, none⟩ (.string sx)).setCell ⟨w.heap.size, 2, none⟩ (.string tx)) = wz at oz HT ⊢
        have z0 : wz.cell? ⟨w.heap.size, 0, none⟩ = some (.bool nx) := oz.cell 0
        have z1 : wz.cell? ⟨w.heap.size, 1, none⟩ = some (.string sx) := oz.cell 1
        have z2 : wz.cell? ⟨w.heap.size, 2, none⟩ = some (.string tx) := oz.cell 2
        exact bodyPost_ret (v := .agg #[.bool nx, .string sx, .string tx]) (by simp [results, Try.results12, go_sem, z0, z1, z2]) rfl ⟨⟨x, by rw [HX.out], HF.out, by first | exact HP0.out | exact fun _ => HP0.out⟩, ⟨_, HT.out.1⟩, HT.out.2⟩
      · have b6 : ((S n).toList == [48]) = false := str_ne (by rw [← okS_0]; exact S_ne_0 hn0)
        have HN2 : Hid (0 < n ∧ (dec n).length ≤ 6) := ⟨hn0, hn⟩
        clear hn0
        obtain ⟨w4, a4, hT4, hw4⟩ : ∃ (w4 : World) (a4 : Nat), Tape w4 p A l c a4 ∧ w4 = w3 := ⟨w3, a3, hT3, rfl⟩
        subst hw4
        clear hT3
        have HOF : Hid (∃ x : Rat, Few 6 x ∧ 0 < x ∧ RetV 38 #[.bool false, .string ⟨#[49]⟩, .string (S n)] (.tuple #[RV x, .int .i64 0])) := some_ofp 1 n ⟨#[49]⟩ (S n) ⟨by decide, okS_1⟩ ⟨HN2.out.1, HN2.out.2, rfl⟩ (by decide)
        obtain ⟨x, hf, hp0, HC⟩ := HOF.out
        have HF := Lib.hid hf
        have HP0 := Lib.hid hp0
        have HC := Lib.hid HC
        obtain ⟨nx, sx, tx, hx⟩ := rv_open' x
        rw [hx] at HC
        have HX := Lib.hid hx
        clear HOF hf hp0 hx
        go_wp2_with fail
        refine (HC.out _).mono ?_
        rintro e w5 ⟨rfl, hb5⟩
        replace o0 := o0.below hb5 o0.lt
        replace hT4 := hT4.below hb5
        replace hcg := hcg.trans (Chg.of_below hb5 fun k h1 h2 => by omega)
        clear HC hb5
        obtain ⟨o7, hb7⟩ := new1 w5 [.bool nx, .string sx, .string tx] 26
        replace o0 := o0.alloc (.cells #[.bool nx, .string sx, .string tx] 26)
        replace hT4 := hT4.below hb7
        replace hcg := hcg.trans (Chg.of_below hb7 fun k h1 h2 => by omega)
        have hg0 : (w5.alloc (.cells #[.bool nx, .string sx, .string tx] 26)).cell? ⟨w.heap.size, 0, none⟩ = some (.bool false) := o0.cell 0
        have hg1 : (w5.alloc (.cells #[.bool nx, .string sx, .string tx] 26)).cell? ⟨w.heap.size, 1, none⟩ = some (.string ⟨#[]⟩) := o0.cell 1
        have hg2 : (w5.alloc (.cells #[.bool nx, .string sx, .string tx] 26)).cell? ⟨w.heap.size, 2, none⟩ = some (.string ⟨#[]⟩) := o0.cell 2
        have hf0 := o0.frozen 0
        have hf1 := o0.frozen 1
        have hf2 := o0.frozen 2
        have k0 := o7.cell 0
        have k1 := o7.cell 1
        have k2 := o7.cell 2
        simp only [List.getElem?_cons_zero, List.getElem?_cons_succ] at k0 k1 k2
        have oz := o0.set3 (.bool nx) (.string sx) (.string tx)
        have HT := Lib.hid (tape_fin HT0.out hT4 hcg (Nat.le_refl _) HNE.out (.bool nx) (.string sx) (.string tx))
        clear hT4 hcg
        go_wp2_with fail
        generalize ((((w5.alloc (.cells #[.bool nx, .string sx, .string tx] 26)).setCell ⟨w.heap.size, 0, none⟩ (.bool nx)).setCell ⟨w.heap.size, 1, none⟩ (.string sx)).setCell ⟨w.heap.size, 2, none⟩ (.string tx)) = wz at oz HT ⊢
        have z0 : wz.cell? ⟨w.heap.size, 0, none⟩ = some (.bool nx) := oz.cell 0
        have z1 : wz.cell? ⟨w.heap.size, 1, none⟩ = some (.string sx) := oz.cell 1
        have z2 : wz.cell? ⟨w.heap.size, 2, none⟩ = some (.string tx) := oz.cell 2
        exact bodyPost_ret (v := .agg #[.bool nx, .string sx, .string tx]) (by simp [results, Try.results12, go_sem, z0, z1, z2]) rfl ⟨⟨x, by rw [HX.out], HF.out, by first | exact HP0.out | exact fun _ => HP0.out⟩, ⟨_, HT.out.1⟩, HT.out.2⟩
    · have b5 : ((S m).toList == [48]) = false := str_ne (by rw [← okS_0]; exact S_ne_0 hm0)
      have HM0 := Lib.hid hm0
      have HM2 : Hid ((dec m).length ≤ 6) := hm
      clear hm0
      rcases Nat.eq_zero_or_pos n with rfl | hn0
      · rw [okS_0]
        obtain ⟨w4, a4, hT4, hw4⟩ : ∃ (w4 : World) (a4 : Nat), Tape w4 p A l c a4 ∧ w4 = w3 := ⟨w3, a3, hT3, rfl⟩
        subst hw4
        clear hT3
        have HOF : Hid (∃ x : Rat, Few 6 x ∧ 0 < x ∧ RetV 38 #[.bool false, .string (S m), .string ⟨#[49]⟩] (.tuple #[RV x, .int .i64 0])) := some_ofp m 1 (S m) ⟨#[49]⟩ ⟨HM2.out, rfl⟩ ⟨by decide, by decide, okS_1⟩ HM0.out
        obtain ⟨x, hf, hp0, HC⟩ := HOF.out
        have HF := Lib.hid hf
        have HP0 := Lib.hid hp0
        have HC := Lib.hid HC
        obtain ⟨nx, sx, tx, hx⟩ := rv_open' x
        rw [hx] at HC
        have HX := Lib.hid hx
        clear HOF hf hp0 hx
        go_wp2_with fail
        refine (HC.out _).mono ?_
        rintro e w5 ⟨rfl, hb5⟩
        replace o0 := o0.below hb5 o0.lt
        replace hT4 := hT4.below hb5
        replace hcg := hcg.trans (Chg.of_below hb5 fun k h1 h2 => by omega)
        clear HC hb5
        obtain ⟨o7, hb7⟩ := new1 w5 [.bool nx, .string sx, .string tx] 26
        replace o0 := o0.alloc (.cells #[.bool nx, .string sx, .string tx] 26)
        replace hT4 := hT4.below hb7
        replace hcg := hcg.trans (Chg.of_below hb7 fun k h1 h2 => by omega)
        have hg0 : (w5.alloc (.cells #[.bool nx, .string sx, .string tx] 26)).cell? ⟨w.heap.size, 0, none⟩ = some (.bool false) := o0.cell 0
        have hg1 : (w5.alloc (.cells #[.bool nx, .string sx, .string tx] 26)).cell? ⟨w.heap.size, 1, none⟩ = some (.string ⟨#[]⟩) := o0.cell 1
        have hg2 : (w5.alloc (.cells #[.bool nx, .string sx, .string tx] 26)).cell? ⟨w.heap.size, 2, none⟩ = some (.string ⟨#[]⟩) := o0.cell 2
        have hf0 := o0.frozen 0
        have hf1 := o0.frozen 1
        have hf2 := o0.frozen 2
        have k0 := o7.cell 0
        have k1 := o7.cell 1
        have k2 := o7.cell 2
        simp only [List.getElem?_cons_zero, List.getElem?_cons_succ] at k0 k1 k2
        have oz := o0.set3 (.bool nx) (.string sx) (.string tx)
        have HT := Lib.hid (tape_fin HT0.out hT4 hcg (Nat.le_refl _) HNE.out (.bool nx) (.string sx) (.string tx))
        clear hT4 hcg
        go_wp2_with fail
        generalize ((((w5.alloc (.cells #[.bool nx, .string sx, .string tx] 26)).setCell ⟨w.heap.size, 0, none⟩ (.bool nx)).setCell ⟨w.heap.size, 1, none⟩ (.string sx)).setCell ⟨w.heap.size, 2, none⟩ (.string tx)) = wz at oz HT ⊢
        have z0 : wz.cell? ⟨w.heap.size, 0, none⟩ = some (.bool nx) := oz.cell 0
        have z1 : wz.cell? ⟨w.heap.size, 1, none⟩ = some (.string sx) := oz.cell 1
        have z2 : wz.cell? ⟨w.heap.size, 2, none⟩ = some (.string tx) := oz.cell 2
        exact bodyPost_ret (v := .agg #[.bool nx, .string sx, .string tx]) (by simp [results, Try.results12, go_sem, z0, z1, z2]) rfl ⟨⟨x, by rw [HX.out], HF.out, by first | exact HP0.out | exact fun _ => HP0.out⟩, ⟨_, HT.out.1⟩, HT.out.2⟩
      · have b6 : ((S n).toList == [48]) = false := str_ne (by rw [← okS_0]; exact S_ne_0 hn0)
        have HN2 : Hid (0 < n ∧ (dec n).length ≤ 6) := ⟨hn0, hn⟩
        clear hn0
        obtain ⟨w4, a4, hT4, hw4⟩ : ∃ (w4 : World) (a4 : Nat), Tape w4 p A l c a4 ∧ w4 = w3 := ⟨w3, a3, hT3, rfl⟩
        subst hw4
        clear hT3
        have HOF : Hid (∃ x : Rat, Few 6 x ∧ 0 < x ∧ RetV 38 #[.bool false, .string (S m), .string (S n)] (.tuple #[RV x, .int .i64 0])) := some_ofp m n (S m) (S n) ⟨HM2.out, rfl⟩ ⟨HN2.out.1, HN2.out.2, rfl⟩ HM0.out
        obtain ⟨x, hf, hp0, HC⟩ := HOF.out
        have HF := Lib.hid hf
        have HP0 := Lib.hid hp0
        have HC := Lib.hid HC
        obtain ⟨nx, sx, tx, hx⟩ := rv_open' x
        rw [hx] at HC
        have HX := Lib.hid hx
        clear HOF hf hp0 hx
        go_wp2_with fail
        refine (HC.out _).mono ?_
        rintro e w5 ⟨rfl, hb5⟩
        replace o0 := o0.below hb5 o0.lt
        replace hT4 := hT4.below hb5
        replace hcg := hcg.trans (Chg.of_below hb5 fun k h1 h2 => by omega)
        clear HC hb5
        obtain ⟨o7, hb7⟩ := new1 w5 [.bool nx, .string sx, .string tx] 26
        replace o0 := o0.alloc (.cells #[.bool nx, .string sx, .string tx] 26)
        replace hT4 := hT4.below hb7
        replace hcg := hcg.trans (Chg.of_below hb7 fun k h1 h2 => by omega)
        have hg0 : (w5.alloc (.cells #[.bool nx, .string sx, .string tx] 26)).cell? ⟨w.heap.size, 0, none⟩ = some (.bool false) := o0.cell 0
        have hg1 : (w5.alloc (.cells #[.bool nx, .string sx, .string tx] 26)).cell? ⟨w.heap.size, 1, none⟩ = some (.string ⟨#[]⟩) := o0.cell 1
        have hg2 : (w5.alloc (.cells #[.bool nx, .string sx, .string tx] 26)).cell? ⟨w.heap.size, 2, none⟩ = some (.string ⟨#[]⟩) := o0.cell 2
        have hf0 := o0.frozen 0
        have hf1 := o0.frozen 1
        have hf2 := o0.frozen 2
        have k0 := o7.cell 0
        have k1 := o7.cell 1
        have k2 := o7.cell 2
        simp only [List.getElem?_cons_zero, List.getElem?_cons_succ] at k0 k1 k2
        have oz := o0.set3 (.bool nx) (.string sx) (.string tx)
        have HT := Lib.hid (tape_fin HT0.out hT4 hcg (Nat.le_refl _) HNE.out (.bool nx) (.string sx) (.string tx))
        clear hT4 hcg
        go_wp2_with fail
        generalize ((((w5.alloc (.cells #[.bool nx, .string sx, .string tx] 26)).setCell ⟨w.heap.size, 0, none⟩ (.bool nx)).setCell ⟨w.heap.size, 1, none⟩ (.string sx)).setCell ⟨w.heap.size, 2, none⟩ (.string tx)) = wz at oz HT ⊢
        have z0 : wz.cell? ⟨w.heap.size, 0, none⟩ = some (.bool nx) := oz.cell 0
        have z1 : wz.cell? ⟨w.heap.size, 1, none⟩ = some (.string sx) := oz.cell 1
        have z2 : wz.cell? ⟨w.heap.size, 2, none⟩ = some (.string tx) := oz.cell 2
        exact bodyPost_ret (v := .agg #[.bool nx, .string sx, .string tx]) (by simp [results, Try.results12, go_sem, z0, z1, z2]) rfl ⟨⟨x, by rw [HX.out], HF.out, by first | exact HP0.out | exact fun _ => HP0.out⟩, ⟨_, HT.out.1⟩, HT.out.2⟩
  | false =>
    have HM2 : Hid ((dec m).length ≤ 6) := hm
    rcases Nat.eq_zero_or_pos n with rfl | hn0
    · rw [okS_0]
      go_wp2_with fail
      refine (next_any p A l c a3 2 w3 hT3 (by omega) (by omega)).mono ?_
      rintro e w4 ⟨r, a4, rfl, hr, hT4, hc4⟩
      replace o0 := hc4.own o0 HNE.out
      replace hcg := hcg.trans hc4
      clear hc4 hT3
      have HOF : Hid (∃ x : Rat, Few 6 x ∧ True ∧ RetV 38 #[.bool ((r : Int) == 1), .string (S m), .string ⟨#[49]⟩] (.tuple #[RV x, .int .i64 0])) := some_of ((r : Int) == 1) m 1 (S m) ⟨#[49]⟩ ⟨HM2.out, rfl⟩ ⟨by decide, by decide, okS_1⟩ 
      obtain ⟨x, hf, hp0, HC⟩ := HOF.out
      have HF := Lib.hid hf
      have HP0 := Lib.hid hp0
      have HC := Lib.hid HC
      obtain ⟨nx, sx, tx, hx⟩ := rv_open' x
      rw [hx] at HC
      have HX := Lib.hid hx
      clear HOF hf hp0 hx
      go_wp2_with fail
      refine (HC.out _).mono ?_
      rintro e w5 ⟨rfl, hb5⟩
      replace o0 := o0.below hb5 o0.lt
      replace hT4 := hT4.below hb5
      replace hcg := hcg.trans (Chg.of_below hb5 fun k h1 h2 => by omega)
      clear HC hb5
      obtain ⟨o7, hb7⟩ := new1 w5 [.bool nx, .string sx, .string tx] 26
      replace o0 := o0.alloc (.cells #[.bool nx, .string sx, .string tx] 26)
      replace hT4 := hT4.below hb7
      replace hcg := hcg.trans (Chg.of_below hb7 fun k h1 h2 => by omega)
      have hg0 : (w5.alloc (.cells #[.bool nx, .string sx, .string tx] 26)).cell? ⟨w.heap.size, 0, none⟩ = some (.bool false) := o0.cell 0
      have hg1 : (w5.alloc (.cells #[.bool nx, .string sx, .string tx] 26)).cell? ⟨w.heap.size, 1, none⟩ = some (.string ⟨#[]⟩) := o0.cell 1
      have hg2 : (w5.alloc (.cells #[.bool nx, .string sx, .string tx] 26)).cell? ⟨w.heap.size, 2, none⟩ = some (.string ⟨#[]⟩) := o0.cell 2
      have hf0 := o0.frozen 0
      have hf1 := o0.frozen 1
      have hf2 := o0.frozen 2
      have k0 := o7.cell 0
      have k1 := o7.cell 1
      have k2 := o7.cell 2
      simp only [List.getElem?_cons_zero, List.getElem?_cons_succ] at k0 k1 k2
      have oz := o0.set3 (.bool nx) (.string sx) (.string tx)
      have HT := Lib.hid (tape_fin HT0.out hT4 hcg (Nat.le_refl _) HNE.out (.bool nx) (.string sx) (.string tx))
      clear hT4 hcg
      go_wp2_with fail
      generalize ((((w5.alloc (.cells #[.bool nx, .string sx, .string tx] 26)).setCell ⟨w.heap.size, 0, none⟩ (.bool nx)).setCell ⟨w.heap.size, 1, none⟩ (.string sx)).setCell ⟨w.heap.size, 2, none⟩ (.string tx)) = wz at oz HT ⊢
      have z0 : wz.cell? ⟨w.heap.size, 0, none⟩ = some (.bool nx) := oz.cell 0
      have z1 : wz.cell? ⟨w.heap.size, 1, none⟩ = some (.string sx) := oz.cell 1
      have z2 : wz.cell? ⟨w.heap.size, 2, none⟩ = some (.string tx) := oz.cell 2
      exact bodyPost_ret (v := .agg #[.bool nx, .string sx, .string tx]) (by simp [results, Try.results12, go_sem, z0, z1, z2]) rfl ⟨⟨x, by rw [HX.out], HF.out, by simp⟩, ⟨_, HT.out.1⟩, HT.out.2⟩
    · have b6 : ((S n).toList == [48]) = false := str_ne (by rw [← okS_0]; exact S_ne_0 hn0)
      have HN2 : Hid (0 < n ∧ (dec n).length ≤ 6) := ⟨hn0, hn⟩
      clear hn0
      go_wp2_with fail
      refine (next_any p A l c a3 2 w3 hT3 (by omega) (by omega)).mono ?_
      rintro e w4 ⟨r, a4, rfl, hr, hT4, hc4⟩
      replace o0 := hc4.own o0 HNE.out
      replace hcg := hcg.trans hc4
      clear hc4 hT3
      have HOF : Hid (∃ x : Rat, Few 6 x ∧ True ∧ RetV 38 #[.bool ((r : Int) == 1), .string (S m), .string (S n)] (.tuple #[RV x, .int .i64 0])) := some_of ((r : Int) == 1) m n (S m) (S n) ⟨HM2.out, rfl⟩ ⟨HN2.out.1, HN2.out.2, rfl⟩ 
      obtain ⟨x, hf, hp0, HC⟩ := HOF.out
      have HF := Lib.hid hf
      have HP0 := Lib.hid hp0
      have HC := Lib.hid HC
      obtain ⟨nx, sx, tx, hx⟩ := rv_open' x
      rw [hx] at HC
      have HX := Lib.hid hx
      clear HOF hf hp0 hx
      go_wp2_with fail
      refine (HC.out _).mono ?_
      rintro e w5 ⟨rfl, hb5⟩
      replace o0 := o0.below hb5 o0.lt
      replace hT4 := hT4.below hb5
      replace hcg := hcg.trans (Chg.of_below hb5 fun k h1 h2 => by omega)
      clear HC hb5
      obtain ⟨o7, hb7⟩ := new1 w5 [.bool nx, .string sx, .string tx] 26
      replace o0 := o0.alloc (.cells #[.bool nx, .string sx, .string tx] 26)
      replace hT4 := hT4.below hb7
      replace hcg := hcg.trans (Chg.of_below hb7 fun k h1 h2 => by omega)
      have hg0 : (w5.alloc (.cells #[.bool nx, .string sx, .string tx] 26)).cell? ⟨w.heap.size, 0, none⟩ = some (.bool false) := o0.cell 0
      have hg1 : (w5.alloc (.cells #[.bool nx, .string sx, .string tx] 26)).cell? ⟨w.heap.size, 1, none⟩ = some (.string ⟨#[]⟩) := o0.cell 1
      have hg2 : (w5.alloc (.cells #[.bool nx, .string sx, .string tx] 26)).cell? ⟨w.heap.size, 2, none⟩ = some (.string ⟨#[]⟩) := o0.cell 2
      have hf0 := o0.frozen 0
      have hf1 := o0.frozen 1
      have hf2 := o0.frozen 2
      have k0 := o7.cell 0
      have k1 := o7.cell 1
      have k2 := o7.cell 2
      simp only [List.getElem?_cons_zero, List.getElem?_cons_succ] at k0 k1 k2
      have oz := o0.set3 (.bool nx) (.string sx) (.string tx)
      have HT := Lib.hid (tape_fin HT0.out hT4 hcg (Nat.le_refl _) HNE.out (.bool nx) (.string sx) (.string tx))
      clear hT4 hcg
      go_wp2_with fail
      generalize ((((w5.alloc (.cells #[.bool nx, .string sx, .string tx] 26)).setCell ⟨w.heap.size, 0, none⟩ (.bool nx)).setCell ⟨w.heap.size, 1, none⟩ (.string sx)).setCell ⟨w.heap.size, 2, none⟩ (.string tx)) = wz at oz HT ⊢
      have z0 : wz.cell? ⟨w.heap.size, 0, none⟩ = some (.bool nx) := oz.cell 0
      have z1 : wz.cell? ⟨w.heap.size, 1, none⟩ = some (.string sx) := oz.cell 1
      have z2 : wz.cell? ⟨w.heap.size, 2, none⟩ = some (.string tx) := oz.cell 2
      exact bodyPost_ret (v := .agg #[.bool nx, .string sx, .string tx]) (by simp [results, Try.results12, go_sem, z0, z1, z2]) rfl ⟨⟨x, by rw [HX.out], HF.out, by simp⟩, ⟨_, HT.out.1⟩, HT.out.2⟩

theorem known_log {x : Rat} {k : Nat} {n : Int} (hx : Few 70 x) (h0 : 0 < x) (hk : k ≤ 8) (hn : IsLog (x ^ (2 ^ k)) n) (b : Bool) (hb : b = decide (p2 n = x ^ (2 ^ k))) :
    RetV 15 #[RV x, .int .i64 (k : Int)] (.tuple #[.int .i64 n, .bool b, .int .i64 0]) := by
  obtain ⟨m, hm, -, -, hl, -⟩ := ebits_yes hx h0 hk (default : World)
  rw [hm.eq hn] at hl
  rw [hb]
  exact hl
theorem known37 : RetV 16 #[] (.bool true) := by
  have e3 : ((3 : Rat)) ^ (2 ^ 4) = ((43046721 : Nat) : Rat) := by
    have : (3 : Rat) = ((3 : Nat) : Rat) := rfl
    rw [this, ← Rat.natCast_pow]
  have e8 : ((8 : Rat)) ^ (2 ^ 2) = ((4096 : Nat) : Rat) := by
    have : (8 : Rat) = ((8 : Nat) : Rat) := rfl
    rw [this, ← Rat.natCast_pow]
  have p25 : p2 25 = ((33554432 : Nat) : Rat) := p2_nat 25
  have p26 : p2 26 = ((67108864 : Nat) : Rat) := p2_nat 26
  have p12 : p2 12 = ((4096 : Nat) : Rat) := p2_nat 12
  have p13 : p2 13 = ((8192 : Nat) : Rat) := p2_nat 13
  have H1 : Hid (RetV 15 #[.agg #[.bool false, .string ⟨#[51]⟩, .string ⟨#[49]⟩], .int .i64 4] (.tuple #[.int .i64 25, .bool false, .int .i64 0])) := by
    refine known_log (x := 3) (k := 4) (by unfold Few; decide) (by decide) (by omega) ⟨?_, ?_⟩ false ?_
    · rw [e3, p25, Rat.natCast_le_natCast]; decide
    · show _ < p2 26
      rw [e3, p26, Rat.natCast_lt_natCast]; decide
    · symm
      apply decide_eq_false
      rw [e3, p25, Rat.natCast_inj]; decide
  have H2 : Hid (RetV 15 #[.agg #[.bool false, .string ⟨#[56]⟩, .string ⟨#[49]⟩], .int .i64 2] (.tuple #[.int .i64 12, .bool true, .int .i64 0])) := by
    refine known_log (x := 8) (k := 2) (by unfold Few; decide) (by decide) (by omega) ⟨?_, ?_⟩ true ?_
    · rw [e8, p12]; exact Rat.le_refl
    · show _ < p2 13
      rw [e8, p13, Rat.natCast_lt_natCast]; decide
    · symm
      apply decide_eq_true
      rw [e8, p12]
  intro w
  clear e3 e8 p25 p26 p12 p13
  go_enter Try.func16, Try.ntmps16
  go_wp2_with fail
  refine (H1.out _).mono ?_
  rintro e w1 ⟨rfl, hb1⟩
  go_wp2_with fail
  refine (H2.out _).mono ?_
  rintro e w2 ⟨rfl, hb2⟩
  go_wp2
  go_ret
  exact ⟨rfl, below6 hb1 hb2⟩
end Go.Proofs.Ytdjkgjpehneejaa
