/- The reference's Of. -/
import Derived.Test.YtofijnhkoadfjaaRk
namespace Go.Proofs.Ytofijnhkoadfjaa
set_option linter.unusedSimpArgs false
set_option linter.unusedVariables false
set_option linter.unusedSectionVars false
open Go.RowKit Dg

set_option maxRecDepth 100000 in
set_option maxHeartbeats 2000000 in
theorem ofr_low (neg : Bool) (m n : Nat) (w : World) (hm : OkN m) (hn : OkN n) (hn0 : 0 < n) :
    Calls Try.prog 36 #[.bool neg, .string (S m), .string (S n)] w fun e w' => LowRes neg m n e ∧ Below w.heap.size w w' := by
  have hbb : Below w.heap.size w (w.alloc (.cells #[.bool false, .string ⟨#[]⟩, .string ⟨#[]⟩] 33)) := (Below.refl _ _).alloc (Nat.le_refl _) _
  have hor : Own (w.alloc (.cells #[.bool false, .string ⟨#[]⟩, .string ⟨#[]⟩] 33)) w.heap.size 33 [.bool false, .string ⟨#[]⟩, .string ⟨#[]⟩] := Own.new w _ _
  have hne : S n ≠ ⟨#[48]⟩ := by rw [← okS_0]; exact S_ne_0 hn0
  have hb0 : ((S n).toList == [48]) = false := str_ne hne
  have H1 := Lib.hid hm
  have H2 := Lib.hid hn
  have HV1 := Lib.hid hm.vld
  have HV2 := Lib.hid hn.vld
  have HG1 := fun W => Lib.hid (big_S m W hm)
  have HG2 := fun W => Lib.hid (big_S n W hn)
  have HN0 := Lib.hid hn0
  clear hm hn hn0 hne
  generalize S m = s1 at HV1 HG1 ⊢
  generalize S n = s2 at HV2 HG2 hb0 ⊢
  go_enter Try.func36, Try.ntmps36
  go_wp2_with fail
  generalize (w.alloc (.cells #[.bool false, .string ⟨#[]⟩, .string ⟨#[]⟩] 33)) = wb at hbb hor ⊢
  refine (validr_yes _ HV1.out).mono ?_
  rintro e w1 ⟨rfl, rfl⟩
  go_wp2_with fail
  refine (validr_yes _ HV2.out).mono ?_
  rintro e w1 ⟨rfl, rfl⟩
  go_wp2_with fail
  refine (HG1 _).out.mono ?_
  rintro e w1 ⟨v1, rfl, hv1, hb1⟩
  have or1 := hor.below hb1 hor.lt
  have s1' := hbb.trans (hb1.mono hbb.size)
  go_wp2_with fail
  refine (HG2 _).out.mono ?_
  rintro e w2 ⟨v2, rfl, hv2, hb2⟩
  have or2 := or1.below hb2 or1.lt
  have s2' := s1'.trans (hb2.mono s1'.size)
  have hv1' := hv1.below hb2
  clear hor or1 hbb s1' hv1 hb1 hb2
  go_wp2_with fail
  refine (lowest_ref neg v1 v2 m n _ hv1' hv2 (by have := H1.out.dk; omega) (by have := H2.out.dk; omega) HN0.out).mono ?_
  rintro e w3 ⟨hlow, hb3⟩
  have or3 := or2.below hb3 or2.lt
  have s3' := s2'.trans (hb3.mono s2'.size)
  clear or2 s2' hb3 hv1' hv2
  have hr0 : w3.cell? ⟨w.heap.size, 0, none⟩ = some (.bool false) := or3.cell 0
  have hr1 : w3.cell? ⟨w.heap.size, 1, none⟩ = some (.string ⟨#[]⟩) := or3.cell 1
  have hr2 : w3.cell? ⟨w.heap.size, 2, none⟩ = some (.string ⟨#[]⟩) := or3.cell 2
  have hf0 := or3.frozen 0
  have hf1 := or3.frozen 1
  have hf2 := or3.frozen 2
  rcases hlow with ⟨o1, o2, rfl⟩ | ⟨o1, rfl⟩
  · have HL := Lib.hid (show LowRes neg m n _ from .inl ⟨o1, o2, rfl⟩)
    clear o1 o2
    generalize (neg && decide (0 < m)) = bb at HL ⊢
    have oz : Own (((w3.setCell ⟨w.heap.size, 0, none⟩ (Value.bool bb)).setCell ⟨w.heap.size, 1, none⟩ (Value.string (S (m / Nat.gcd m n)))).setCell ⟨w.heap.size, 2, none⟩ (Value.string (S (n / Nat.gcd m n)))) (w.heap.size) 33 [Value.bool bb, Value.string (S (m / Nat.gcd m n)), Value.string (S (n / Nat.gcd m n))] := ((or3.set_ 0 (Value.bool bb)).set_ 1 (Value.string (S (m / Nat.gcd m n)))).set_ 2 (Value.string (S (n / Nat.gcd m n)))
    have sz : Below w.heap.size w (((w3.setCell ⟨w.heap.size, 0, none⟩ (Value.bool bb)).setCell ⟨w.heap.size, 1, none⟩ (Value.string (S (m / Nat.gcd m n)))).setCell ⟨w.heap.size, 2, none⟩ (Value.string (S (n / Nat.gcd m n)))) := ((s3'.setCell (Nat.le_refl _) _).setCell (Nat.le_refl _) _).setCell (Nat.le_refl _) _
    go_wp2_with fail
    generalize (((w3.setCell ⟨w.heap.size, 0, none⟩ (Value.bool bb)).setCell ⟨w.heap.size, 1, none⟩ (Value.string (S (m / Nat.gcd m n)))).setCell ⟨w.heap.size, 2, none⟩ (Value.string (S (n / Nat.gcd m n)))) = wz at oz sz ⊢
    have z0 : wz.cell? ⟨w.heap.size, 0, none⟩ = some (Value.bool bb) := oz.cell 0
    have z1 : wz.cell? ⟨w.heap.size, 1, none⟩ = some (Value.string (S (m / Nat.gcd m n))) := oz.cell 1
    have z2 : wz.cell? ⟨w.heap.size, 2, none⟩ = some (Value.string (S (n / Nat.gcd m n))) := oz.cell 2
    exact bodyPost_ret (v := .tuple #[.agg #[Value.bool bb, Value.string (S (m / Nat.gcd m n)), Value.string (S (n / Nat.gcd m n))], .int .i64 0]) (by simp [results, Try.results36, go_sem, z0, z1, z2]) rfl ⟨HL.out, sz⟩
  · have HL := Lib.hid (show LowRes neg m n _ from .inr ⟨o1, rfl⟩)
    clear o1
    have oz : Own (((w3.setCell ⟨w.heap.size, 0, none⟩ (Value.bool false)).setCell ⟨w.heap.size, 1, none⟩ (Value.string ⟨#[]⟩)).setCell ⟨w.heap.size, 2, none⟩ (Value.string ⟨#[]⟩)) (w.heap.size) 33 [Value.bool false, Value.string ⟨#[]⟩, Value.string ⟨#[]⟩] := ((or3.set_ 0 (Value.bool false)).set_ 1 (Value.string ⟨#[]⟩)).set_ 2 (Value.string ⟨#[]⟩)
    have sz : Below w.heap.size w (((w3.setCell ⟨w.heap.size, 0, none⟩ (Value.bool false)).setCell ⟨w.heap.size, 1, none⟩ (Value.string ⟨#[]⟩)).setCell ⟨w.heap.size, 2, none⟩ (Value.string ⟨#[]⟩)) := ((s3'.setCell (Nat.le_refl _) _).setCell (Nat.le_refl _) _).setCell (Nat.le_refl _) _
    go_wp2_with fail
    generalize (((w3.setCell ⟨w.heap.size, 0, none⟩ (Value.bool false)).setCell ⟨w.heap.size, 1, none⟩ (Value.string ⟨#[]⟩)).setCell ⟨w.heap.size, 2, none⟩ (Value.string ⟨#[]⟩)) = wz at oz sz ⊢
    have z0 : wz.cell? ⟨w.heap.size, 0, none⟩ = some (Value.bool false) := oz.cell 0
    have z1 : wz.cell? ⟨w.heap.size, 1, none⟩ = some (Value.string ⟨#[]⟩) := oz.cell 1
    have z2 : wz.cell? ⟨w.heap.size, 2, none⟩ = some (Value.string ⟨#[]⟩) := oz.cell 2
    exact bodyPost_ret (v := .tuple #[.agg #[Value.bool false, Value.string ⟨#[]⟩, Value.string ⟨#[]⟩], .int .i64 2]) (by simp [results, Try.results36, go_sem, z0, z1, z2]) rfl ⟨HL.out, sz⟩

set_option maxRecDepth 100000 in
set_option maxHeartbeats 2000000 in
theorem ofr_zero (neg : Bool) (m : Nat) (w : World) (hm : OkN m) :
    Calls Try.prog 36 #[.bool neg, .string (S m), .string (S 0)] w fun e w' => e = .returned (.tuple #[Rat0, .int .i64 25]) ∧ Below w.heap.size w w' := by
  have hbb : Below w.heap.size w (w.alloc (.cells #[.bool false, .string ⟨#[]⟩, .string ⟨#[]⟩] 33)) := (Below.refl _ _).alloc (Nat.le_refl _) _
  have hor : Own (w.alloc (.cells #[.bool false, .string ⟨#[]⟩, .string ⟨#[]⟩] 33)) w.heap.size 33 [.bool false, .string ⟨#[]⟩, .string ⟨#[]⟩] := Own.new w _ _
  have HV1 := Lib.hid hm.vld
  have HV2 : Hid (VLD ⟨#[48]⟩) := by rw [← okS_0]; exact okn0.vld
  rw [okS_0]
  clear hm
  generalize S m = s1 at HV1 ⊢
  go_enter Try.func36, Try.ntmps36
  go_wp2_with fail
  generalize (w.alloc (.cells #[.bool false, .string ⟨#[]⟩, .string ⟨#[]⟩] 33)) = wb at hbb hor ⊢
  refine (validr_yes _ HV1.out).mono ?_
  rintro e w1 ⟨rfl, rfl⟩
  go_wp2_with fail
  refine (validr_yes _ HV2.out).mono ?_
  rintro e w1 ⟨rfl, rfl⟩
  have hr0 : wb.cell? ⟨w.heap.size, 0, none⟩ = some (.bool false) := hor.cell 0
  have hr1 : wb.cell? ⟨w.heap.size, 1, none⟩ = some (.string ⟨#[]⟩) := hor.cell 1
  have hr2 : wb.cell? ⟨w.heap.size, 2, none⟩ = some (.string ⟨#[]⟩) := hor.cell 2
  have hf0 := hor.frozen 0
  have hf1 := hor.frozen 1
  have hf2 := hor.frozen 2
  have oz : Own (((wb.setCell ⟨w.heap.size, 0, none⟩ (Value.bool false)).setCell ⟨w.heap.size, 1, none⟩ (Value.string ⟨#[]⟩)).setCell ⟨w.heap.size, 2, none⟩ (Value.string ⟨#[]⟩)) (w.heap.size) 33 [Value.bool false, Value.string ⟨#[]⟩, Value.string ⟨#[]⟩] := ((hor.set_ 0 (Value.bool false)).set_ 1 (Value.string ⟨#[]⟩)).set_ 2 (Value.string ⟨#[]⟩)
  have sz : Below w.heap.size w (((wb.setCell ⟨w.heap.size, 0, none⟩ (Value.bool false)).setCell ⟨w.heap.size, 1, none⟩ (Value.string ⟨#[]⟩)).setCell ⟨w.heap.size, 2, none⟩ (Value.string ⟨#[]⟩)) := ((hbb.setCell (Nat.le_refl _) _).setCell (Nat.le_refl _) _).setCell (Nat.le_refl _) _
  go_wp2_with fail
  generalize (((wb.setCell ⟨w.heap.size, 0, none⟩ (Value.bool false)).setCell ⟨w.heap.size, 1, none⟩ (Value.string ⟨#[]⟩)).setCell ⟨w.heap.size, 2, none⟩ (Value.string ⟨#[]⟩)) = wz at oz sz ⊢
  have z0 : wz.cell? ⟨w.heap.size, 0, none⟩ = some (Value.bool false) := oz.cell 0
  have z1 : wz.cell? ⟨w.heap.size, 1, none⟩ = some (Value.string ⟨#[]⟩) := oz.cell 1
  have z2 : wz.cell? ⟨w.heap.size, 2, none⟩ = some (Value.string ⟨#[]⟩) := oz.cell 2
  exact bodyPost_ret (v := .tuple #[.agg #[Value.bool false, Value.string ⟨#[]⟩, Value.string ⟨#[]⟩], .int .i64 25]) (by simp [results, Try.results36, go_sem, z0, z1, z2]) rfl ⟨rfl, sz⟩
end Go.Proofs.Ytofijnhkoadfjaa
