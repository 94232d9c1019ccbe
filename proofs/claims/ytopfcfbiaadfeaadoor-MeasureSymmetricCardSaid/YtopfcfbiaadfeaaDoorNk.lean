/- Ratios: size, Make; the sanity check of the statements. -/
import Derived.Test.YtopfcfbiaadfeaaDoorNv
namespace Go.Proofs.YtopfcfbiaadfeaaDoor
set_option linter.unusedSimpArgs false
set_option linter.unusedVariables false
set_option linter.unusedSectionVars false
open Go.RowKit Dg

theorem size_nat (k : Nat) (w : World) (hk : k < 9223372036854775808) : Calls Tryd.prog 83 #[.int .i64 (k : Int)] w fun e w' => ∃ v, e = .returned v ∧ NatV w' v k ∧ Below w.heap.size w w' := by
  have HO := Lib.hid (of_any k w (by omega))
  have d1 : decide ((k : Int) < 0) = false := decide_eq_false (by omega)
  have g1 : IntKind.u64.wrap (k : Int) = (k : Int) := IntWalk.u64_in _ (by omega)
  clear hk
  go_enter Tryd.func83, Tryd.ntmps83
  go_wp2_with fail
  refine HO.out.mono ?_
  rintro e w1 ⟨v, rfl, hv, hb⟩
  go_wp2
  go_ret
  exact ⟨v, rfl, hv, hb⟩
theorem size_neg (k : Nat) (z : Int) (w : World) (hz : z = -(k : Int)) (hk0 : 0 < k) (hk : k ≤ 9223372036854775808) : Calls Tryd.prog 83 #[.int .i64 z] w fun e w' => ∃ v, e = .returned v ∧ NatV w' v k ∧ Below w.heap.size w w' := by
  have HO := Lib.hid (of_any k w (by omega))
  have d1 : decide (z < 0) = true := decide_eq_true (by omega)
  have hz0 : z < 0 := by omega
  have g1 : IntKind.u64.wrap z = z + 18446744073709551616 := by rw [IntKind.wrap_u64]; omega
  have g2 : IntKind.u64.wrap (-(z + 18446744073709551616)) = (k : Int) := by rw [IntKind.wrap_u64]; omega
  have g3 : IntKind.u64.wrap (-18446744073709551616 + -z) = (k : Int) := by rw [IntKind.wrap_u64]; omega
  clear hk hz hk0
  go_enter Tryd.func83, Tryd.ntmps83
  go_wp2_with fail
  refine HO.out.mono ?_
  rintro e w1 ⟨v, rfl, hv, hb⟩
  go_wp2
  go_ret
  exact ⟨v, rfl, hv, hb⟩
theorem size_any (z : Int) (w : World) (h1 : -9223372036854775808 ≤ z) (h2 : z ≤ 9223372036854775807) : Calls Tryd.prog 83 #[.int .i64 z] w fun e w' => ∃ v, e = .returned v ∧ NatV w' v z.natAbs ∧ Below w.heap.size w w' := by
  by_cases hz : z < 0
  · exact size_neg z.natAbs z w (by omega) (by omega) (by omega)
  · have := size_nat z.natAbs w (by omega)
    have e : ((z.natAbs : Nat) : Int) = z := by omega
    rw [e] at this
    exact this
theorem dw64 {n : Nat} (h : n < 18446744073709551616) : (dw n).length ≤ 2 := dg_le b32 (by show n < 4294967296 ^ 2; omega)

set_option maxRecDepth 100000 in
set_option maxHeartbeats 1000000 in
theorem make_any (num den : Int) (w : World) (h1 : -9223372036854775808 ≤ num) (h2 : num ≤ 9223372036854775807) (h3 : -9223372036854775808 ≤ den) (h4 : den ≤ 9223372036854775807) (hd : den ≠ 0) :
    Calls Tryd.prog 58 #[.int .i64 num, .int .i64 den] w fun e w' => LowRes (decide (num < 0) != decide (den < 0)) num.natAbs den.natAbs e ∧ Below w.heap.size w w' := by
  have S1 := Lib.hid (fun w => size_any num w h1 h2)
  have S2 := Lib.hid (fun w => size_any den w h3 h4)
  have l1 := dw64 (n := num.natAbs) (by omega)
  have l2 := dw64 (n := den.natAbs) (by omega)
  have hd0 : 0 < den.natAbs := by omega
  have b0 : (den == 0) = false := beq_eq_false_iff_ne.2 hd
  clear hd h1 h2 h3 h4
  have l1' := Lib.hid l1
  have l2' := Lib.hid l2
  clear l1 l2
  have key : ∀ x1 x2 : Bool, decide (num < 0) = x1 → decide (den < 0) = x2 → Calls Tryd.prog 58 #[.int .i64 num, .int .i64 den] w fun e w' => LowRes (x1 != x2) num.natAbs den.natAbs e ∧ Below w.heap.size w w' := by
    intro x1 x2 t1 t2
    cases x1 <;> cases x2
    all_goals
      go_enter Tryd.func58, Tryd.ntmps58
      go_wp2_with fail
      have hor : Own (w.alloc (.cells #[.bool false, .string ⟨#[]⟩, .string ⟨#[]⟩] 29)) w.heap.size 29 [.bool false, .string ⟨#[]⟩, .string ⟨#[]⟩] := Own.new w _ _
      have hbb : Below w.heap.size w (w.alloc (.cells #[.bool false, .string ⟨#[]⟩, .string ⟨#[]⟩] 29)) := (Below.refl _ _).alloc (Nat.le_refl _) _
      generalize (w.alloc (.cells #[.bool false, .string ⟨#[]⟩, .string ⟨#[]⟩] 29)) = wb at hor hbb ⊢
      refine (S1.out _).mono ?_
      rintro e w1 ⟨v1, rfl, hv1, hb1⟩
      have or1 := hor.below hb1 hor.lt
      have s1 := hbb.trans (hb1.mono hbb.size)
      clear hor hbb hb1
      go_wp2_with fail
      refine (S2.out _).mono ?_
      rintro e w2 ⟨v2, rfl, hv2, hb2⟩
      have or2 := or1.below hb2 or1.lt
      have s2 := s1.trans (hb2.mono s1.size)
      have hv1' := hv1.below hb2
      clear or1 s1 hb2 hv1
      have N1 := Lib.hid hv1'
      have N2 := Lib.hid hv2
      obtain ⟨A1, c1, rfl, -⟩ := hv1'
      obtain ⟨A2, c2, rfl, -⟩ := hv2
      go_wp2_with fail
      refine (lowest_any _ _ _ _ _ _ N1.out N2.out (by have := l1'.out; omega) (by have := l2'.out; omega) hd0).mono ?_
      rintro e w3 ⟨hlow, hb3⟩
      have or3 := or2.below hb3 or2.lt
      have s3 := s2.trans (hb3.mono s2.size)
      clear or2 s2 hb3
      have hr0 : w3.cell? ⟨w.heap.size, 0, none⟩ = some (.bool false) := or3.cell 0
      have hr1 : w3.cell? ⟨w.heap.size, 1, none⟩ = some (.string ⟨#[]⟩) := or3.cell 1
      have hr2 : w3.cell? ⟨w.heap.size, 2, none⟩ = some (.string ⟨#[]⟩) := or3.cell 2
      have hf0 := or3.frozen 0
      have hf1 := or3.frozen 1
      have hf2 := or3.frozen 2
      rcases hlow with ⟨hp, hq, rfl⟩ | ⟨hpq, rfl⟩
      · have HP := Lib.hid hp
        have HQ := Lib.hid hq
        clear hp hq
        generalize hbx : (_ && decide (0 < num.natAbs)) = bx at *
        have HBX := Lib.hid hbx
        clear hbx
        have oz : Own (((w3.setCell ⟨w.heap.size, 0, none⟩ (Value.bool bx)).setCell ⟨w.heap.size, 1, none⟩ (Value.string (S (num.natAbs / num.natAbs.gcd den.natAbs)))).setCell ⟨w.heap.size, 2, none⟩ (Value.string (S (den.natAbs / num.natAbs.gcd den.natAbs)))) (w.heap.size) 29 [Value.bool bx, Value.string (S (num.natAbs / num.natAbs.gcd den.natAbs)), Value.string (S (den.natAbs / num.natAbs.gcd den.natAbs))] := ((or3.set_ 0 (Value.bool bx)).set_ 1 (Value.string (S (num.natAbs / num.natAbs.gcd den.natAbs)))).set_ 2 (Value.string (S (den.natAbs / num.natAbs.gcd den.natAbs)))
        have sz : Below w.heap.size w (((w3.setCell ⟨w.heap.size, 0, none⟩ (Value.bool bx)).setCell ⟨w.heap.size, 1, none⟩ (Value.string (S (num.natAbs / num.natAbs.gcd den.natAbs)))).setCell ⟨w.heap.size, 2, none⟩ (Value.string (S (den.natAbs / num.natAbs.gcd den.natAbs)))) := ((s3.setCell (Nat.le_refl _) _).setCell (Nat.le_refl _) _).setCell (Nat.le_refl _) _
        go_wp2_with fail
        generalize (((w3.setCell ⟨w.heap.size, 0, none⟩ (Value.bool bx)).setCell ⟨w.heap.size, 1, none⟩ (Value.string (S (num.natAbs / num.natAbs.gcd den.natAbs)))).setCell ⟨w.heap.size, 2, none⟩ (Value.string (S (den.natAbs / num.natAbs.gcd den.natAbs)))) = wz at oz sz ⊢
        have z0 : wz.cell? ⟨w.heap.size, 0, none⟩ = some (Value.bool bx) := oz.cell 0
        have z1 : wz.cell? ⟨w.heap.size, 1, none⟩ = some (Value.string (S (num.natAbs / num.natAbs.gcd den.natAbs))) := oz.cell 1
        have z2 : wz.cell? ⟨w.heap.size, 2, none⟩ = some (Value.string (S (den.natAbs / num.natAbs.gcd den.natAbs))) := oz.cell 2
        exact bodyPost_ret (v := .tuple #[.agg #[Value.bool bx, Value.string (S (num.natAbs / num.natAbs.gcd den.natAbs)), Value.string (S (den.natAbs / num.natAbs.gcd den.natAbs))], .int .i64 0]) (by simp [results, Tryd.results58, go_sem, z0, z1, z2]) rfl ⟨.inl ⟨HP.out, HQ.out, by rw [← HBX.out]; rfl⟩, sz⟩
      · have HPQ : Hid (¬ (OkN (num.natAbs / num.natAbs.gcd den.natAbs) ∧ OkN (den.natAbs / num.natAbs.gcd den.natAbs))) := hpq
        clear hpq
        have oz : Own (((w3.setCell ⟨w.heap.size, 0, none⟩ (Value.bool false)).setCell ⟨w.heap.size, 1, none⟩ (Value.string ⟨#[]⟩)).setCell ⟨w.heap.size, 2, none⟩ (Value.string ⟨#[]⟩)) (w.heap.size) 29 [Value.bool false, Value.string ⟨#[]⟩, Value.string ⟨#[]⟩] := ((or3.set_ 0 (Value.bool false)).set_ 1 (Value.string ⟨#[]⟩)).set_ 2 (Value.string ⟨#[]⟩)
        have sz : Below w.heap.size w (((w3.setCell ⟨w.heap.size, 0, none⟩ (Value.bool false)).setCell ⟨w.heap.size, 1, none⟩ (Value.string ⟨#[]⟩)).setCell ⟨w.heap.size, 2, none⟩ (Value.string ⟨#[]⟩)) := ((s3.setCell (Nat.le_refl _) _).setCell (Nat.le_refl _) _).setCell (Nat.le_refl _) _
        go_wp2_with fail
        generalize (((w3.setCell ⟨w.heap.size, 0, none⟩ (Value.bool false)).setCell ⟨w.heap.size, 1, none⟩ (Value.string ⟨#[]⟩)).setCell ⟨w.heap.size, 2, none⟩ (Value.string ⟨#[]⟩)) = wz at oz sz ⊢
        have z0 : wz.cell? ⟨w.heap.size, 0, none⟩ = some (Value.bool false) := oz.cell 0
        have z1 : wz.cell? ⟨w.heap.size, 1, none⟩ = some (Value.string ⟨#[]⟩) := oz.cell 1
        have z2 : wz.cell? ⟨w.heap.size, 2, none⟩ = some (Value.string ⟨#[]⟩) := oz.cell 2
        exact bodyPost_ret (v := .tuple #[.agg #[Value.bool false, Value.string ⟨#[]⟩, Value.string ⟨#[]⟩], .int .i64 2]) (by simp [results, Tryd.results58, go_sem, z0, z1, z2]) rfl ⟨.inr ⟨HPQ.out, rfl⟩, sz⟩
  exact key _ _ rfl rfl

theorem okn_small {n : Nat} (h : n < 10000000000) : OkN n := by
  have : (dec n).length ≤ 10 := dec_len_le (by decide) h
  unfold OkN; omega
theorem okS_3 : S 3 = ⟨#[51]⟩ := rfl
theorem okS_2 : S 2 = ⟨#[50]⟩ := rfl
theorem okS_14 : S 14 = ⟨#[49, 52]⟩ := rfl
theorem okS_100 : S 100 = ⟨#[49, 48, 48]⟩ := rfl
theorem okS_7 : S 7 = ⟨#[55]⟩ := rfl

end Go.Proofs.YtopfcfbiaadfeaaDoor
