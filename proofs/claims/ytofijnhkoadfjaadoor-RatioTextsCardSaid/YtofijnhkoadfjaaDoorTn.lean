/- Operations on texts of numbers where they refuse; the reference's NatPower. -/
import Derived.Test.YtofijnhkoadfjaaDoorTi
import Derived.Test.YtofijnhkoadfjaaDoorRi
import Derived.Test.YtofijnhkoadfjaaDoorPw
namespace Go.Proofs.YtofijnhkoadfjaaDoor
set_option linter.unusedSimpArgs false
set_option linter.unusedVariables false
set_option linter.unusedSectionVars false
open Go.RowKit Dg

section
variable (s t : ByteArray) (hs : s.size ≤ maxLen) (ht : t.size ≤ maxLen)
include hs ht
theorem natsub_no (h : ¬ (VLD s ∧ VLD t)) (w : World) : Calls Tryd.prog 18 #[.string s, .string t] w fun e w' => e = .returned (.tuple #[.string ⟨#[]⟩, .int .i64 1]) ∧ Below w.heap.size w w' := by
  have HB := Lib.hid (fun w => both_no s t w hs ht h)
  clear hs ht h
  go_enter Tryd.func18, Tryd.ntmps18
  go_wp2_with fail
  refine (HB.out _).mono ?_
  rintro e w1 ⟨rfl, rfl⟩
  go_wp2
  go_ret2
  exact ⟨rfl, Below.refl _ _⟩
theorem natsubr_no (h : ¬ (VLD s ∧ VLD t)) (w : World) : Calls Tryd.prog 19 #[.string s, .string t] w fun e w' => e = .returned (.tuple #[.string ⟨#[]⟩, .int .i64 1]) ∧ Below w.heap.size w w' := by
  by_cases h1 : VLD s
  · have H1 := Lib.hid (fun w => validr_yes w h1)
    have H2 := Lib.hid (fun w => validr_no w ht fun h2 => h ⟨h1, h2⟩)
    clear hs ht h h1
    go_enter Tryd.func19, Tryd.ntmps19
    go_wp2_with fail
    refine (H1.out _).mono ?_
    rintro e w1 ⟨rfl, rfl⟩
    go_wp2_with fail
    refine (H2.out _).mono ?_
    rintro e w2 ⟨rfl, rfl⟩
    go_wp2
    go_ret2
    exact ⟨rfl, Below.refl _ _⟩
  · have H1 := Lib.hid (fun w => validr_no w hs h1)
    clear hs ht h h1
    go_enter Tryd.func19, Tryd.ntmps19
    go_wp2_with fail
    refine (H1.out _).mono ?_
    rintro e w1 ⟨rfl, rfl⟩
    go_wp2
    go_ret2
    exact ⟨rfl, Below.refl _ _⟩
theorem natcmp_no (h : ¬ (VLD s ∧ VLD t)) (w : World) : Calls Tryd.prog 23 #[.string s, .string t] w fun e w' => e = .returned (.int .i64 0) ∧ Below w.heap.size w w' := by
  by_cases h1 : VLD s
  · have H1 := Lib.hid (fun w => valid_yes w h1)
    have H2 := Lib.hid (fun w => valid_no w ht fun h2 => h ⟨h1, h2⟩)
    clear hs ht h h1
    go_enter Tryd.func23, Tryd.ntmps23
    go_wp2_with fail
    refine (H1.out _).mono ?_
    rintro e w1 ⟨rfl, rfl⟩
    go_wp2_with fail
    refine (H2.out _).mono ?_
    rintro e w2 ⟨rfl, rfl⟩
    go_wp2
    go_ret
    exact ⟨rfl, Below.refl _ _⟩
  · have H1 := Lib.hid (fun w => valid_no w hs h1)
    clear hs ht h h1
    go_enter Tryd.func23, Tryd.ntmps23
    go_wp2_with fail
    refine (H1.out _).mono ?_
    rintro e w1 ⟨rfl, rfl⟩
    go_wp2
    go_ret
    exact ⟨rfl, Below.refl _ _⟩
theorem natcmpr_no (h : ¬ (VLD s ∧ VLD t)) (w : World) : Calls Tryd.prog 24 #[.string s, .string t] w fun e w' => e = .returned (.int .i64 0) ∧ Below w.heap.size w w' := by
  by_cases h1 : VLD s
  · have H1 := Lib.hid (fun w => validr_yes w h1)
    have H2 := Lib.hid (fun w => validr_no w ht fun h2 => h ⟨h1, h2⟩)
    clear hs ht h h1
    go_enter Tryd.func24, Tryd.ntmps24
    go_wp2_with fail
    refine (H1.out _).mono ?_
    rintro e w1 ⟨rfl, rfl⟩
    go_wp2_with fail
    refine (H2.out _).mono ?_
    rintro e w2 ⟨rfl, rfl⟩
    go_wp2
    go_ret
    exact ⟨rfl, Below.refl _ _⟩
  · have H1 := Lib.hid (fun w => validr_no w hs h1)
    clear hs ht h h1
    go_enter Tryd.func24, Tryd.ntmps24
    go_wp2_with fail
    refine (H1.out _).mono ?_
    rintro e w1 ⟨rfl, rfl⟩
    go_wp2
    go_ret
    exact ⟨rfl, Below.refl _ _⟩
end
section
variable (s : ByteArray) (k : Int) (hs : s.size ≤ maxLen)
include hs
theorem natpow_no1 (h : ¬ VLD s) (w : World) : Calls Tryd.prog 14 #[.string s, .int .i64 k] w fun e w' => e = .returned (.tuple #[.string ⟨#[]⟩, .int .i64 1]) ∧ Below w.heap.size w w' := by
  have H1 := Lib.hid (fun w => valid_no w hs h)
  clear hs h
  go_enter Tryd.func14, Tryd.ntmps14
  go_wp2_with fail
  refine (H1.out _).mono ?_
  rintro e w1 ⟨rfl, rfl⟩
  go_wp2
  go_ret2
  exact ⟨rfl, Below.refl _ _⟩
theorem natpow_no2 (h : VLD s) (hk : k < 0) (w : World) : Calls Tryd.prog 14 #[.string s, .int .i64 k] w fun e w' => e = .returned (.tuple #[.string ⟨#[]⟩, .int .i64 1]) ∧ Below w.heap.size w w' := by
  have H1 := Lib.hid (fun w => valid_yes w h)
  have d1 : decide (k < 0) = true := decide_eq_true hk
  clear hs h
  go_enter Tryd.func14, Tryd.ntmps14
  go_wp2_with fail
  refine (H1.out _).mono ?_
  rintro e w1 ⟨rfl, rfl⟩
  go_wp2
  go_ret2
  exact ⟨rfl, Below.refl _ _⟩
theorem natpowr_no1 (h : ¬ VLD s) (w : World) : Calls Tryd.prog 20 #[.string s, .int .i64 k] w fun e w' => e = .returned (.tuple #[.string ⟨#[]⟩, .int .i64 1]) ∧ Below w.heap.size w w' := by
  have H1 := Lib.hid (fun w => validr_no w hs h)
  clear hs h
  go_enter Tryd.func20, Tryd.ntmps20
  go_wp2_with fail
  refine (H1.out _).mono ?_
  rintro e w1 ⟨rfl, rfl⟩
  go_wp2
  go_ret2
  exact ⟨rfl, Below.refl _ _⟩
theorem natpowr_no2 (h : VLD s) (hk : k < 0) (w : World) : Calls Tryd.prog 20 #[.string s, .int .i64 k] w fun e w' => e = .returned (.tuple #[.string ⟨#[]⟩, .int .i64 1]) ∧ Below w.heap.size w w' := by
  have H1 := Lib.hid (fun w => validr_yes w h)
  have d1 : decide (k < 0) = true := decide_eq_true hk
  clear hs h
  go_enter Tryd.func20, Tryd.ntmps20
  go_wp2_with fail
  refine (H1.out _).mono ?_
  rintro e w1 ⟨rfl, rfl⟩
  go_wp2
  go_ret2
  exact ⟨rfl, Below.refl _ _⟩
end
theorem str_eq {s : ByteArray} {l : List UInt8} : (s.toList == l) = decide (s.data.toList = l) := by
  rw [ByteArray.toList_eq, Bool.eq_iff_iff, beq_iff_eq, decide_eq_true_iff]
theorem S_is0 (n : Nat) : ((S n).toList == [48]) = decide (n = 0) := by
  rw [str_eq, decide_eq_decide]
  constructor
  · intro h; exact S_inj (ba_ext (h.trans (by rw [okS_0])))
  · intro h; rw [h, okS_0]
theorem S_is1 (n : Nat) : ((S n).toList == [49]) = decide (n = 1) := by
  rw [str_eq, decide_eq_decide]
  constructor
  · intro h; exact S_inj (ba_ext (h.trans (by rw [okS_1])))
  · intro h; rw [h, okS_1]
set_option maxHeartbeats 1000000 in
theorem natpowr_any (m k : Nat) (w : World) (hm : (dec m).length ≤ 200) (hk : k ≤ 20) :
    Calls Tryd.prog 20 #[.string (S m), .int .i64 (k : Int)] w fun e w' => TextRes (m ^ k) e ∧ Below w.heap.size w w' := by
  have okm : OkN m := by unfold OkN; omega
  have HV := Lib.hid (fun w => validr_yes w okm.vld)
  have HB := Lib.hid (fun w => big_S m w okm)
  have hmk : (dk m).length ≤ 200 := Nat.le_trans (dk_dec m) hm
  have hpk : ∀ j, (dk (m ^ j)).length ≤ 200 * j + 1 := by
    intro j
    induction j with
    | zero => rw [Nat.pow_zero]; decide
    | succ j ih => rw [Nat.pow_succ]; have := dk_mul (m ^ j) m; omega
  have HPK := Lib.hid hpk
  have s0 := S_is0 m
  have s1 := S_is1 m
  have dk0 : decide ((k : Int) < 0) = false := decide_eq_false (by omega)
  clear hpk hm okm
  obtain ⟨s, hs⟩ : ∃ s, S m = s := ⟨_, rfl⟩
  have HS := Lib.hid hs
  rw [hs] at HV HB s0 s1 ⊢
  clear hs
  by_cases hA : (m = 0 ∧ 0 < k) ∨ m = 1
  · have HR : Hid (TextRes (m ^ k) (.returned (.tuple #[.string s, .int .i64 0]))) := by
      show TextRes _ _
      have : m ^ k = m := by
        rcases hA with ⟨h1, h2⟩ | h1
        · rw [h1]; exact Nat.zero_pow h2
        · rw [h1, Nat.one_pow]
      rw [this, ← HS.out]
      rcases hA with ⟨h1, h2⟩ | h1
      · rw [h1]; exact .inl ⟨okn0, rfl⟩
      · rw [h1]; exact .inl ⟨okn1, rfl⟩
    rcases hA with ⟨h1, h2⟩ | h1
    · have e0 : (s.toList == [48]) = true := by rw [s0]; exact decide_eq_true h1
      have dk1 : decide ((0 : Int) < (k : Int)) = true := decide_eq_true (by omega)
      have dk2 : decide (0 < k) = true := decide_eq_true h2
      clear s0 s1 h1 h2 hmk
      go_enter Tryd.func20, Tryd.ntmps20
      go_wp2_with fail
      refine (HV.out _).mono ?_
      rintro e w1 ⟨rfl, rfl⟩
      go_wp2
      go_ret2
      exact ⟨HR.out, Below.refl _ _⟩
    · have e0 : (s.toList == [48]) = false := by rw [s0]; exact decide_eq_false (by omega)
      have e1 : (s.toList == [49]) = true := by rw [s1]; exact decide_eq_true h1
      clear s0 s1 h1 hmk
      go_enter Tryd.func20, Tryd.ntmps20
      go_wp2_with fail
      refine (HV.out _).mono ?_
      rintro e w1 ⟨rfl, rfl⟩
      go_wp2
      go_ret2
      exact ⟨HR.out, Below.refl _ _⟩
  · have e1 : (s.toList == [49]) = false := by rw [s1]; exact decide_eq_false fun h => hA (.inr h)
    have key : ∀ w : World, (s.toList == [48]) = false ∨ ((s.toList == [48]) = true ∧ decide ((0 : Int) < (k : Int)) = false ∧ decide (0 < k) = false) := by
      intro _
      by_cases h1 : m = 0
      · right
        have : ¬ 0 < k := fun h => hA (.inl ⟨h1, h⟩)
        exact ⟨by rw [s0]; exact decide_eq_true h1, decide_eq_false (by omega), decide_eq_false this⟩
      · left; rw [s0]; exact decide_eq_false h1
    have HKEY := key w
    clear s0 s1 hA key
    rcases HKEY with e0 | ⟨e0, dk1, dk2⟩
    all_goals
      go_enter Tryd.func20, Tryd.ntmps20
      go_wp2_with fail
      refine (HV.out _).mono ?_
      rintro e w1 ⟨rfl, rfl⟩
      go_wp2_with fail
      refine (of64_ref 1 (by decide) _).mono ?_
      rintro e w2 ⟨v1, rfl, hv1, hb1⟩
      have x1 : BigV w2 v1 (m ^ 0) := by rw [Nat.pow_zero]; exact hv1
      clear hv1
      go_wp2_with fail
      go_loopg [6, 7] k (fun q v6 v7 wr => ∃ j : Nat, q = k - j ∧ j ≤ k ∧ v7 = .int .i64 (j : Int) ∧ BigV wr v6 (m ^ j) ∧ Below w.heap.size w wr)
      case atStart => exact ⟨0, rfl, Nat.zero_le _, rfl, x1, hb1⟩
      case round =>
        clear x1 hb1
        obtain ⟨j, hq, hj, rfl, hv, hbw⟩ := hrel
        have HQ := Lib.hid hq; clear hq
        by_cases hlt : j < k
        · have HE : Hid (m ^ j * m = m ^ (j + 1)) := (Nat.pow_succ ..).symm
          have b1 := HPK.out j
          have b2 := Lib.hid (HPK.out (j + 1))
          go_wp2_with fail
          refine (HB.out _).mono ?_
          rintro e w3 ⟨v3, rfl, hv3, hb3⟩
          replace hv := hv.below hb3
          replace hbw := below6 hbw hb3
          clear hb3
          go_wp2_with fail
          refine (times_ref _ hv hv3 (by omega) (by omega)).mono ?_
          rintro e w4 ⟨v4, rfl, hv4, hb4⟩
          rw [HE.out] at hv4
          replace hbw := below6 hbw hb4
          clear hb4 hv hv3 HE b1
          have X4 := Lib.hid hv4
          obtain ⟨A4, c4, rfl, -⟩ := hv4
          have b3 := b2.out
          generalize hl4 : (dk (m ^ (j + 1))).length = n4 at *
          clear hl4 b2
          have d1 : decide ((5002 : Int) < (n4 : Int)) = false := decide_eq_false (by omega)
          have d2 : decide (5002 < n4) = false := decide_eq_false (by omega)
          clear b3
          go_wp2_with fail
          go_roundg (k - (j + 1))
          case measure => have := HQ.out; omega
          case rel => exact ⟨j + 1, rfl, hlt, by go_num, X4.out, hbw⟩
        · obtain rfl : j = k := by omega
          have b1 := HPK.out j
          clear hlt hj HQ
          go_wp2_with fail
          refine (done_ref _ hv (by omega)).mono ?_
          rintro e w5 ⟨ht, hb5⟩
          replace hbw := below6 hbw hb5
          clear hb5
          rcases ht with ⟨h1, rfl⟩ | ⟨h1, rfl⟩
          · have H1 := Lib.hid h1
            clear h1
            go_wp2
            go_ret2
            exact ⟨.inl ⟨H1.out, rfl⟩, hbw⟩
          · have H1 := Lib.hid h1
            clear h1
            go_wp2
            go_ret2
            exact ⟨.inr ⟨H1.out, rfl⟩, hbw⟩
end Go.Proofs.YtofijnhkoadfjaaDoor
