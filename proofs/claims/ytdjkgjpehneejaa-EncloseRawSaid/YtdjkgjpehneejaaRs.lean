/- The reference's powers of two and the comparison with them (chapter 37). -/
import Derived.Test.YtdjkgjpehneejaaLk
namespace Go.Proofs.Ytdjkgjpehneejaa
set_option linter.unusedSimpArgs false
set_option linter.unusedVariables false
set_option linter.unusedSectionVars false
open Go.RowKit Dg

theorem u64_in' {n : Nat} (h : n < 18446744073709551616) : IntKind.u64.wrap (n : Int) = (n : Int) := IntWalk.u64_in _ (by omega)
theorem u64_pow {m : Nat} (h : m ≤ 63) : IntKind.u64.wrap (2 ^ m) = ((2 ^ m : Nat) : Int) := by
  have e : (2 : Int) ^ m = ((2 ^ m : Nat) : Int) := by simp
  rw [e]
  exact u64_in' (Nat.lt_of_le_of_lt (Nat.pow_le_pow_right (by decide) h) (by decide))
theorem dk_two (n : Nat) : (dk (2 ^ n)).length ≤ n + 1 := by
  refine dg_le b10k ?_
  have h1 : 2 ^ n ≤ 10000 ^ n := Nat.pow_le_pow_left (by decide) n
  have h2 : 10000 ^ n < 10000 ^ (n + 1) := Nat.pow_lt_pow_right (by decide) (by omega)
  omega
set_option maxRecDepth 100000 in
set_option maxHeartbeats 2000000 in
theorem two_ref (n : Nat) (w : World) (hn : n ≤ 400000) : Calls Try.prog 75 #[.int .i64 (n : Int)] w fun e w' => ∃ v, e = .returned v ∧ BigV w' v (2 ^ n) ∧ Below w.heap.size w w' := by
  have HT := Lib.hid dk_two
  go_enter Try.func75, Try.ntmps75
  go_wp2_with fail
  refine (of64_ref 1 (by decide) _).mono ?_
  rintro e w1 ⟨v1, rfl, hv1, hb1⟩
  go_wp2_with fail
  go_loopg [0, 3] n (fun q v0 v3 wr => ∃ m : Nat, q = m ∧ m ≤ n ∧ v0 = .int .i64 (m : Int) ∧ BigV wr v3 (2 ^ (n - m)) ∧ Below w.heap.size w wr)
  case atStart => exact ⟨n, rfl, Nat.le_refl _, rfl, by rw [Nat.sub_self]; exact hv1, hb1⟩
  case round =>
    clear hv1 hb1
    obtain ⟨m, hq, hm, rfl, hv, hbw⟩ := hrel
    have HQ := Lib.hid hq; clear hq
    have hd := HT.out (n - m)
    by_cases h40 : 40 ≤ m
    · have hI : (40 : Int) ≤ (m : Int) := by omega
      have hd2 := HT.out 40
      have HP : Hid (2 ^ (n - m) * 1099511627776 = 2 ^ (n - (m - 40))) := by
        show _ = _
        have e : n - (m - 40) = n - m + 40 := by omega
        rw [e, Nat.pow_add]
      go_wp2_with fail
      refine (of64_ref 1099511627776 (by decide) _).mono ?_
      rintro e w2 ⟨v2, rfl, hv2, hb2⟩
      replace hv := hv.below hb2
      replace hbw := below6 hbw hb2
      clear hb2
      go_wp2_with fail
      refine (times_ref _ hv hv2 (by omega) (by have : (dk 1099511627776).length ≤ 41 := hd2; omega)).mono ?_
      rintro e w3 ⟨v3, rfl, hv3, hb3⟩
      replace hbw := below6 hbw hb3
      rw [HP.out] at hv3
      go_wp2_with fail
      go_roundg (m - 40)
      case measure => have := HQ.out; omega
      case rel => exact ⟨m - 40, rfl, by omega, by go_num, hv3, hbw⟩
    · have hI : ¬ (40 : Int) ≤ (m : Int) := by omega
      have h2 : 2 ^ m ≤ 2 ^ 39 := Nat.pow_le_pow_right (by decide) (by omega)
      have hd2 := HT.out m
      have HP : Hid (2 ^ (n - m) * 2 ^ m = 2 ^ n) := by
        show _ = _
        rw [← Nat.pow_add]
        congr 1; omega
      have ZW : Hid (IntKind.u64.wrap (2 ^ m) = ((2 ^ m : Nat) : Int)) := u64_pow (by omega)
      have HO : Hid (∀ w, Calls Try.prog 78 #[.int .u64 ((2 ^ m : Nat) : Int)] w fun e w' => ∃ v, e = .returned v ∧ BigV w' v (2 ^ m) ∧ Below w.heap.size w w') := fun w => of64_ref (2 ^ m) (by omega) w
      go_wp2_with fail
      rw [ZW.out]
      refine (HO.out _).mono ?_
      rintro e w2 ⟨v2, rfl, hv2, hb2⟩
      replace hv := hv.below hb2
      replace hbw := below6 hbw hb2
      clear hb2 HO
      go_wp2_with fail
      refine (times_ref _ hv hv2 (by omega) (by omega)).mono ?_
      rintro e w3 ⟨v3, rfl, hv3, hb3⟩
      rw [HP.out] at hv3
      go_wp2
      go_ret
      exact ⟨v3, rfl, hv3, below6 hbw hb3⟩
theorem dk_short {n N : Nat} (h : (dec n).length ≤ 4 * N) : (dk n).length ≤ N := by
  refine dg_le b10k ?_
  have h1 := dec_lt n
  have h2 : 10 ^ (dec n).length ≤ 10 ^ (4 * N) := Nat.pow_le_pow_right (by decide) h
  have h3 : 10 ^ (4 * N) = 10000 ^ N := by rw [Nat.pow_mul]
  omega
set_option maxRecDepth 100000 in
theorem below_ref {v1 v2 : Value} {P Q : Nat} (n : Int) (z : Int) (hz : cmpR (p2 n) (rat false P Q) = z) (w : World) (h1 : BigV w v1 P) (h2 : BigV w v2 Q) (hQ : 0 < Q) (hn1 : -400000 ≤ n) (hn2 : n ≤ 400000) (l1 : (dk P).length ≤ 600000) (l2 : (dk Q).length ≤ 600000) :
    Calls Try.prog 51 #[.int .i64 n, v1, v2] w fun e w' => e = .returned (.tuple #[.bool (decide (z ≤ 0)), .bool (z == 0)]) ∧ Below w.heap.size w w' := by
  by_cases hn : n < 0
  · obtain ⟨j, rfl⟩ : ∃ j : Nat, n = -(j : Int) := ⟨(-n).toNat, by omega⟩
    have hj : j ≤ 400000 := by omega
    have HR := Lib.hid ((cmpR_of (times_neg hQ j (P := P)).1 (times_neg hQ j (P := P)).2).symm.trans hz)
    have HT := Lib.hid (two_ref j w hj)
    have H1 := Lib.hid h1
    have H2 := Lib.hid h2
    have hd := dk_two j
    have z1 : IntKind.i64.wrap (-(-(j : Int))) = (j : Int) := by rw [Int.neg_neg]; exact IntWalk.i64_in _ (by omega)
    have z2 : -(-(j : Int)) = (j : Int) := Int.neg_neg _
    clear h1 h2 hQ hz
    go_enter Try.func51, Try.ntmps51
    go_wp2_with fail
    refine HT.out.mono ?_
    rintro e w1 ⟨v3, rfl, hv3, hb1⟩
    go_wp2_with fail
    refine (times_ref _ (H1.out.below hb1) hv3 (by omega) (by omega)).mono ?_
    rintro e w2 ⟨v4, rfl, hv4, hb2⟩
    go_wp2_with fail
    refine (less_ref _ ((H2.out.below hb1).below hb2) hv4).mono ?_
    rintro e w3 ⟨he, hb3⟩
    rw [HR.out] at he
    subst he
    go_wp2
    go_ret2
    exact ⟨rfl, below6 (below6 hb1 hb2) hb3⟩
  · obtain ⟨j, rfl⟩ : ∃ j : Nat, n = (j : Int) := ⟨n.toNat, by omega⟩
    have hj : j ≤ 400000 := by omega
    have HR := Lib.hid ((cmpR_of (times_pos hQ j (P := P)).1 (times_pos hQ j (P := P)).2).symm.trans hz)
    have HT := Lib.hid (two_ref j w hj)
    have H1 := Lib.hid h1
    have H2 := Lib.hid h2
    have hd := dk_two j
    clear h1 h2 hQ hz
    go_enter Try.func51, Try.ntmps51
    go_wp2_with fail
    refine HT.out.mono ?_
    rintro e w1 ⟨v3, rfl, hv3, hb1⟩
    go_wp2_with fail
    refine (times_ref _ (H2.out.below hb1) hv3 (by omega) (by omega)).mono ?_
    rintro e w2 ⟨v4, rfl, hv4, hb2⟩
    go_wp2_with fail
    refine (less_ref _ hv4 ((H1.out.below hb1).below hb2)).mono ?_
    rintro e w3 ⟨he, hb3⟩
    rw [HR.out] at he
    subst he
    go_wp2
    go_ret2
    exact ⟨rfl, below6 (below6 hb1 hb2) hb3⟩
end Go.Proofs.Ytdjkgjpehneejaa
