/- The law RatioPowers as a walk. -/
import Derived.Test.YtofijnhkoadfjaaDoorTn
import Derived.Test.YtofijnhkoadfjaaDoorNm
namespace Go.Proofs.YtofijnhkoadfjaaDoor
set_option linter.unusedSimpArgs false
set_option linter.unusedVariables false
set_option linter.unusedSectionVars false
open Go.RowKit Dg

theorem pow_ok {a j : Nat} (h : (dec a).length ≤ 12) (hj : j ≤ 22) : OkN (a ^ j) := by
  rcases Nat.eq_zero_or_pos j with rfl | h0
  · rw [Nat.pow_zero]; exact okn1
  · have h1 : a < 10 ^ 12 := Nat.lt_of_lt_of_le (dec_lt a) (Nat.pow_le_pow_right (by decide) h)
    have h2 : a ^ j < 10 ^ (12 * j) := by rw [Nat.pow_mul]; exact Nat.pow_lt_pow_left h1 (by omega)
    have := dec_len_le (k := 12 * j) (by omega) h2
    unfold OkN; omega
theorem mod12 (x : Int) (h1 : -9223372036854775808 ≤ x) (h2 : x ≤ 9223372036854775807) : ∃ k : Nat, k < 12 ∧ ∀ w, Calls Tryd.prog 13 #[.int .i64 x, .int .i64 12] w fun e w' => e = .returned (.int .i64 (k : Int)) ∧ w = w' := by
  refine ⟨(x % 12).toNat, by omega, fun w => ?_⟩
  have := mod_any x 12 w (by decide) (by decide) h1 h2
  have e : (((x % 12).toNat : Nat) : Int) = x % ((12 : Nat) : Int) := by omega
  rw [e]
  exact this
set_option maxRecDepth 100000 in
set_option maxHeartbeats 4000000 in
theorem law_powers36 (A : Option Addr) (l : List Int) (c : Nat) (x y : Int) (w : World) (hA : Ints w A l) (hl : l.length ≤ c) (hc : c ≤ maxLen) (hw : Wide l) (hx1 : -9223372036854775808 ≤ x) (hx2 : x ≤ 9223372036854775807) (hy1 : -9223372036854775808 ≤ y) (hy2 : y ≤ 9223372036854775807) (h0 : Tab w) :
    Calls Tryd.prog 4 #[.slice A l.length c, .int .i64 x, .int .i64 y] w (Holds w) := by
  have HN := Lib.hid (new_any A l c w hA hl hc hw)
  obtain ⟨m, hm, hmod1⟩ := mod12 x hx1 hx2
  obtain ⟨n, hn, hmod2⟩ := mod12 y hy1 hy2
  have M1 := Lib.hid hmod1
  have M2 := Lib.hid hmod2
  have H0 := Lib.hid h0
  clear hA hw hx1 hx2 hy1 hy2 hmod1 hmod2 h0
  go_enter Tryd.func4, Tryd.ntmps4
  go_wp2_with fail
  refine HN.out.mono ?_
  rintro e w1 ⟨rfl, ⟨l', hT⟩, hb1⟩
  have HS := Lib.hid (fun k (hk : k < w.heap.size) (e : k = w.heap.size) => absurd e (by omega) : ∀ k, k < w.heap.size → ¬ k = w.heap.size)
  go_wp2_with fail
  refine (natural_any _ A l' c 0 12 w1 hT (by decide) (by decide)).mono ?_
  rintro e w2 ⟨⟨a, rfl, ha⟩, -, hc2⟩
  have hbw := hb1.trans (hc2.below (B := w.heap.size) HS.out hb1.size)
  clear hT hb1 hc2 HN HS
  have P1 := Lib.hid (fun w => natpow_any a m w (pow_ok (j := 1) ha (by decide) |> fun h => by simpa using h) (by omega))
  have P2 := Lib.hid (fun w => natpow_any a n w (pow_ok (j := 1) ha (by decide) |> fun h => by simpa using h) (by omega))
  have P3 := Lib.hid (fun w => natpow_any a (m + n) w (pow_ok (j := 1) ha (by decide) |> fun h => by simpa using h) (by omega))
  have O1 := Lib.hid (pow_ok (j := m) ha (by omega))
  have O2 := Lib.hid (pow_ok (j := n) ha (by omega))
  have O3 := Lib.hid (pow_ok (j := m + n) ha (by omega))
  have HP : Hid (a ^ m * a ^ n = a ^ (m + n)) := (Nat.pow_add ..).symm
  have hmn : m * n ≤ 121 := Nat.mul_le_mul (by omega : m ≤ 11) (by omega : n ≤ 11)
  have F1 := Lib.hid (fun w h => fromint_yes (m * n) (by omega) w h)
  have F2 := Lib.hid (fun w => toint_ok (m * n) (by omega) w)
  have z1 : IntKind.i64.wrap ((m : Int) + (n : Int)) = (m : Int) + (n : Int) := IntWalk.i64_in _ (by omega)
  have ez : ((m + n : Nat) : Int) = (m : Int) + (n : Int) := by simp
  have ey : ((m * n : Nat) : Int) = (m : Int) * (n : Int) := by simp
  have z2 : IntKind.i64.wrap ((m : Int) * (n : Int)) = (m : Int) * (n : Int) := by rw [← ey]; exact IntWalk.i64_in _ (by omega)
  rw [ez] at P3
  rw [ey] at F1 F2
  clear ez ey ha hmn
  generalize S a = sa at *
  have hmI : (m : Int) < 12 := by omega
  have hnI : (n : Int) < 12 := by omega
  go_wp2_with fail
  refine (M1.out _).mono ?_
  rintro e wm ⟨rfl, rfl⟩
  go_wp2_with fail
  refine (M2.out _).mono ?_
  rintro e wm ⟨rfl, rfl⟩
  go_wp2_with fail
  refine (P1.out _).mono ?_
  rintro e w1 ⟨ht, hb1⟩
  replace hbw := below6 hbw hb1
  clear hb1
  have he := ht.ok O1.out
  subst he
  clear ht
  go_wp2_with fail
  refine (P2.out _).mono ?_
  rintro e w2 ⟨ht, hb2⟩
  replace hbw := below6 hbw hb2
  clear hb2
  have he := ht.ok O2.out
  subst he
  clear ht
  go_wp2_with fail
  refine (P3.out _).mono ?_
  rintro e w3 ⟨ht, hb3⟩
  replace hbw := below6 hbw hb3
  clear hb3
  have he := ht.ok O3.out
  subst he
  clear ht
  go_wp2_with fail
  refine (natmul_yes _ _ _ O1.out O2.out).mono ?_
  rintro e w4 ⟨ht, hb4⟩
  replace hbw := below6 hbw hb4
  clear hb4
  rw [HP.out] at ht
  have he := ht.ok O3.out
  subst he
  clear ht
  go_wp2_with fail
  refine (F1.out _ (H0.out.below hbw)).mono ?_
  rintro e w5 ⟨rfl, hb5⟩
  replace hbw := below6 hbw hb5
  clear hb5
  go_wp2_with fail
  refine (F2.out _).mono ?_
  rintro e w6 ⟨rfl, hb6⟩
  replace hbw := below6 hbw hb6
  clear hb6
  go_wp2_with fail
  refine (known_any _).mono ?_
  rintro e w9 ⟨rfl, hb9⟩
  go_wp2
  go_ret
  exact ⟨rfl, below6 hbw hb9⟩
end Go.Proofs.YtofijnhkoadfjaaDoor
