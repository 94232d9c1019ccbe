/- The law RatioTexts as a walk. -/
import Derived.Test.YtofijnhkoadfjaaDoorTn
namespace Go.Proofs.YtofijnhkoadfjaaDoor
set_option linter.unusedSimpArgs false
set_option linter.unusedVariables false
set_option linter.unusedSectionVars false
open Go.RowKit Dg

theorem size60 {s : ByteArray} (h : s.size ≤ 60) : s.size ≤ maxLen := by unfold maxLen; omega
theorem vld60 {s : ByteArray} (h : s.size ≤ 60) (hv : VLD s) : ∃ n, s = S n ∧ (dec n).length ≤ 60 := by
  obtain ⟨n, rfl, -⟩ := vld_is hv
  rw [S_size] at h
  exact ⟨n, rfl, h⟩
theorem ok60 {n : Nat} (h : (dec n).length ≤ 60) : OkN n := by unfold OkN; omega
theorem text_one (n : Nat) : ∃ (t : ByteArray) (k : Int), ∀ e, TextRes n e → e = .returned (.tuple #[.string t, .int .i64 k]) := by
  by_cases h : OkN n
  · exact ⟨_, _, fun e he => he.ok h⟩
  · exact ⟨_, _, fun e he => he.big h⟩
theorem sub_one (m n : Nat) : ∃ (t : ByteArray) (k : Int), ∀ e, SubRes m n e → e = .returned (.tuple #[.string t, .int .i64 k]) := by
  by_cases h : m < n
  · refine ⟨⟨#[]⟩, 8, fun e he => ?_⟩
    rcases he with ⟨-, h2⟩ | ⟨h2, -⟩
    · exact h2
    · omega
  · obtain ⟨t, k, hk⟩ := text_one (m - n)
    refine ⟨t, k, fun e he => ?_⟩
    rcases he with ⟨h2, -⟩ | ⟨-, h2⟩
    · omega
    · exact hk e h2
theorem toint2 (s : ByteArray) (hs : s.size ≤ 60) : ∃ (z : Int) (b : Bool), (∀ w, ErrCell 2 w → Calls Tryd.prog 16 #[.string s] w fun e w' => e = .returned (.tuple #[.int .i64 z, .bool b]) ∧ Below w.heap.size w w') ∧ RetV 17 #[.string s] (.tuple #[.int .i64 z, .bool b]) := by
  by_cases hv : VLD s
  · obtain ⟨n, rfl, hn⟩ := vld60 hs hv
    by_cases h : n ≤ 4611686018427387904
    · exact ⟨(n : Int), true, fun w _ => toint_ok n h w, fun w => tointr_any n (ok60 hn) _ _ (fun _ => ⟨rfl, rfl⟩) (fun h2 => absurd h h2) w⟩
    · exact ⟨0, false, fun w hw => toint_big n (ok60 hn) (by omega) w hw, fun w => tointr_any n (ok60 hn) _ _ (fun h2 => absurd h2 h) (fun _ => ⟨rfl, rfl⟩) w⟩
  · exact ⟨_, _, fun w _ => toint_no s (size60 hs) hv w, fun w => tointr_no s (size60 hs) hv w⟩
theorem sub2 (s t : ByteArray) (hs : s.size ≤ 60) (ht : t.size ≤ 60) : ∃ (u : ByteArray) (k : Int), RetV 18 #[.string s, .string t] (.tuple #[.string u, .int .i64 k]) ∧ RetV 19 #[.string s, .string t] (.tuple #[.string u, .int .i64 k]) := by
  by_cases hv : VLD s ∧ VLD t
  · obtain ⟨m, rfl, hm⟩ := vld60 hs hv.1
    obtain ⟨n, rfl, hn⟩ := vld60 ht hv.2
    obtain ⟨u, k, h⟩ := sub_one m n
    exact ⟨u, k, fun w => (natsub_yes m n w (ok60 hm) (ok60 hn)).mono fun e w' ⟨a, b⟩ => ⟨h e a, b⟩, fun w => (natsub_ref m n w (ok60 hm) (ok60 hn)).mono fun e w' ⟨a, b⟩ => ⟨h e a, b⟩⟩
  · exact ⟨_, _, fun w => natsub_no s t (size60 hs) (size60 ht) hv w, fun w => natsubr_no s t (size60 hs) (size60 ht) hv w⟩
theorem cmp2 (s t : ByteArray) (hs : s.size ≤ 60) (ht : t.size ≤ 60) : ∃ k : Int, RetV 23 #[.string s, .string t] (.int .i64 k) ∧ RetV 24 #[.string s, .string t] (.int .i64 k) := by
  by_cases hv : VLD s ∧ VLD t
  · obtain ⟨m, rfl, hm⟩ := vld60 hs hv.1
    obtain ⟨n, rfl, hn⟩ := vld60 ht hv.2
    exact ⟨_, fun w => (natcmp_yes m n w (ok60 hm) (ok60 hn)).mono fun e w' ⟨a, b⟩ => ⟨a, by subst b; exact Below.refl _ _⟩, fun w => natcmp_ref m n w (ok60 hm) (ok60 hn)⟩
  · exact ⟨_, fun w => natcmp_no s t (size60 hs) (size60 ht) hv w, fun w => natcmpr_no s t (size60 hs) (size60 ht) hv w⟩
theorem pow2 (s : ByteArray) (k : Int) (hs : s.size ≤ 60) (hk : k ≤ 20) : ∃ (u : ByteArray) (j : Int), RetV 14 #[.string s, .int .i64 k] (.tuple #[.string u, .int .i64 j]) ∧ RetV 20 #[.string s, .int .i64 k] (.tuple #[.string u, .int .i64 j]) := by
  by_cases hv : VLD s
  · by_cases h : k < 0
    · exact ⟨_, _, fun w => natpow_no2 s k (size60 hs) hv h w, fun w => natpowr_no2 s k (size60 hs) hv h w⟩
    · obtain ⟨m, rfl, hm⟩ := vld60 hs hv
      obtain ⟨j, rfl⟩ : ∃ j : Nat, k = j := ⟨k.toNat, by omega⟩
      obtain ⟨u, i, hu⟩ := text_one (m ^ j)
      exact ⟨u, i, fun w => (natpow_any m j w (ok60 hm) (by omega)).mono fun e w' ⟨a, b⟩ => ⟨hu e a, b⟩, fun w => (natpowr_any m j w (by omega) (by omega)).mono fun e w' ⟨a, b⟩ => ⟨hu e a, b⟩⟩
  · exact ⟨_, _, fun w => natpow_no1 s k (size60 hs) hv w, fun w => natpowr_no1 s k (size60 hs) hv w⟩
theorem val2 (s : ByteArray) (hs : s.size ≤ 60) : ∃ b : Bool, RetV 21 #[.string s] (.bool b) ∧ RetV 22 #[.string s] (.bool b) := by
  by_cases hv : VLD s
  · exact ⟨_, fun w => (valid_yes w hv).mono fun e w' ⟨a, b⟩ => ⟨a, by subst b; exact Below.refl _ _⟩, fun w => (validr_yes w hv).mono fun e w' ⟨a, b⟩ => ⟨a, by subst b; exact Below.refl _ _⟩⟩
  · exact ⟨_, fun w => (valid_no w (size60 hs) hv).mono fun e w' ⟨a, b⟩ => ⟨a, by subst b; exact Below.refl _ _⟩, fun w => (validr_no w (size60 hs) hv).mono fun e w' ⟨a, b⟩ => ⟨a, by subst b; exact Below.refl _ _⟩⟩
set_option maxRecDepth 100000 in
set_option maxHeartbeats 4000000 in
theorem law_texts36 (a b : ByteArray) (k : Int) (w : World) (h0 : ErrCell 2 w) :
    Calls Tryd.prog 5 #[.string a, .string b, .int .i64 k] w (Holds w) := by
  by_cases g0 : 60 < a.size
  · have dA : decide ((60 : Int) < (a.size : Int)) = true := decide_eq_true (by omega)
    clear g0
    go_enter Tryd.func5, Tryd.ntmps5
    go_wp2
    go_ret
    exact ⟨rfl, Below.refl _ _⟩
  by_cases g1 : 60 < b.size
  · have dA : decide ((60 : Int) < (a.size : Int)) = false := decide_eq_false (by omega)
    have dB : decide ((60 : Int) < (b.size : Int)) = true := decide_eq_true (by omega)
    clear g0 g1
    go_enter Tryd.func5, Tryd.ntmps5
    go_wp2
    go_ret
    exact ⟨rfl, Below.refl _ _⟩
  by_cases g2 : 20 < k
  · have dK : decide (20 < k) = true := decide_eq_true g2
    clear g2
    obtain ⟨zi, bi, hi1, hi2⟩ := toint2 a (by omega)
    obtain ⟨us, ks, hs1, hs2⟩ := sub2 a b (by omega) (by omega)
    obtain ⟨up, kp, hp1, hp2⟩ := pow2 a (20) (by omega) (by omega)
    obtain ⟨bv, hv1, hv2⟩ := val2 a (by omega)
    obtain ⟨kc, hc1, hc2⟩ := cmp2 a b (by omega) (by omega)
    have dA : decide ((60 : Int) < (a.size : Int)) = false := decide_eq_false (by omega)
    have dB : decide ((60 : Int) < (b.size : Int)) = false := decide_eq_false (by omega)
    have H0 := Lib.hid h0
    clear g0 g1 h0
    have HI1 := Lib.hid hi1
    clear hi1
    have HI2 := Lib.hid hi2
    clear hi2
    have HS1 := Lib.hid hs1
    clear hs1
    have HS2 := Lib.hid hs2
    clear hs2
    have HP1 := Lib.hid hp1
    clear hp1
    have HP2 := Lib.hid hp2
    clear hp2
    have HV1 := Lib.hid hv1
    clear hv1
    have HV2 := Lib.hid hv2
    clear hv2
    have HC1 := Lib.hid hc1
    clear hc1
    have HC2 := Lib.hid hc2
    clear hc2
    have hbw := Below.refl w.heap.size w
    go_enter Tryd.func5, Tryd.ntmps5
    go_wp2_with fail
    refine (HI1.out _ (H0.out.below hbw)).mono ?_
    rintro e w1 ⟨rfl, hb1⟩
    replace hbw := below6 hbw hb1
    clear hb1
    go_wp2_with fail
    refine (HI2.out _).mono ?_
    rintro e w2 ⟨rfl, hb2⟩
    replace hbw := below6 hbw hb2
    clear hb2
    go_wp2_with fail
    refine (HS1.out _).mono ?_
    rintro e w3 ⟨rfl, hb3⟩
    replace hbw := below6 hbw hb3
    clear hb3
    go_wp2_with fail
    refine (HS2.out _).mono ?_
    rintro e w4 ⟨rfl, hb4⟩
    replace hbw := below6 hbw hb4
    clear hb4
    go_wp2_with fail
    refine (HP1.out _).mono ?_
    rintro e w5 ⟨rfl, hb5⟩
    replace hbw := below6 hbw hb5
    clear hb5
    go_wp2_with fail
    refine (HP2.out _).mono ?_
    rintro e w6 ⟨rfl, hb6⟩
    replace hbw := below6 hbw hb6
    clear hb6
    go_wp2_with fail
    refine (HV1.out _).mono ?_
    rintro e w7 ⟨rfl, hb7⟩
    replace hbw := below6 hbw hb7
    clear hb7
    go_wp2_with fail
    refine (HV2.out _).mono ?_
    rintro e w8 ⟨rfl, hb8⟩
    replace hbw := below6 hbw hb8
    clear hb8
    go_wp2_with fail
    refine (HC1.out _).mono ?_
    rintro e w9 ⟨rfl, hb9⟩
    replace hbw := below6 hbw hb9
    clear hb9
    go_wp2_with fail
    refine (HC2.out _).mono ?_
    rintro e w10 ⟨rfl, hb10⟩
    replace hbw := below6 hbw hb10
    clear hb10
    go_wp2_with fail
    refine (known_any _).mono ?_
    rintro e w9 ⟨rfl, hb9⟩
    go_wp2
    go_ret
    exact ⟨rfl, below6 hbw hb9⟩
  · have dK : decide (20 < k) = false := decide_eq_false g2
    have hk20 : k ≤ 20 := by omega
    clear g2
    obtain ⟨zi, bi, hi1, hi2⟩ := toint2 a (by omega)
    obtain ⟨us, ks, hs1, hs2⟩ := sub2 a b (by omega) (by omega)
    obtain ⟨up, kp, hp1, hp2⟩ := pow2 a (k) (by omega) (by omega)
    obtain ⟨bv, hv1, hv2⟩ := val2 a (by omega)
    obtain ⟨kc, hc1, hc2⟩ := cmp2 a b (by omega) (by omega)
    have dA : decide ((60 : Int) < (a.size : Int)) = false := decide_eq_false (by omega)
    have dB : decide ((60 : Int) < (b.size : Int)) = false := decide_eq_false (by omega)
    have H0 := Lib.hid h0
    clear g0 g1 h0
    have HI1 := Lib.hid hi1
    clear hi1
    have HI2 := Lib.hid hi2
    clear hi2
    have HS1 := Lib.hid hs1
    clear hs1
    have HS2 := Lib.hid hs2
    clear hs2
    have HP1 := Lib.hid hp1
    clear hp1
    have HP2 := Lib.hid hp2
    clear hp2
    have HV1 := Lib.hid hv1
    clear hv1
    have HV2 := Lib.hid hv2
    clear hv2
    have HC1 := Lib.hid hc1
    clear hc1
    have HC2 := Lib.hid hc2
    clear hc2
    have hbw := Below.refl w.heap.size w
    go_enter Tryd.func5, Tryd.ntmps5
    go_wp2_with fail
    refine (HI1.out _ (H0.out.below hbw)).mono ?_
    rintro e w1 ⟨rfl, hb1⟩
    replace hbw := below6 hbw hb1
    clear hb1
    go_wp2_with fail
    refine (HI2.out _).mono ?_
    rintro e w2 ⟨rfl, hb2⟩
    replace hbw := below6 hbw hb2
    clear hb2
    go_wp2_with fail
    refine (HS1.out _).mono ?_
    rintro e w3 ⟨rfl, hb3⟩
    replace hbw := below6 hbw hb3
    clear hb3
    go_wp2_with fail
    refine (HS2.out _).mono ?_
    rintro e w4 ⟨rfl, hb4⟩
    replace hbw := below6 hbw hb4
    clear hb4
    go_wp2_with fail
    refine (HP1.out _).mono ?_
    rintro e w5 ⟨rfl, hb5⟩
    replace hbw := below6 hbw hb5
    clear hb5
    go_wp2_with fail
    refine (HP2.out _).mono ?_
    rintro e w6 ⟨rfl, hb6⟩
    replace hbw := below6 hbw hb6
    clear hb6
    go_wp2_with fail
    refine (HV1.out _).mono ?_
    rintro e w7 ⟨rfl, hb7⟩
    replace hbw := below6 hbw hb7
    clear hb7
    go_wp2_with fail
    refine (HV2.out _).mono ?_
    rintro e w8 ⟨rfl, hb8⟩
    replace hbw := below6 hbw hb8
    clear hb8
    go_wp2_with fail
    refine (HC1.out _).mono ?_
    rintro e w9 ⟨rfl, hb9⟩
    replace hbw := below6 hbw hb9
    clear hb9
    go_wp2_with fail
    refine (HC2.out _).mono ?_
    rintro e w10 ⟨rfl, hb10⟩
    replace hbw := below6 hbw hb10
    clear hb10
    go_wp2_with fail
    refine (known_any _).mono ?_
    rintro e w9 ⟨rfl, hb9⟩
    go_wp2
    go_ret
    exact ⟨rfl, below6 hbw hb9⟩
end Go.Proofs.YtofijnhkoadfjaaDoor
