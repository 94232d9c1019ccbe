/- The law RatioNaturals as a walk. -/
import Derived.Test.YtofijnhkoadfjaaRj
namespace Go.Proofs.Ytofijnhkoadfjaa
set_option linter.unusedSimpArgs false
set_option linter.unusedVariables false
set_option linter.unusedSectionVars false
open Go.RowKit Dg

theorem lt60 {n : Nat} (h : (dec n).length ≤ 60) : n < 10 ^ 60 := Nat.lt_of_lt_of_le (dec_lt n) (Nat.pow_le_pow_right (by decide) h)
theorem okadd60 {m n : Nat} (hm : (dec m).length ≤ 60) (hn : (dec n).length ≤ 60) : OkN (m + n) := by
  have h1 := lt60 hm
  have h2 := lt60 hn
  exact Nat.le_trans (dec_len_le (k := 61) (by decide) (by omega)) (by decide)
theorem okmul60 {m n : Nat} (hm : (dec m).length ≤ 60) (hn : (dec n).length ≤ 60) : OkN (m * n) := by
  have h1 := lt60 hm
  have h2 := lt60 hn
  have h3 : m * n < 10 ^ 120 := Nat.lt_of_lt_of_eq (Nat.mul_lt_mul'' h1 h2) (by decide)
  exact Nat.le_trans (dec_len_le (k := 120) (by decide) h3) (by decide)
theorem okgcd {m n : Nat} (hm : OkN m) (hn : OkN n) : OkN (Nat.gcd m n) := by
  rcases Nat.eq_zero_or_pos m with rfl | h0
  · rw [Nat.gcd_zero_left]; exact hn
  · exact hm.mono (Nat.gcd_le_left n h0)
/-- Both functions of two texts return the same text and error, whatever the world. -/
def Same2 (f g : FuncId) (s t u : ByteArray) (z : Int) : Prop :=
  (∀ w, Calls Try.prog f #[.string s, .string t] w fun e w' => e = .returned (.tuple #[.string u, .int .i64 z]) ∧ Below w.heap.size w w') ∧ (∀ w, Calls Try.prog g #[.string s, .string t] w fun e w' => e = .returned (.tuple #[.string u, .int .i64 z]) ∧ Below w.heap.size w w')
def Same3 (f g : FuncId) (s t u v : ByteArray) (z : Int) : Prop :=
  (∀ w, Calls Try.prog f #[.string s, .string t] w fun e w' => e = .returned (.tuple #[.string u, .string v, .int .i64 z]) ∧ Below w.heap.size w w') ∧ (∀ w, Calls Try.prog g #[.string s, .string t] w fun e w' => e = .returned (.tuple #[.string u, .string v, .int .i64 z]) ∧ Below w.heap.size w w')
theorem same_add {m n : Nat} (hm : OkN m) (hn : OkN n) (h : OkN (m + n)) : Same2 13 17 (S m) (S n) (S (m + n)) 0 :=
  ⟨fun w => (natadd_yes m n w hm hn).mono fun e w' ⟨h1, hb⟩ => ⟨h1.ok h, hb⟩, fun w => (natadd_ref m n w hm hn).mono fun e w' ⟨h1, hb⟩ => ⟨h1.ok h, hb⟩⟩
theorem same_mul {m n : Nat} (hm : OkN m) (hn : OkN n) (h : OkN (m * n)) : Same2 12 19 (S m) (S n) (S (m * n)) 0 :=
  ⟨fun w => (natmul_yes m n w hm hn).mono fun e w' ⟨h1, hb⟩ => ⟨h1.ok h, hb⟩, fun w => (natmul_ref m n w hm hn).mono fun e w' ⟨h1, hb⟩ => ⟨h1.ok h, hb⟩⟩
theorem same_gcd {m n : Nat} (hm : OkN m) (hn : OkN n) : Same2 16 21 (S m) (S n) (S (Nat.gcd m n)) 0 :=
  ⟨fun w => (natgcd_yes m n w hm hn).mono fun e w' ⟨h1, hb⟩ => ⟨h1.ok (okgcd hm hn), hb⟩, fun w => (natgcd_ref m n w hm hn).mono fun e w' ⟨h1, hb⟩ => ⟨h1.ok (okgcd hm hn), hb⟩⟩
theorem same_sub {m n : Nat} (hm : OkN m) (hn : OkN n) : ∃ u z, Same2 15 18 (S m) (S n) u z := by
  have key : ∃ u z, ∀ e, SubRes m n e → e = .returned (.tuple #[.string u, .int .i64 z]) := by
    rcases Nat.lt_or_ge m n with h | h
    · exact ⟨_, _, fun e he => by
        rcases he with ⟨_, h2⟩ | ⟨h1, _⟩
        · exact h2
        · omega⟩
    · exact ⟨S (m - n), 0, fun e he => by
        rcases he with ⟨h1, _⟩ | ⟨_, h2⟩
        · omega
        · exact h2.ok (hm.mono (Nat.sub_le m n))⟩
  obtain ⟨u, z, h⟩ := key
  exact ⟨u, z, fun w => (natsub_yes m n w hm hn).mono fun e w' ⟨h1, hb⟩ => ⟨h _ h1, hb⟩, fun w => (natsub_ref m n w hm hn).mono fun e w' ⟨h1, hb⟩ => ⟨h _ h1, hb⟩⟩
theorem same_div {m n : Nat} (hm : OkN m) (hn : OkN n) : ∃ u v z, Same3 10 20 (S m) (S n) u v z := by
  rcases Nat.eq_zero_or_pos n with rfl | hn0
  · exact ⟨_, _, _, fun w => natdiv_zero m w hm, fun w => natdivz_ref m w hm⟩
  · exact ⟨_, _, _, fun w => natdiv_yes m n w hm hn hn0, fun w => natdiv_ref m n w hm hn hn0⟩

set_option maxRecDepth 100000 in
set_option maxHeartbeats 4000000 in
theorem law_naturals (A : Option Addr) (l : List Int) (c : Nat) (B : Option Addr) (k : List Int) (d : Nat) (w : World) (hA : Ints w A l) (hl : l.length ≤ c) (hc : c ≤ maxLen) (hw : Wide l) (hB : Ints w B k) (hk : k.length ≤ d) (hd : d ≤ maxLen) (hv : Wide k) :
    Calls Try.prog 4 #[.slice A l.length c, .slice B k.length d] w (Holds w) := by
  have HA := Lib.hid (lawnat_any A l c w hA hl hc hw)
  have HB : Hid (∀ w, Ints w B k → Calls Try.prog 9 #[.slice B k.length d] w fun e w' => (∃ n, e = .returned (.string (S n)) ∧ (dec n).length ≤ 60) ∧ Below w.heap.size w w') := fun w h => lawnat_any B k d w h hk hd hv
  have HIB : Hid (Ints w B k) := hB
  clear hA hB hw hv
  go_enter Try.func4, Try.ntmps4
  go_wp2_with fail
  refine HA.out.mono ?_
  rintro e w1 ⟨⟨m, rfl, hm⟩, hb1⟩
  go_wp2_with fail
  refine (HB.out _ (Ints.below HIB.out hb1)).mono ?_
  rintro e w2 ⟨⟨n, rfl, hn⟩, hb2⟩
  have s2 := below6 hb1 hb2
  have om := okn60 hm
  have on := okn60 hn
  have F1 := Lib.hid (same_add om on (okadd60 hm hn))
  have F2 := Lib.hid (same_sub om on)
  have F3 := Lib.hid (same_mul om on (okmul60 hm hn))
  have F4 := Lib.hid (same_div om on)
  have F5 := Lib.hid (same_gcd om on)
  have F6 := Lib.hid (fun w => natcmp_yes m n w om on)
  have F7 := Lib.hid (fun w => natcmp_ref m n w om on)
  clear HA HB HIB hb1 hb2 hm hn om on
  obtain ⟨u2, z2, F2⟩ := F2.out
  obtain ⟨u4, v4, z4, F4⟩ := F4.out
  have F2 := Lib.hid F2
  have F4 := Lib.hid F4
  generalize S (m + n) = u1 at F1
  generalize S (m * n) = u3 at F3
  generalize S (Nat.gcd m n) = u5 at F5
  generalize cmpI m n = ci at F6 F7
  generalize S m = sm at *
  generalize S n = sn at *
  go_wp2_with fail
  refine (F1.out.1 _).mono ?_
  rintro e w3 ⟨rfl, hb3⟩
  have s3 := below6 s2 hb3
  go_wp2_with fail
  refine (F2.out.1 _).mono ?_
  rintro e w4 ⟨rfl, hb4⟩
  have s4 := below6 s3 hb4
  go_wp2_with fail
  refine (F3.out.1 _).mono ?_
  rintro e w5 ⟨rfl, hb5⟩
  have s5 := below6 s4 hb5
  go_wp2_with fail
  refine (F4.out.1 _).mono ?_
  rintro e w6 ⟨rfl, hb6⟩
  have s6 := below6 s5 hb6
  go_wp2_with fail
  refine (F5.out.1 _).mono ?_
  rintro e w7 ⟨rfl, hb7⟩
  have s7 := below6 s6 hb7
  clear hb3 hb4 hb5 hb6 hb7 s3 s4 s5 s6
  go_wp2_with fail
  refine (F1.out.2 _).mono ?_
  rintro e w3 ⟨rfl, hb3⟩
  have s3 := below6 s7 hb3
  go_wp2_with fail
  refine (F2.out.2 _).mono ?_
  rintro e w4 ⟨rfl, hb4⟩
  have s4 := below6 s3 hb4
  go_wp2_with fail
  refine (F3.out.2 _).mono ?_
  rintro e w5 ⟨rfl, hb5⟩
  have s5 := below6 s4 hb5
  go_wp2_with fail
  refine (F4.out.2 _).mono ?_
  rintro e w6 ⟨rfl, hb6⟩
  have s6 := below6 s5 hb6
  go_wp2_with fail
  refine (F5.out.2 _).mono ?_
  rintro e w7 ⟨rfl, hb7⟩
  have s8 := below6 s6 hb7
  clear hb3 hb4 hb5 hb6 hb7 s3 s4 s5 s6
  go_wp2_with fail
  refine (F6.out _).mono ?_
  rintro e w8 ⟨rfl, rfl⟩
  go_wp2_with fail
  refine (F7.out _).mono ?_
  rintro e w8 ⟨rfl, hb8⟩
  have s9 := below6 s8 hb8
  clear hb8 s8
  go_wp2_with fail
  refine (known_any _).mono ?_
  rintro e w9 ⟨rfl, hb9⟩
  go_wp2
  go_ret
  exact ⟨rfl, below6 s9 hb9⟩
end Go.Proofs.Ytofijnhkoadfjaa
