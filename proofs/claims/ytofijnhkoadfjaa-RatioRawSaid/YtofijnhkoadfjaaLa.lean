/- The law that a is the quotient times b plus the remainder: it returns true and leaves all memory as it was. -/
import Derived.Test.YtofijnhkoadfjaaNm
namespace Go.Proofs.Ytofijnhkoadfjaa
set_option linter.unusedSimpArgs false
set_option linter.unusedVariables false
set_option linter.unusedSectionVars false
open Go.RowKit Dg

def Holds (w : World) (e : Ending) (w' : World) : Prop := e = .returned (.bool true) ∧ Below w.heap.size w w'
theorem OkN.mono {m n : Nat} (h : OkN n) (hmn : m ≤ n) : OkN m := by
  unfold OkN at *
  rcases Nat.lt_or_ge (dec n).length (dec m).length with h1 | h1
  · have := dec_lt_of_len h1; omega
  · omega
theorem okn60 {n : Nat} (h : (dec n).length ≤ 60) : OkN n := by unfold OkN; omega
theorem below6 {w w1 w2 : World} (h1 : Below w.heap.size w w1) (h2 : Below w1.heap.size w1 w2) : Below w.heap.size w w2 := h1.trans (h2.mono h1.size)
theorem okS_0 : S 0 = ⟨#[48]⟩ := rfl
theorem str_ne {s : ByteArray} (h : s ≠ ⟨#[48]⟩) : (s.toList == [48]) = false := by
  rw [beq_eq_false_iff_ne]
  intro e
  apply h
  apply ba_ext
  rw [← ByteArray.toList_eq, e]
/-- Ints of the kind's width. -/
def Wide (l : List Int) : Prop := ∀ x ∈ l, -9223372036854775808 ≤ x ∧ x ≤ 9223372036854775807

set_option maxHeartbeats 1000000 in
theorem law_divides (A : Option Addr) (l : List Int) (c : Nat) (B : Option Addr) (k : List Int) (d : Nat) (w : World) (hA : Ints w A l) (hl : l.length ≤ c) (hc : c ≤ maxLen) (hw : Wide l) (hB : Ints w B k) (hk : k.length ≤ d) (hd : d ≤ maxLen) (hv : Wide k) :
    Calls Try.prog 3 #[.slice A l.length c, .slice B k.length d] w (Holds w) := by
  have HA := Lib.hid (lawnat_any A l c w hA hl hc hw)
  have HB : Hid (∀ w, Ints w B k → Calls Try.prog 9 #[.slice B k.length d] w fun e w' => (∃ n, e = .returned (.string (S n)) ∧ (dec n).length ≤ 60) ∧ Below w.heap.size w w') := fun w h => lawnat_any B k d w h hk hd hv
  have HIB : Hid (Ints w B k) := hB
  clear hA hB hw hv
  go_enter Try.func3, Try.ntmps3
  go_wp2_with fail
  refine HA.out.mono ?_
  rintro e w1 ⟨⟨m, rfl, hm⟩, hb1⟩
  go_wp2_with fail
  refine (HB.out _ (Ints.below HIB.out hb1)).mono ?_
  rintro e w2 ⟨⟨n, rfl, hn⟩, hb2⟩
  have s2 := below6 hb1 hb2
  have om := okn60 hm
  have on := okn60 hn
  clear HA HB HIB hb1 hb2 hm hn
  rcases Nat.eq_zero_or_pos n with rfl | hn0
  · have HD := Lib.hid (natdiv_zero m w2 om)
    rw [okS_0] at HD ⊢
    clear om on
    go_wp2_with fail
    refine HD.out.mono ?_
    rintro e w3 ⟨rfl, hb3⟩
    have s3 := below6 s2 hb3
    go_wp2_with fail
    refine (known_any _).mono ?_
    rintro e w4 ⟨rfl, hb4⟩
    go_wp2
    go_ret
    exact ⟨rfl, below6 s3 hb4⟩
  · have hqn : m / n * n ≤ m := Nat.div_mul_le_self m n
    have oq : OkN (m / n) := om.mono (Nat.div_le_self m n)
    have hrn : m % n < n := Nat.mod_lt m hn0
    have or_ : OkN (m % n) := on.mono (Nat.le_of_lt hrn)
    have op : OkN (m / n * n) := om.mono hqn
    have hsum : m / n * n + m % n = m := by rw [Nat.mul_comm]; exact Nat.div_add_mod m n
    have HD := Lib.hid (natdiv_yes m n w2 om on hn0)
    have HM := Lib.hid (fun w => natmul_yes (m / n) n w oq on)
    have HP : Hid (∀ w, Calls Try.prog 13 #[.string (S (m / n * n)), .string (S (m % n))] w fun e w' => e = .returned (.tuple #[.string (S m), .int .i64 0]) ∧ Below w.heap.size w w') := by
      intro w
      have := natadd_yes (m / n * n) (m % n) w op or_
      rw [hsum] at this
      exact this.mono fun e w' ⟨h, hb⟩ => ⟨h.ok om, hb⟩
    have HM2 : Hid (∀ w, Calls Try.prog 12 #[.string (S (m / n)), .string (S n)] w fun e w' => e = .returned (.tuple #[.string (S (m / n * n)), .int .i64 0]) ∧ Below w.heap.size w w') :=
      fun w => (HM.out w).mono fun e w' ⟨h, hb⟩ => ⟨h.ok op, hb⟩
    have HC : Hid (∀ w, Calls Try.prog 14 #[.string (S (m % n)), .string (S n)] w fun e w' => e = .returned (.int .i64 (-1)) ∧ w = w') := by
      intro w
      have := natcmp_yes (m % n) n w or_ on
      rw [cmpI_lt hrn] at this
      exact this
    have hne : S n ≠ ⟨#[48]⟩ := by rw [← okS_0]; exact S_ne_0 hn0
    have hb0 : ((S n).toList == [48]) = false := str_ne hne
    clear HM om on oq or_ op hsum hqn hrn hn0 hne
    generalize S (m / n) = sq at HD HM2
    generalize S (m % n) = sr at HD HP HC
    generalize S (m / n * n) = sp at HM2 HP
    generalize S m = sm at HD HP ⊢
    generalize S n = sn at HD HM2 HC hb0 ⊢
    go_wp2_with fail
    refine HD.out.mono ?_
    rintro e w3 ⟨rfl, hb3⟩
    have s3 := below6 s2 hb3
    go_wp2_with fail
    refine (HM2.out _).mono ?_
    rintro e w4 ⟨rfl, hb4⟩
    have s4 := below6 s3 hb4
    go_wp2_with fail
    refine (HP.out _).mono ?_
    rintro e w5 ⟨rfl, hb5⟩
    have s5 := below6 s4 hb5
    go_wp2_with fail
    refine (HC.out _).mono ?_
    rintro e w6 ⟨rfl, rfl⟩
    go_wp2_with fail
    refine (known_any _).mono ?_
    rintro e w7 ⟨rfl, hb7⟩
    go_wp2
    go_ret
    exact ⟨rfl, below6 s5 hb7⟩
end Go.Proofs.Ytofijnhkoadfjaa
