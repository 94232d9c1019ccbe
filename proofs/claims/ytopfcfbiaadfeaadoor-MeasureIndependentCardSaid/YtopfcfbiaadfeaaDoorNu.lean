/- Texts of numbers: both, text, the operations on texts. -/
import Derived.Test.YtopfcfbiaadfeaaDoorNt
namespace Go.Proofs.YtopfcfbiaadfeaaDoor
set_option linter.unusedSimpArgs false
set_option linter.unusedVariables false
set_option linter.unusedSectionVars false
open Go.RowKit Dg

/-- A number whose text is not too long. -/
def OkN (n : Nat) : Prop := (dec n).length ≤ 20000
theorem dw_dec (n : Nat) : (dw n).length ≤ (dec n).length := by
  refine dg_le b32 (Nat.lt_of_lt_of_le (dec_lt n) (Nat.pow_le_pow_left (by decide) _))
theorem OkN.vld {n : Nat} (h : OkN n) : VLD (S n) := vld_S h
theorem OkN.dw {n : Nat} (h : OkN n) : (dw n).length ≤ 20000 := Nat.le_trans (dw_dec n) h
theorem blen_dec {n k : Nat} (h : (dec n).length ≤ k) : blen n ≤ 4 * k := by
  refine dg_le (Nat.le_refl 2) (Nat.lt_of_lt_of_le (dec_lt n) (Nat.le_trans (Nat.pow_le_pow_right (by decide) h) (pow16 k)))
theorem S_ne_0 {n : Nat} (h : 0 < n) : S n ≠ S 0 := fun e => by have := S_inj e; omega

theorem parse_S (n : Nat) (w : World) (h : OkN n) : Calls Tryd.prog 46 #[.string (S n)] w fun e w' => ∃ v, e = .returned v ∧ NatV w' v n ∧ Below w.heap.size w w' := by
  have := parse_any (S n) (dec n) w (S_list n) (dec_dig n) (by unfold OkN at h; omega)
  rwa [num_dec] at this

theorem both_yes (m n : Nat) (w : World) (hm : OkN m) (hn : OkN n) :
    Calls Tryd.prog 63 #[.string (S m), .string (S n)] w fun e w' => ∃ v1 v2, e = .returned (.tuple #[v1, v2, .bool true]) ∧ NatV w' v1 m ∧ NatV w' v2 n ∧ Below w.heap.size w w' := by
  have H1 := Lib.hid (fun w => valid_yes w hm.vld)
  have H2 := Lib.hid (fun w => valid_yes w hn.vld)
  have P1 := Lib.hid (fun w => parse_S m w hm)
  have P2 := Lib.hid (fun w => parse_S n w hn)
  clear hm hn
  generalize S m = s at H1 P1 ⊢
  generalize S n = t at H2 P2 ⊢
  go_enter Tryd.func63, Tryd.ntmps63
  go_wp2_with fail
  refine (H1.out _).mono ?_
  rintro e w1 ⟨rfl, rfl⟩
  go_wp2_with fail
  refine (H2.out _).mono ?_
  rintro e w1 ⟨rfl, rfl⟩
  go_wp2_with fail
  refine (P1.out _).mono ?_
  rintro e w1 ⟨v1, rfl, hv1, hb1⟩
  go_wp2_with fail
  refine (P2.out _).mono ?_
  rintro e w2 ⟨v2, rfl, hv2, hb2⟩
  have hv1' := hv1.below hb2
  go_wp2
  go_ret3
  exact ⟨v1, v2, rfl, hv1', hv2, hb1.trans (hb2.mono hb1.size)⟩
theorem both_no (s t : ByteArray) (w : World) (hs : s.size ≤ maxLen) (ht : t.size ≤ maxLen) (h : ¬ (VLD s ∧ VLD t)) :
    Calls Tryd.prog 63 #[.string s, .string t] w fun e w' => e = .returned (.tuple #[.slice none 0 0, .slice none 0 0, .bool false]) ∧ w = w' := by
  by_cases h1 : VLD s
  · have h2 : ¬ VLD t := fun e => h ⟨h1, e⟩
    have H1 := Lib.hid (valid_yes w h1)
    have H2 := Lib.hid (valid_no w ht h2)
    clear h h1 h2 hs ht
    go_enter Tryd.func63, Tryd.ntmps63
    go_wp2_with fail
    refine H1.out.mono ?_
    rintro e w1 ⟨rfl, rfl⟩
    go_wp2_with fail
    refine H2.out.mono ?_
    rintro e w1 ⟨rfl, rfl⟩
    go_wp2
    go_ret3
    exact ⟨rfl, rfl⟩
  · have H1 := Lib.hid (valid_no w hs h1)
    clear h h1 hs ht
    go_enter Tryd.func63, Tryd.ntmps63
    go_wp2_with fail
    refine H1.out.mono ?_
    rintro e w1 ⟨rfl, rfl⟩
    go_wp2
    go_ret3
    exact ⟨rfl, rfl⟩

/-- What text returns. -/
def TextRes (n : Nat) (e : Ending) : Prop := (OkN n ∧ e = .returned (.tuple #[.string (S n), .int .i64 0])) ∨ (¬ OkN n ∧ e = .returned (.tuple #[.string ⟨#[]⟩, .int .i64 2]))
theorem TextRes.ok {n : Nat} {e : Ending} (h : TextRes n e) (hn : OkN n) : e = .returned (.tuple #[.string (S n), .int .i64 0]) := by
  rcases h with h | h
  · exact h.2
  · exact absurd hn h.1
theorem TextRes.big {n : Nat} {e : Ending} (h : TextRes n e) (hn : ¬ OkN n) : e = .returned (.tuple #[.string ⟨#[]⟩, .int .i64 2]) := by
  rcases h with h | h
  · exact absurd h.1 hn
  · exact h.2
theorem text_any {v : Value} {n : Nat} (w : World) (hv : NatV w v n) (hl : (dw n).length ≤ 1048000) :
    Calls Tryd.prog 52 #[v] w fun e w' => TextRes n e ∧ Below w.heap.size w w' := by
  have HB := Lib.hid (bits_any w hv (by omega))
  have HS := Lib.hid (string_any w hv hl)
  clear hv
  by_cases hb : 80000 < blen n
  · have hno : Hid (¬ OkN n) := fun h => by have := blen_dec h; omega
    have d1 : decide ((80000 : Int) < (blen n : Int)) = true := decide_eq_true (by omega)
    have d2 : decide (80000 < blen n) = true := decide_eq_true hb
    clear hb
    go_enter Tryd.func52, Tryd.ntmps52
    go_wp2_with fail
    refine HB.out.mono ?_
    rintro e w1 ⟨rfl, rfl⟩
    go_wp2
    go_ret2
    exact ⟨.inr ⟨hno.out, rfl⟩, Below.refl _ _⟩
  · have d1 : decide ((80000 : Int) < (blen n : Int)) = false := decide_eq_false (by omega)
    have d2 : decide (80000 < blen n) = false := decide_eq_false hb
    have hsz := S_size n
    clear hb
    by_cases hok : OkN n
    · have hok1 : (S n).size ≤ 20000 := by rw [hsz]; exact hok
      have d3 : decide ((20000 : Int) < ((S n).size : Int)) = false := decide_eq_false (by omega)
      have d4 : decide (20000 < (S n).size) = false := decide_eq_false (by omega)
      have hok' := Lib.hid hok
      clear hok hsz
      go_enter Tryd.func52, Tryd.ntmps52
      go_wp2_with fail
      refine HB.out.mono ?_
      rintro e w1 ⟨rfl, rfl⟩
      go_wp2_with fail
      refine HS.out.mono ?_
      rintro e w1 ⟨rfl, hb1⟩
      go_wp2
      go_ret2
      exact ⟨.inl ⟨hok'.out, rfl⟩, hb1⟩
    · have hok1 : 20000 < (S n).size := by rw [hsz]; unfold OkN at hok; omega
      have d3 : decide ((20000 : Int) < ((S n).size : Int)) = true := decide_eq_true (by omega)
      have d4 : decide (20000 < (S n).size) = true := decide_eq_true hok1
      have hok' := Lib.hid hok
      clear hok hsz hok1
      go_enter Tryd.func52, Tryd.ntmps52
      go_wp2_with fail
      refine HB.out.mono ?_
      rintro e w1 ⟨rfl, rfl⟩
      go_wp2_with fail
      refine HS.out.mono ?_
      rintro e w1 ⟨rfl, hb1⟩
      go_wp2
      go_ret2
      exact ⟨.inr ⟨hok'.out, rfl⟩, hb1⟩

set_option maxRecDepth 100000 in
theorem operate_mul (R : Nat) (m n : Nat) (w : World) (hm : OkN m) (hn : OkN n) (hR : (dw R).length ≤ 1048000)
    (hf : ∀ v1 v2 w, NatV w v1 m → NatV w v2 n → Calls Tryd.prog 29 #[v1, v2] w fun e w' => ∃ v, e = .returned v ∧ NatV w' v R ∧ Below w.heap.size w w') :
    Calls Tryd.prog 89 #[.string (S m), .string (S n), .func (.func 29) #[] #[]] w fun e w' => TextRes R e ∧ Below w.heap.size w w' := by
  have HB := Lib.hid (both_yes m n w hm hn)
  have HF := Lib.hid hf
  clear hf
  generalize S m = s at HB ⊢
  generalize S n = t at HB ⊢
  go_enter Tryd.func89, Tryd.ntmps89
  go_wp2_with fail
  refine HB.out.mono ?_
  rintro e w1 ⟨v1, v2, rfl, hv1, hv2, hb1⟩
  go_wp2_with fail
  refine (HF.out _ _ _ hv1 hv2).mono ?_
  rintro e w2 ⟨v, rfl, hv, hb2⟩
  go_wp2_with fail
  refine (text_any _ hv hR).mono ?_
  rintro e w3 ⟨htx, hb3⟩
  have hbt := (hb1.trans (hb2.mono hb1.size)).trans (hb3.mono (Nat.le_trans hb1.size hb2.size))
  rcases htx with ⟨h, rfl⟩ | ⟨h, rfl⟩
  · have hh := Lib.hid h
    clear h
    go_wp2
    go_ret2
    exact ⟨.inl ⟨hh.out, rfl⟩, hbt⟩
  · have hh := Lib.hid h
    clear h
    go_wp2
    go_ret2
    exact ⟨.inr ⟨hh.out, rfl⟩, hbt⟩
set_option maxRecDepth 100000 in
theorem operate_add (R : Nat) (m n : Nat) (w : World) (hm : OkN m) (hn : OkN n) (hR : (dw R).length ≤ 1048000)
    (hf : ∀ v1 v2 w, NatV w v1 m → NatV w v2 n → Calls Tryd.prog 47 #[v1, v2] w fun e w' => ∃ v, e = .returned v ∧ NatV w' v R ∧ Below w.heap.size w w') :
    Calls Tryd.prog 89 #[.string (S m), .string (S n), .func (.func 47) #[] #[]] w fun e w' => TextRes R e ∧ Below w.heap.size w w' := by
  have HB := Lib.hid (both_yes m n w hm hn)
  have HF := Lib.hid hf
  clear hf
  generalize S m = s at HB ⊢
  generalize S n = t at HB ⊢
  go_enter Tryd.func89, Tryd.ntmps89
  go_wp2_with fail
  refine HB.out.mono ?_
  rintro e w1 ⟨v1, v2, rfl, hv1, hv2, hb1⟩
  go_wp2_with fail
  refine (HF.out _ _ _ hv1 hv2).mono ?_
  rintro e w2 ⟨v, rfl, hv, hb2⟩
  go_wp2_with fail
  refine (text_any _ hv hR).mono ?_
  rintro e w3 ⟨htx, hb3⟩
  have hbt := (hb1.trans (hb2.mono hb1.size)).trans (hb3.mono (Nat.le_trans hb1.size hb2.size))
  rcases htx with ⟨h, rfl⟩ | ⟨h, rfl⟩
  · have hh := Lib.hid h
    clear h
    go_wp2
    go_ret2
    exact ⟨.inl ⟨hh.out, rfl⟩, hbt⟩
  · have hh := Lib.hid h
    clear h
    go_wp2
    go_ret2
    exact ⟨.inr ⟨hh.out, rfl⟩, hbt⟩
set_option maxRecDepth 100000 in
theorem operate_gcd (R : Nat) (m n : Nat) (w : World) (hm : OkN m) (hn : OkN n) (hR : (dw R).length ≤ 1048000)
    (hf : ∀ v1 v2 w, NatV w v1 m → NatV w v2 n → Calls Tryd.prog 50 #[v1, v2] w fun e w' => ∃ v, e = .returned v ∧ NatV w' v R ∧ Below w.heap.size w w') :
    Calls Tryd.prog 89 #[.string (S m), .string (S n), .func (.func 50) #[] #[]] w fun e w' => TextRes R e ∧ Below w.heap.size w w' := by
  have HB := Lib.hid (both_yes m n w hm hn)
  have HF := Lib.hid hf
  clear hf
  generalize S m = s at HB ⊢
  generalize S n = t at HB ⊢
  go_enter Tryd.func89, Tryd.ntmps89
  go_wp2_with fail
  refine HB.out.mono ?_
  rintro e w1 ⟨v1, v2, rfl, hv1, hv2, hb1⟩
  go_wp2_with fail
  refine (HF.out _ _ _ hv1 hv2).mono ?_
  rintro e w2 ⟨v, rfl, hv, hb2⟩
  go_wp2_with fail
  refine (text_any _ hv hR).mono ?_
  rintro e w3 ⟨htx, hb3⟩
  have hbt := (hb1.trans (hb2.mono hb1.size)).trans (hb3.mono (Nat.le_trans hb1.size hb2.size))
  rcases htx with ⟨h, rfl⟩ | ⟨h, rfl⟩
  · have hh := Lib.hid h
    clear h
    go_wp2
    go_ret2
    exact ⟨.inl ⟨hh.out, rfl⟩, hbt⟩
  · have hh := Lib.hid h
    clear h
    go_wp2
    go_ret2
    exact ⟨.inr ⟨hh.out, rfl⟩, hbt⟩
theorem operate_no (f : FuncId) (s t : ByteArray) (w : World) (hs : s.size ≤ maxLen) (ht : t.size ≤ maxLen) (h : ¬ (VLD s ∧ VLD t)) :
    Calls Tryd.prog 89 #[.string s, .string t, .func (.func f) #[] #[]] w fun e w' => e = .returned (.tuple #[.string ⟨#[]⟩, .int .i64 1]) ∧ w = w' := by
  have HB := Lib.hid (both_no s t w hs ht h)
  clear h hs ht
  go_enter Tryd.func89, Tryd.ntmps89
  go_wp2_with fail
  refine HB.out.mono ?_
  rintro e w1 ⟨rfl, rfl⟩
  go_wp2
  go_ret2
  exact ⟨rfl, rfl⟩
theorem dw_add (m n : Nat) : (dw (m + n)).length ≤ max (dw m).length (dw n).length + 1 := dg_add_len b32 m n
theorem dw_mul (m n : Nat) : (dw (m * n)).length ≤ (dw m).length + (dw n).length := dg_mul_len b32 m n
theorem natmul_yes (m n : Nat) (w : World) (hm : OkN m) (hn : OkN n) :
    Calls Tryd.prog 71 #[.string (S m), .string (S n)] w fun e w' => TextRes (m * n) e ∧ Below w.heap.size w w' := by
  have h1 := hm.dw
  have h2 := hn.dw
  have h3 := dw_mul m n
  have HO := Lib.hid (operate_mul (m * n) m n w hm hn (by omega) fun v1 v2 w a b => mul_any w a b (by omega) (by omega))
  clear h1 h2 h3 hm hn
  go_enter Tryd.func71, Tryd.ntmps71
  go_wp2_with fail
  refine HO.out.mono ?_
  rintro e w3 ⟨htx, hb⟩
  rcases htx with ⟨h, rfl⟩ | ⟨h, rfl⟩
  all_goals
    have hh := Lib.hid h
    clear h
    go_wp2
    go_ret2
    first | exact ⟨.inl ⟨hh.out, rfl⟩, hb⟩ | exact ⟨.inr ⟨hh.out, rfl⟩, hb⟩
theorem dw_len_pos {n : Nat} (h : 0 < n) : 0 < (dw n).length := List.length_pos_iff.2 fun e => by have := (dg_nil b32).1 e; omega
theorem cmpI_add (a m n : Nat) : cmpI m n = cmpI (a + m) (a + n) := by
  rcases Nat.lt_trichotomy m n with h | h | h
  · rw [cmpI_lt h, cmpI_lt (by omega)]
  · rw [cmpI_eq h, cmpI_eq (by omega)]
  · rw [cmpI_gt h, cmpI_gt (by omega)]
end Go.Proofs.YtopfcfbiaadfeaaDoor
