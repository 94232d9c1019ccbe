/- Natural numbers as decimal digits. No program in sight. -/
import Derived.Test.YtofijnhkoadfjaaDg
namespace Go.Proofs.Ytofijnhkoadfjaa
set_option linter.unusedSimpArgs false
set_option linter.unusedVariables false
set_option linter.unusedSectionVars false
namespace Dg
/-- The number that digits say, the most significant first. -/
def num (l : List Nat) : Nat := l.foldl (fun a d => 10 * a + d) 0
theorem num_foldl (l : List Nat) (a : Nat) : l.foldl (fun a d => 10 * a + d) a = a * 10 ^ l.length + num l := by
  induction l generalizing a with
  | nil => simp [num]
  | cons x r ih =>
    show r.foldl (fun a d => 10 * a + d) (10 * a + x) = a * 10 ^ (r.length + 1) + r.foldl (fun a d => 10 * a + d) (10 * 0 + x)
    rw [ih, ih (10 * 0 + x), Nat.pow_succ, Nat.add_mul, Nat.mul_zero, Nat.zero_add, Nat.mul_comm 10 a, Nat.mul_assoc, Nat.mul_comm 10]
    omega
theorem num_append (l m : List Nat) : num (l ++ m) = num l * 10 ^ m.length + num m := by
  show (l ++ m).foldl _ 0 = _
  rw [List.foldl_append, num_foldl]; rfl
theorem num_snoc (l : List Nat) (d : Nat) : num (l ++ [d]) = 10 * num l + d := by
  rw [num_append]; simp [num]; omega
theorem num_reverse (l : List Nat) : num l.reverse = val 10 l := by
  induction l with
  | nil => rfl
  | cons x r ih =>
    rw [List.reverse_cons, num_snoc, ih]
    show 10 * val 10 r + x = x + 10 * val 10 r
    omega
theorem b10 : 2 ≤ 10 := by decide
/-- The decimal digits, the most significant first. -/
def dec (n : Nat) : List Nat := if n = 0 then [0] else (dg 10 n).reverse
theorem num_dec (n : Nat) : num (dec n) = n := by
  unfold dec
  split
  · rename_i h; subst h; rfl
  · rw [num_reverse, val_dg b10]
theorem dec_dig (n : Nat) : ∀ d ∈ dec n, d < 10 := by
  intro d hd
  unfold dec at hd
  split at hd
  · rw [List.mem_singleton.1 hd]; decide
  · exact dig_dg b10 n d (List.mem_reverse.1 hd)
theorem dec_pos (n : Nat) : 0 < (dec n).length := by
  unfold dec
  split
  · decide
  · rename_i h
    rw [List.length_reverse]
    exact List.length_pos_iff.2 fun e => h ((dg_nil b10).1 e)
/-- Digits as a valid text has them. -/
def Txt (l : List Nat) : Prop := (∀ d ∈ l, d < 10) ∧ 0 < l.length ∧ (1 < l.length → l.head? ≠ some 0)
theorem txt_dec (n : Nat) : Txt (dec n) := by
  refine ⟨dec_dig n, dec_pos n, fun h => ?_⟩
  unfold dec at h ⊢
  split at h
  · simp at h
  · rename_i hn
    rw [if_neg hn, List.head?_reverse]
    intro e
    rw [List.length_reverse] at h
    obtain ⟨k, hk⟩ : ∃ k, (dg 10 n).length = k + 1 := ⟨(dg 10 n).length - 1, by omega⟩
    have h2 := dg_last b10 hk
    rw [List.getLast?_eq_getElem?, hk] at e
    simp only [Nat.add_sub_cancel] at e
    rw [List.getElem?_eq_getElem (by omega)] at e
    injection e with e
    exact h2 e
theorem dec_num {l : List Nat} (h : Txt l) : dec (num l) = l := by
  obtain ⟨h1, h2, h3⟩ := h
  have hr : num l = val 10 l.reverse := by rw [← num_reverse, List.reverse_reverse]
  have hd : Dig 10 l.reverse := fun x hx => h1 x (List.mem_reverse.1 hx)
  have hc := cut_eq b10 hd
  rw [← hr] at hc
  match l, h2, h3 with
  | [x], _, _ =>
    have hx := h1 x (by simp)
    by_cases h0 : x = 0
    · subst h0; rfl
    · have e : num [x] = x := by simp [num]
      unfold dec
      rw [e, if_neg h0, dg_pos b10 (by omega), Nat.mod_eq_of_lt hx, Nat.div_eq_of_lt hx, dg_zero]; rfl
  | x :: y :: r, _, h3 =>
    have hx : x ≠ 0 := fun e => h3 (by simp) (by simp [e])
    have e : (x :: y :: r).reverse = (y :: r).reverse ++ [x] := List.reverse_cons
    rw [e, cut_snoc hx] at hc
    unfold dec
    rw [← hc, if_neg]
    · simp
    · intro h0
      rw [h0, dg_zero] at hc
      simp at hc
theorem dec_len_le {n k : Nat} (hk : 0 < k) (h : n < 10 ^ k) : (dec n).length ≤ k := by
  unfold dec
  split
  · exact hk
  · rw [List.length_reverse]; exact dg_le b10 h
theorem dec_lt (n : Nat) : n < 10 ^ (dec n).length := by
  unfold dec
  split
  · rename_i h; subst h; decide
  · rw [List.length_reverse]; exact dg_lt b10 n
theorem dec_inj {m n : Nat} (h : dec m = dec n) : m = n := by rw [← num_dec m, h, num_dec]
/-- A longer text is a greater number. -/
theorem dec_lt_of_len {m n : Nat} (h : (dec m).length < (dec n).length) : m < n := by
  have h1 := dec_lt m
  rcases Nat.lt_or_ge m n with h2 | h2
  · exact h2
  · exfalso
    have := dec_len_le (n := n) (k := (dec m).length) (dec_pos m) (by omega)
    omega
theorem pow16 (k : Nat) : 10 ^ k ≤ 2 ^ (4 * k) := by
  rw [Nat.pow_mul]
  exact Nat.pow_le_pow_left (by decide) k
theorem num_lt {l : List Nat} (h : ∀ d ∈ l, d < 10) : num l < 10 ^ l.length := by
  have hd : Dig 10 l.reverse := fun x hx => h x (List.mem_reverse.1 hx)
  have := val_lt (by decide : 0 < 10) hd
  rwa [← num_reverse, List.reverse_reverse, List.length_reverse] at this
/-- Texts of one length, alike before k, differ as their digits at k. -/
theorem num_cmp {l m : List Nat} {k : Nat} (hl : k < l.length) (hm : k < m.length) (hlen : l.length = m.length) (dl : ∀ d ∈ l, d < 10) (h : l.take k = m.take k) (hlt : l[k] < m[k]) : num l < num m := by
  have e1 : l = l.take k ++ (l[k] :: l.drop (k + 1)) := by rw [← List.drop_eq_getElem_cons hl, List.take_append_drop]
  have e2 : m = m.take k ++ (m[k] :: m.drop (k + 1)) := by rw [← List.drop_eq_getElem_cons hm, List.take_append_drop]
  have c1 : ∀ (x : Nat) (r : List Nat), num (x :: r) = x * 10 ^ r.length + num r := by
    intro x r
    have := num_append [x] r
    have e : num [x] = x := by simp [num]
    rw [e] at this
    exact this
  have v1 : num l = num (l.take k) * 10 ^ (l.drop k).length + (l[k] * 10 ^ (l.drop (k + 1)).length + num (l.drop (k + 1))) := by
    conv => lhs; rw [e1]
    rw [num_append, ← List.drop_eq_getElem_cons hl, List.drop_eq_getElem_cons hl, c1, ← List.drop_eq_getElem_cons hl]
  have v2 : num m = num (m.take k) * 10 ^ (m.drop k).length + (m[k] * 10 ^ (m.drop (k + 1)).length + num (m.drop (k + 1))) := by
    conv => lhs; rw [e2]
    rw [num_append, ← List.drop_eq_getElem_cons hm, List.drop_eq_getElem_cons hm, c1, ← List.drop_eq_getElem_cons hm]
  have d1 : num (l.drop (k + 1)) < 10 ^ (l.drop (k + 1)).length := num_lt fun d hd => dl d (List.mem_of_mem_drop hd)
  have l1 : (l.drop k).length = (m.drop k).length := by simp [hlen]
  have l2 : (l.drop (k + 1)).length = (m.drop (k + 1)).length := by simp [hlen]
  rw [v1, v2, h, l1]
  rw [l2] at d1 ⊢
  have := Nat.mul_le_mul_right (10 ^ (m.drop (k + 1)).length) (show l[k] + 1 ≤ m[k] by omega)
  rw [Nat.add_mul, Nat.one_mul] at this
  omega
theorem canon {b : Nat} (hb : 2 ≤ b) {l : List Nat} (hd : Dig b l) (h : l.length ≤ (dg b (val b l)).length) : l = dg b (val b l) := by
  have h1 := cut_eq hb hd
  have h2 := cut_take l
  rw [h1, List.take_of_length_le h] at h2
  exact h2.symm
end Dg
end Go.Proofs.Ytofijnhkoadfjaa
