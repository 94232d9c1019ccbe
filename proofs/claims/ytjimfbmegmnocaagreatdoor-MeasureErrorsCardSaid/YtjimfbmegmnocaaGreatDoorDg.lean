/- Parts of the proof: Dg. No condition of its own. -/
import Derived.WalkKit
set_option linter.unusedSimpArgs false
set_option linter.unusedVariables false
namespace Go.Proofs.YtjimfbmegmnocaaGreatDoor
namespace Dg
def val (b : Nat) : List Nat -> Nat
 | [] => 0
 | x :: l => x + b * val b l
def Dig (b : Nat) (l : List Nat) : Prop := ∀ x ∈ l, x < b
def cut (l : List Nat) : List Nat := match l with
 | [] => []
 | x :: r => match cut r with
  | [] => if x = 0 then [] else [x]
  | y :: s => x :: y :: s
theorem cut_cons (x : Nat) (r : List Nat) : cut (x :: r) = if cut r = [] /\ x = 0 then [] else x :: cut r := by
 show (match cut r with | [] => if x = 0 then [] else [x] | y :: s => x :: y :: s) = _
 cases h : cut r with
 | nil => by_cases hx : x = 0 <;> simp [hx]
 | cons y s => simp
def dgF (b : Nat) : Nat -> Nat -> List Nat
 | 0, _ => []
 | f + 1, n => if n = 0 then [] else n % b :: dgF b f (n / b)
def dg (b n : Nat) : List Nat := dgF b n n
variable {b : Nat}
theorem dgF_eq (hb : 2 <= b) : ∀ (f g n : Nat), n <= f -> n <= g -> dgF b f n = dgF b g n := by
 intro f
 induction f with
 | zero => intro g n h _; have : n = 0 := by omega
           subst this; cases g <;> rfl
 | succ f ih =>
  intro g n h1 h2
  cases g with
  | zero => have : n = 0 := by omega
            subst this; rfl
  | succ g =>
   show (if n = 0 then [] else n % b :: dgF b f (n / b)) = (if n = 0 then [] else n % b :: dgF b g (n / b))
   by_cases hn : n = 0
   ·simp [hn]
   ·rw [if_neg hn, if_neg hn]; have : n / b < n := Nat.div_lt_self (by omega) (by omega); rw [ih g (n / b) (by omega) (by omega)]
theorem dg_zero (b : Nat) : dg b 0 = [] := rfl
theorem dg_pos (hb : 2 <= b) {n : Nat} (hn : 0 < n) : dg b n = n % b :: dg b (n / b) := by
 unfold dg
 cases n with
 | zero => omega
 | succ m =>
  have h1 : (m + 1) / b < m + 1 := Nat.div_lt_self (by omega) (by omega)
  show (if m + 1 = 0 then [] else (m + 1) % b :: dgF b m ((m + 1) / b)) = _
  rw [if_neg (by omega), dgF_eq hb m ((m + 1) / b) _ (by omega) (Nat.le_refl _)]
theorem val_dg (hb : 2 <= b) (n : Nat) : val b (dg b n) = n := by
 induction n using Nat.strongRecOn with
 | _ n ih =>
  rcases Nat.eq_zero_or_pos n with h | h
  ·subst h; rfl
  ·rw [dg_pos hb h]
   show n % b + b * val b (dg b (n / b)) = n
   rw [ih _ (Nat.div_lt_self h (by omega))]; exact Nat.mod_add_div n b
theorem dig_dg (hb : 2 <= b) (n : Nat) : Dig b (dg b n) := by
 induction n using Nat.strongRecOn with
 | _ n ih =>
  rcases Nat.eq_zero_or_pos n with h | h
  ·subst h; intro x hx; cases hx
  ·rw [dg_pos hb h]; intro x hx
   rcases List.mem_cons.1 hx with e | e
   ·rw [e]; exact Nat.mod_lt _ (by omega)
   ·exact ih _ (Nat.div_lt_self h (by omega)) x e
theorem dg_nil (hb : 2 <= b) {n : Nat} : dg b n = [] ↔ n = 0 := by
 constructor
 ·intro h
  rcases Nat.eq_zero_or_pos n with h0 | h0
  ·exact h0
  ·rw [dg_pos hb h0] at h; cases h
 ·rintro rfl; rfl
theorem cut_eq (hb : 2 <= b) : ∀ {l : List Nat}, Dig b l -> cut l = dg b (val b l) := by
 intro l
 induction l with
 | nil => intro _; rfl
 | cons x r ih =>
  intro h; have hx : x < b := h x (by simp); have hr : Dig b r := fun y hy => h y (by simp [hy]); rw [cut_cons, ih hr]
  show _ = dg b (x + b * val b r)
  by_cases h0 : val b r = 0
  ·rw [h0]
   by_cases hx0 : x = 0
   ·subst hx0; simp [dg_zero]
   ·rw [if_neg (by simp [hx0])]; rw [Nat.mul_zero, Nat.add_zero, dg_pos hb (n := x) (by omega), Nat.mod_eq_of_lt hx, Nat.div_eq_of_lt hx]
  ·have hne : dg b (val b r) ≠ [] := fun e => h0 ((dg_nil hb).1 e); rw [if_neg (fun e => hne e.1)]; have hpos : 0 < x + b * val b r := by
    have : 0 < b * val b r := Nat.mul_pos (by omega) (by omega)
    omega
   rw [dg_pos hb hpos, Nat.add_mul_mod_self_left, Nat.mod_eq_of_lt hx, Nat.add_mul_div_left _ _ (by omega), Nat.div_eq_of_lt hx, Nat.zero_add]
theorem cut_take : ∀ l : List Nat, cut l = l.take (cut l).length := by
 intro l
 induction l with
 | nil => rfl
 | cons x r ih =>
  rw [cut_cons]
  split
  ·rfl
  ·simp only [List.length_cons, List.take_succ_cons, <- ih]
theorem cut_le (l : List Nat) : (cut l).length <= l.length := by
 have := cut_take l; have h2 := congrArg List.length this; rw [List.length_take] at h2
 omega
theorem cut_snoc_zero : ∀ l : List Nat, cut (l ++ [0]) = cut l := by
 intro l
 induction l with
 | nil => rfl
 | cons x r ih => rw [List.cons_append, cut_cons, cut_cons, ih]
theorem cut_snoc {x : Nat} (hx : x ≠ 0) : ∀ l : List Nat, cut (l ++ [x]) = l ++ [x] := by
 intro l
 induction l with
 | nil => simp [cut, hx]
 | cons y r ih =>
  rw [List.cons_append, cut_cons, ih]
  simp
theorem cut_at {l : List Nat} {k : Nat} (hk : k < l.length) (h0 : l[k] = 0) : cut (l.take (k + 1)) = cut (l.take k) := by
 rw [List.take_succ_eq_append_getElem hk, h0, cut_snoc_zero]
theorem cut_stop {l : List Nat} {k : Nat} (hk : k < l.length) (h0 : l[k] ≠ 0) : cut (l.take (k + 1)) = l.take (k + 1) := by
 rw [List.take_succ_eq_append_getElem hk, cut_snoc h0]
theorem val_append (l m : List Nat) : val b (l ++ m) = val b l + b ^ l.length * val b m := by
 induction l with
 | nil => simp [val]
 | cons x r ih =>
  show x + b * val b (r ++ m) = x + b * val b r + b ^ (r.length + 1) * val b m
  rw [ih, Nat.mul_add, Nat.pow_succ, <- Nat.mul_assoc, Nat.mul_comm b (b ^ r.length)]
  omega
theorem val_snoc (l : List Nat) (x : Nat) : val b (l ++ [x]) = val b l + b ^ l.length * x := by
 rw [val_append]; simp [val]
theorem val_take_succ {l : List Nat} {k : Nat} (hk : k < l.length) : val b (l.take (k + 1)) = val b (l.take k) + b ^ k * l[k] := by
 rw [List.take_succ_eq_append_getElem hk, val_snoc, List.length_take, Nat.min_eq_left (by omega)]
theorem val_lt (hb : 0 < b) : ∀ {l : List Nat}, Dig b l -> val b l < b ^ l.length := by
 intro l
 induction l with
 | nil => intro _; simp [val]
 | cons x r ih =>
  intro h; have hx : x < b := h x (by simp); have := ih (fun y hy => h y (by simp [hy]))
  show x + b * val b r < b ^ (r.length + 1)
  rw [Nat.pow_succ, Nat.mul_comm (b ^ _) b]
  calc x + b * val b r < b + b * val b r := by omega
   _ = b * (val b r + 1) := by rw [Nat.mul_add]; omega
   _ <= b * b ^ r.length := Nat.mul_le_mul_left _ this
theorem val_replicate_zero (n : Nat) : val b (List.replicate n 0) = 0 := by
 induction n with
 | zero => rfl
 | succ n ih => show 0 + b * val b (List.replicate n 0) = 0; rw [ih]; simp
theorem dg_le (hb : 2 <= b) {n k : Nat} (h : n < b ^ k) : (dg b n).length <= k := by
 induction k generalizing n with
 | zero => have : n = 0 := by simpa using h
           subst this; simp [dg_zero]
 | succ k ih =>
  rcases Nat.eq_zero_or_pos n with h0 | h0
  ·subst h0; simp [dg_zero]
  ·rw [dg_pos hb h0]; have : n / b < b ^ k := by
    rw [Nat.div_lt_iff_lt_mul (by omega)]; rw [Nat.pow_succ] at h; exact h
   have := ih this
   simp; omega
theorem dg_lt (hb : 2 <= b) (n : Nat) : n < b ^ (dg b n).length := by
 have := val_lt (by omega) (dig_dg hb n)
 rwa [val_dg hb] at this
theorem dg_ge (hb : 2 <= b) {n : Nat} (h : 0 < n) : b ^ ((dg b n).length - 1) <= n := by
 induction n using Nat.strongRecOn with
 | _ n ih =>
  rw [dg_pos hb h]
  rcases Nat.eq_zero_or_pos (n / b) with h0 | h0
  ·rw [h0]; simp [dg_zero]; omega
  ·have h1 := ih _ (Nat.div_lt_self h (by omega)) h0; have hne : (dg b (n / b)) ≠ [] := fun e => by have := (dg_nil hb).1 e; omega
   have hl : 0 < (dg b (n / b)).length := List.length_pos_iff.2 hne
   simp only [List.length_cons, Nat.add_sub_cancel]
   obtain ⟨m, hm⟩ : ∃ m, (dg b (n / b)).length = m + 1 := ⟨_, (Nat.succ_pred_eq_of_pos hl).symm⟩; rw [hm] at h1 |-
   simp only [Nat.add_sub_cancel] at h1
   rw [Nat.pow_succ]; exact (Nat.le_div_iff_mul_le (by omega)).1 h1
theorem dg_mono (hb : 2 <= b) {m n : Nat} (h : m <= n) : (dg b m).length <= (dg b n).length := dg_le hb (Nat.lt_of_le_of_lt h (dg_lt hb n))
theorem dg_top (hb : 2 <= b) (n : Nat) : cut (dg b n) = dg b n := by rw [cut_eq hb (dig_dg hb n), val_dg hb]
theorem dg_last (hb : 2 <= b) {n k : Nat} (h : (dg b n).length = k + 1) : (dg b n)[k]'(by omega) ≠ 0 := by
 intro h0; have h1 := dg_top hb n; have e : (dg b n) = (dg b n).take (k + 1) := by rw [List.take_of_length_le (by omega)]
 rw [e, cut_at (by omega) h0] at h1; have h2 := cut_le ((dg b n).take k); rw [h1] at h2
 simp [List.length_take] at h2
 omega
theorem dg_mul_len (hb : 2 <= b) (m n : Nat) : (dg b (m * n)).length <= (dg b m).length + (dg b n).length := by
 refine dg_le hb ?_; rw [Nat.pow_add]
 rcases Nat.eq_zero_or_pos (m * n) with h | h
 ·rw [h]; exact Nat.mul_pos (Nat.pow_pos (by omega)) (Nat.pow_pos (by omega))
 ·exact Nat.mul_lt_mul'' (dg_lt hb m) (dg_lt hb n)
theorem val_cmp (hb : 0 < b) {l m : List Nat} {k : Nat} (hl : k < l.length) (hm : k < m.length) (hlen : l.length = m.length) (dl : Dig b l) (h : l.drop (k + 1) = m.drop (k + 1)) (hlt : l[k] < m[k]) : val b l < val b m := by
 have e1 : l = l.take k ++ (l[k] :: l.drop (k + 1)) := by rw [<- List.drop_eq_getElem_cons hl, List.take_append_drop]
 have e2 : m = m.take k ++ (m[k] :: m.drop (k + 1)) := by rw [<- List.drop_eq_getElem_cons hm, List.take_append_drop]
 have hv : val b (l.take k) < b ^ k := by
  have := val_lt hb (l := l.take k) (fun x hx => dl x (List.mem_of_mem_take hx))
  rwa [List.length_take, Nat.min_eq_left (by omega)] at this
 have v1 : val b l = val b (l.take k) + b ^ k * (l[k] + b * val b (l.drop (k + 1))) := by
  conv => lhs; rw [e1]
  rw [val_append, List.length_take, Nat.min_eq_left (by omega)]; rfl
 have v2 : val b m = val b (m.take k) + b ^ k * (m[k] + b * val b (m.drop (k + 1))) := by
  conv => lhs; rw [e2]
  rw [val_append, List.length_take, Nat.min_eq_left (by omega)]; rfl
 rw [v1, v2, h]; have h3 : b ^ k * (l[k] + b * val b (m.drop (k + 1)) + 1) <= b ^ k * (m[k] + b * val b (m.drop (k + 1))) := Nat.mul_le_mul_left _ (by omega); rw [Nat.mul_add, Nat.mul_one] at h3
 omega
theorem dg_lt_of_len (hb : 2 <= b) {m n : Nat} (h : (dg b m).length < (dg b n).length) : m < n := by
 rcases Nat.lt_or_ge m n with h1 | h1
 ·exact h1
 ·have := dg_mono hb h1; omega
theorem dg_inj (hb : 2 <= b) {m n : Nat} (h : dg b m = dg b n) : m = n := by
 have := congrArg (val b) h
 rwa [val_dg hb, val_dg hb] at this
end Dg
namespace Dg
section
variable {B p U V v1 v0 vl u2 u0 ul t r : Nat}
end
theorem val_set {b : Nat} : ∀ (l : List Nat) (j x : Nat) (h : j < l.length), val b (l.set j x) + b ^ j * l[j] = val b l + b ^ j * x := by
 intro l
 induction l with
 | nil => intro j x h; simp at h
 | cons y r ih =>
  intro j x h
  cases j with
  | zero => show x + b * val b r + b ^ 0 * y = y + b * val b r + b ^ 0 * x; simp; omega
  | succ j =>
   have hj : j < r.length := by simpa using h
   have := ih j x hj
   show y + b * val b (r.set j x) + b ^ (j + 1) * r[j] = y + b * val b r + b ^ (j + 1) * x
   rw [Nat.pow_succ, Nat.mul_comm (b ^ j) b, Nat.mul_assoc, Nat.mul_assoc]; have h2 := congrArg (b * ·) this
   simp only [Nat.mul_add] at h2
   omega
theorem dig_set {b : Nat} {l : List Nat} (h : Dig b l) {j x : Nat} (hx : x < b) : Dig b (l.set j x) := by
 intro y hy
 rcases List.mem_or_eq_of_mem_set hy with h1 | h1
 ·exact h y h1
 ·rw [h1]; exact hx
theorem dig_snoc {b : Nat} {l : List Nat} (h : Dig b l) {x : Nat} (hx : x < b) : Dig b (l ++ [x]) := by
 intro y hy
 rcases List.mem_append.1 hy with h1 | h1
 ·exact h y h1
 ·rw [List.mem_singleton.1 h1]; exact hx
theorem dig_take {b : Nat} {l : List Nat} (h : Dig b l) (k : Nat) : Dig b (l.take k) := fun y hy => h y (List.mem_of_mem_take hy)
end Dg
namespace Dg
def num (l : List Nat) : Nat := l.foldl (fun a d => 10 * a + d) 0
theorem num_foldl (l : List Nat) (a : Nat) : l.foldl (fun a d => 10 * a + d) a = a * 10 ^ l.length + num l := by
 induction l generalizing a with
 | nil => simp [num]
 | cons x r ih =>
  show r.foldl (fun a d => 10 * a + d) (10 * a + x) = a * 10 ^ (r.length + 1) + r.foldl (fun a d => 10 * a + d) (10 * 0 + x)
  rw [ih, ih (10 * 0 + x), Nat.pow_succ, Nat.add_mul, Nat.mul_zero, Nat.zero_add, Nat.mul_comm 10 a, Nat.mul_assoc, Nat.mul_comm 10]
  omega
theorem num_append (l m : List Nat) : num (l ++ m) = num l * 10 ^ m.length + num m := by
 show (l ++ m).foldl _ 0 = _
 rw [List.foldl_append, num_foldl]; rfl
theorem num_snoc (l : List Nat) (d : Nat) : num (l ++ [d]) = 10 * num l + d := by
 rw [num_append]; simp [num]; omega
theorem num_reverse (l : List Nat) : num l.reverse = val 10 l := by
 induction l with
 | nil => rfl
 | cons x r ih =>
  rw [List.reverse_cons, num_snoc, ih]
  show 10 * val 10 r + x = x + 10 * val 10 r
  omega
theorem b10 : 2 <= 10 := by decide
def dec (n : Nat) : List Nat := if n = 0 then [0] else (dg 10 n).reverse
theorem num_dec (n : Nat) : num (dec n) = n := by
 unfold dec
 split
 ·rename_i h; subst h; rfl
 ·rw [num_reverse, val_dg b10]
theorem dec_dig (n : Nat) : ∀ d ∈ dec n, d < 10 := by
 intro d hd; unfold dec at hd
 split at hd
 ·rw [List.mem_singleton.1 hd]; decide
 ·exact dig_dg b10 n d (List.mem_reverse.1 hd)
theorem dec_pos (n : Nat) : 0 < (dec n).length := by
 unfold dec
 split
 ·decide
 ·rename_i h
  rw [List.length_reverse]; exact List.length_pos_iff.2 fun e => h ((dg_nil b10).1 e)
def Txt (l : List Nat) : Prop := (∀ d ∈ l, d < 10) /\ 0 < l.length /\ (1 < l.length -> l.head? ≠ some 0)
theorem txt_dec (n : Nat) : Txt (dec n) := by
 refine ⟨dec_dig n, dec_pos n, fun h => ?_⟩; unfold dec at h |-
 split at h
 ·simp at h
 ·rename_i hn
  rw [if_neg hn, List.head?_reverse]; intro e; rw [List.length_reverse] at h; obtain ⟨k, hk⟩ : ∃ k, (dg 10 n).length = k + 1 := ⟨(dg 10 n).length - 1, by omega⟩; have h2 := dg_last b10 hk; rw [List.getLast?_eq_getElem?, hk] at e
  simp only [Nat.add_sub_cancel] at e
  rw [List.getElem?_eq_getElem (by omega)] at e
  injection e with e
  exact h2 e
theorem dec_num {l : List Nat} (h : Txt l) : dec (num l) = l := by
 obtain ⟨h1, h2, h3⟩ := h; have hr : num l = val 10 l.reverse := by rw [<- num_reverse, List.reverse_reverse]
 have hd : Dig 10 l.reverse := fun x hx => h1 x (List.mem_reverse.1 hx); have hc := cut_eq b10 hd; rw [<- hr] at hc
 match l, h2, h3 with
 | [x], _, _ =>
  have hx := h1 x (by simp)
  by_cases h0 : x = 0
  ·subst h0; rfl
  ·have e : num [x] = x := by simp [num]
   unfold dec; rw [e, if_neg h0, dg_pos b10 (by omega), Nat.mod_eq_of_lt hx, Nat.div_eq_of_lt hx, dg_zero]; rfl
 | x :: y :: r, _, h3 =>
  have hx : x ≠ 0 := fun e => h3 (by simp) (by simp [e]); have e : (x :: y :: r).reverse = (y :: r).reverse ++ [x] := List.reverse_cons; rw [e, cut_snoc hx] at hc; unfold dec; rw [<- hc, if_neg]
  ·simp
  ·intro h0; rw [h0, dg_zero] at hc
   simp at hc
theorem dec_len_le {n k : Nat} (hk : 0 < k) (h : n < 10 ^ k) : (dec n).length <= k := by
 unfold dec
 split
 ·exact hk
 ·rw [List.length_reverse]; exact dg_le b10 h
theorem dec_lt (n : Nat) : n < 10 ^ (dec n).length := by
 unfold dec
 split
 ·rename_i h; subst h; decide
 ·rw [List.length_reverse]; exact dg_lt b10 n
theorem dec_inj {m n : Nat} (h : dec m = dec n) : m = n := by rw [<- num_dec m, h, num_dec]
theorem dec_lt_of_len {m n : Nat} (h : (dec m).length < (dec n).length) : m < n := by
 have h1 := dec_lt m
 rcases Nat.lt_or_ge m n with h2 | h2
 ·exact h2
 ·exfalso
  have := dec_len_le (n := n) (k := (dec m).length) (dec_pos m) (by omega)
  omega
theorem pow16 (k : Nat) : 10 ^ k <= 2 ^ (4 * k) := by
 rw [Nat.pow_mul]; exact Nat.pow_le_pow_left (by decide) k
theorem num_lt {l : List Nat} (h : ∀ d ∈ l, d < 10) : num l < 10 ^ l.length := by
 have hd : Dig 10 l.reverse := fun x hx => h x (List.mem_reverse.1 hx); have := val_lt (by decide : 0 < 10) hd
 rwa [<- num_reverse, List.reverse_reverse, List.length_reverse] at this
theorem canon {b : Nat} (hb : 2 <= b) {l : List Nat} (hd : Dig b l) (h : l.length <= (dg b (val b l)).length) : l = dg b (val b l) := by
 have h1 := cut_eq hb hd; have h2 := cut_take l; rw [h1, List.take_of_length_le h] at h2; exact h2.symm
end Dg
end Go.Proofs.YtjimfbmegmnocaaGreatDoor
