/- Division of long numbers: the estimate of one digit of the quotient. No program in sight. -/
import Derived.Test.YtofijnhkoadfjaaDg
namespace Go.Proofs.Ytofijnhkoadfjaa
set_option linter.unusedSimpArgs false
set_option linter.unusedVariables false
set_option linter.unusedSectionVars false
namespace Dg
section
variable {B p U V v1 v0 vl u2 u0 ul t r : Nat}
theorem est_start (hV : V = (v1 * B + v0) * p + vl) (hU : U = (u2 * B + u0) * p + ul) (hul : ul < p) (hu0 : u0 < B) (hv1 : 0 < v1) : U / V ≤ u2 / v1 := by
  rw [Nat.le_div_iff_mul_le hv1]
  have h1 : U / V * V ≤ U := Nat.div_mul_le_self U V
  have h2 : U / V * v1 * (B * p) ≤ U / V * V := by
    rw [Nat.mul_assoc]
    refine Nat.mul_le_mul_left _ ?_
    rw [hV, Nat.add_mul, Nat.mul_assoc]
    omega
  have h3 : U < (u2 + 1) * (B * p) := by
    rw [hU]
    have h4 : (u2 * B + u0 + 1) * p ≤ (u2 + 1) * B * p := by
      refine Nat.mul_le_mul_right _ ?_
      rw [Nat.add_mul]; omega
    rw [Nat.add_mul, Nat.one_mul] at h4
    rw [← Nat.mul_assoc]
    omega
  have h5 : U / V * v1 < u2 + 1 := Nat.lt_of_mul_lt_mul_right (Nat.lt_of_le_of_lt (Nat.le_trans h2 h1) h3)
  omega
theorem est_dec (hV : V = (v1 * B + v0) * p + vl) (hU : U = (u2 * B + u0) * p + ul) (hul : ul < p) (h : t * v1 + r = u2) (hc : r * B + u0 < t * v0) : U < t * V := by
  have e : t * (v1 * B + v0) = t * v1 * B + t * v0 := by rw [Nat.mul_add, Nat.mul_assoc]
  have h1 : u2 * B + u0 + 1 ≤ t * (v1 * B + v0) := by
    rw [e, ← h, Nat.add_mul]; omega
  have h2 : (u2 * B + u0 + 1) * p ≤ t * (v1 * B + v0) * p := Nat.mul_le_mul_right _ h1
  rw [Nat.add_mul, Nat.one_mul] at h2
  rw [hV, hU, Nat.mul_add, ← Nat.mul_assoc]
  have := Nat.zero_le (t * vl)
  omega
theorem est_exit (hV : V = (v1 * B + v0) * p + vl) (hU : U = (u2 * B + u0) * p + ul) (hvl : vl < p) (hv1 : 0 < v1) (hB : 0 < B) (h : t * v1 + r = u2) (hc : t * v0 ≤ r * B + u0) (ht : t ≤ B) : t * V < U + V := by
  have e : t * (v1 * B + v0) = t * v1 * B + t * v0 := by rw [Nat.mul_add, Nat.mul_assoc]
  have h1 : t * (v1 * B + v0) ≤ u2 * B + u0 := by
    rw [e, ← h, Nat.add_mul]; omega
  have h2 : t * (v1 * B + v0) * p ≤ (u2 * B + u0) * p := Nat.mul_le_mul_right _ h1
  have h3 : t * vl ≤ B * vl := Nat.mul_le_mul_right _ ht
  have h4 : B * vl < B * p := Nat.mul_lt_mul_of_pos_left hvl hB
  have h5 : B * p ≤ v1 * (B * p) := Nat.le_mul_of_pos_left _ hv1
  have h6 : V = v1 * (B * p) + v0 * p + vl := by rw [hV, Nat.add_mul, Nat.mul_assoc]
  have h7 : t * V = t * (v1 * B + v0) * p + t * vl := by rw [hV, Nat.mul_add, ← Nat.mul_assoc]
  have := Nat.zero_le (v0 * p)
  omega
theorem est_top (hV : V = (v1 * B + v0) * p + vl) (hU : U = (u2 * B + u0) * p + ul) (hvl : vl < p) (hv0 : v0 < B) (hUV : U < B * V) : u2 < (v1 + 1) * B := by
  have h1 : V < (v1 + 1) * B * p := by
    have h2 : (v1 * B + v0 + 1) * p ≤ (v1 + 1) * B * p := by
      refine Nat.mul_le_mul_right _ ?_
      rw [Nat.add_mul]; omega
    rw [Nat.add_mul, Nat.one_mul] at h2
    omega
  have h3 : B * V ≤ B * ((v1 + 1) * B * p) := Nat.mul_le_mul_left _ (Nat.le_of_lt h1)
  have h4 : u2 * (B * p) < (v1 + 1) * B * (B * p) := by
    have h5 : u2 * (B * p) ≤ U := by
      rw [hU, Nat.add_mul, Nat.mul_assoc]; omega
    have h6 : B * ((v1 + 1) * B * p) = (v1 + 1) * B * (B * p) := by
      rw [Nat.mul_left_comm]
    omega
  exact Nat.lt_of_mul_lt_mul_right h4
theorem est_break (h : t * v1 + r = u2) (hr : B ≤ r) (hu2 : u2 < (v1 + 1) * B) : t < B := by
  rcases Nat.lt_or_ge t B with h1 | h1
  · exact h1
  · have h2 : B * v1 ≤ t * v1 := Nat.mul_le_mul_right _ h1
    rw [Nat.add_mul, Nat.mul_comm v1 B] at hu2
    omega
theorem est_break' (ht : t < B) (hv0 : v0 < B) (hr : B ≤ r) : t * v0 ≤ r * B + u0 := by
  have h1 : t * v0 ≤ B * v0 := Nat.mul_le_mul_right _ (Nat.le_of_lt ht)
  have h2 : B * v0 ≤ B * B := Nat.mul_le_mul_left _ (Nat.le_of_lt hv0)
  have h3 : B * B ≤ r * B := Nat.mul_le_mul_right _ hr
  omega
theorem est_bound (hn : B ≤ 2 * v1) (hu2 : u2 < (v1 + 1) * B) : u2 / v1 ≤ B + 1 := by
  rcases Nat.eq_zero_or_pos v1 with h0 | h0
  · rw [h0]; simp
  · have : u2 / v1 < B + 2 := by
      rw [Nat.div_lt_iff_lt_mul h0]
      have e1 : (v1 + 1) * B = v1 * B + B := by rw [Nat.add_mul, Nat.one_mul]
      have e2 : (B + 2) * v1 = v1 * B + 2 * v1 := by rw [Nat.add_mul, Nat.mul_comm B v1]
      omega
    omega
theorem est_last (h1 : U < (t + 1) * V) (h2 : t * V < U + V) : U / V = if U < t * V then t - 1 else t := by
  have hV : 0 < V := by
    rcases Nat.eq_zero_or_pos V with h | h
    · rw [h] at h1; simp at h1
    · exact h
  split
  · rename_i h
    have ht : 0 < t := by
      rcases Nat.eq_zero_or_pos t with h0 | h0
      · rw [h0] at h; simp at h
      · exact h0
    obtain ⟨s, rfl⟩ : ∃ s, t = s + 1 := ⟨t - 1, by omega⟩
    rw [Nat.add_sub_cancel]
    rw [Nat.add_mul, Nat.one_mul] at h2 h
    refine Nat.div_eq_of_lt_le ?_ ?_
    · omega
    · rw [Nat.add_mul, Nat.one_mul]; omega
  · rename_i h
    refine Nat.div_eq_of_lt_le (by omega) h1
end
theorem val_cons_split {b : Nat} (l : List Nat) (k : Nat) : val b l = val b (l.take k) + b ^ (l.take k).length * val b (l.drop k) := by
  rw [← val_append, List.take_append_drop]
theorem val_set {b : Nat} : ∀ (l : List Nat) (j x : Nat) (h : j < l.length), val b (l.set j x) + b ^ j * l[j] = val b l + b ^ j * x := by
  intro l
  induction l with
  | nil => intro j x h; simp at h
  | cons y r ih =>
    intro j x h
    cases j with
    | zero => show x + b * val b r + b ^ 0 * y = y + b * val b r + b ^ 0 * x; simp; omega
    | succ j =>
      have hj : j < r.length := by simpa using h
      have := ih j x hj
      show y + b * val b (r.set j x) + b ^ (j + 1) * r[j] = y + b * val b r + b ^ (j + 1) * x
      rw [Nat.pow_succ, Nat.mul_comm (b ^ j) b, Nat.mul_assoc, Nat.mul_assoc]
      have h2 := congrArg (b * ·) this
      simp only [Nat.mul_add] at h2
      omega
theorem dig_set {b : Nat} {l : List Nat} (h : Dig b l) {j x : Nat} (hx : x < b) : Dig b (l.set j x) := by
  intro y hy
  rcases List.mem_or_eq_of_mem_set hy with h1 | h1
  · exact h y h1
  · rw [h1]; exact hx
theorem dig_snoc {b : Nat} {l : List Nat} (h : Dig b l) {x : Nat} (hx : x < b) : Dig b (l ++ [x]) := by
  intro y hy
  rcases List.mem_append.1 hy with h1 | h1
  · exact h y h1
  · rw [List.mem_singleton.1 h1]; exact hx
theorem dig_take {b : Nat} {l : List Nat} (h : Dig b l) (k : Nat) : Dig b (l.take k) := fun y hy => h y (List.mem_of_mem_take hy)
theorem dig_drop {b : Nat} {l : List Nat} (h : Dig b l) (k : Nat) : Dig b (l.drop k) := fun y hy => h y (List.mem_of_mem_drop hy)
end Dg
end Go.Proofs.Ytofijnhkoadfjaa
