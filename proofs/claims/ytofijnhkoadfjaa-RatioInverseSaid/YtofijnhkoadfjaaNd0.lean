/- Division of long numbers: the plain law of one round. -/
import Derived.Test.YtofijnhkoadfjaaNc
namespace Go.Proofs.Ytofijnhkoadfjaa
set_option linter.unusedSimpArgs false
set_option linter.unusedVariables false
set_option linter.unusedSectionVars false
open Go.RowKit

theorem blen_top {t : Nat} (ht : t ≠ 0) (ht2 : t < 4294967296) : blen t ≤ 32 ∧ 0 < blen t ∧ 2147483648 ≤ t * 2 ^ (32 - blen t) ∧ (t + 1) * 2 ^ (32 - blen t) ≤ 4294967296 := by
  have h1 : blen t ≤ 32 := Dg.dg_le (Nat.le_refl 2) (by omega)
  have h2 := blen_pos (show 0 < t by omega)
  have g1 := blen_ge (show 0 < t by omega)
  have g2 := blen_lt t
  refine ⟨h1, h2, ?_, ?_⟩
  · have e : (2147483648 : Nat) = 2 ^ (blen t - 1) * 2 ^ (32 - blen t) := by
      rw [← Nat.pow_add]
      have : blen t - 1 + (32 - blen t) = 31 := by omega
      rw [this]
    rw [e]
    exact Nat.mul_le_mul_right _ g1
  · have e : (4294967296 : Nat) = 2 ^ blen t * 2 ^ (32 - blen t) := by
      rw [← Nat.pow_add]
      have : blen t + (32 - blen t) = 32 := by omega
      rw [this]
    rw [e]
    exact Nat.mul_le_mul_right _ g2
theorem norm_shift {n k s : Nat} (h : (dw n).length = k + 1) (hs : s = 32 - blen ((dw n)[k]'(by omega))) :
    ∃ h2 : (dw (n * 2 ^ s)).length = k + 1, 2147483648 ≤ (dw (n * 2 ^ s))[k]'(by omega) ∧ s < 32 := by
  obtain ⟨low, h1, h2⟩ := top_split h
  have h3 := dw_top h
  have h4 := dw_get_lt n k (by omega)
  generalize (dw n)[k]'(by omega) = t at h2 h3 h4 hs
  obtain ⟨b1, b2, b3, b4⟩ := blen_top h3 h4
  rw [← hs] at b3 b4
  have hlo : 4294967296 ^ k * 2147483648 ≤ n * 2 ^ s := by
    have e : 4294967296 ^ k * (t * 2 ^ s) ≤ n * 2 ^ s := by
      rw [← Nat.mul_assoc]
      exact Nat.mul_le_mul_right _ (by omega)
    exact Nat.le_trans (Nat.mul_le_mul_left _ b3) e
  have hhi : n * 2 ^ s < 4294967296 ^ (k + 1) := by
    have e : n * 2 ^ s < 4294967296 ^ k * (t + 1) * 2 ^ s := by
      refine Nat.mul_lt_mul_of_pos_right ?_ (Nat.pow_pos (by decide))
      rw [Nat.mul_add]; omega
    rw [Nat.pow_succ]
    refine Nat.lt_of_lt_of_le e ?_
    rw [Nat.mul_assoc]
    exact Nat.mul_le_mul_left _ b4
  have hlen : (dw (n * 2 ^ s)).length = k + 1 := by
    have a1 : (dw (n * 2 ^ s)).length ≤ k + 1 := Dg.dg_le b32 hhi
    rcases Nat.lt_or_ge k (dw (n * 2 ^ s)).length with h | h
    · omega
    · exfalso
      have a2 := Dg.dg_lt b32 (n * 2 ^ s)
      have a3 : 4294967296 ^ (Dg.dg 4294967296 (n * 2 ^ s)).length ≤ 4294967296 ^ k := Nat.pow_le_pow_right (by decide) h
      omega
  refine ⟨hlen, ?_, by omega⟩
  obtain ⟨low', l1, l2⟩ := top_split hlen
  generalize (dw (n * 2 ^ s))[k]'(by omega) = t' at l2 ⊢
  rcases Nat.lt_or_ge t' 2147483648 with h | h
  · exfalso
    have := Nat.mul_le_mul_left (4294967296 ^ k) (show t' + 1 ≤ 2147483648 by omega)
    rw [Nat.mul_add] at this
    omega
  · exact h
theorem shift_len {m s : Nat} (hs : s < 32) : (dw (m * 2 ^ s)).length ≤ (dw m).length + 1 := by
  refine Dg.dg_le b32 ?_
  rw [Nat.pow_succ]
  refine Nat.mul_lt_mul'' (Dg.dg_lt b32 m) ?_
  have := pow_le31 hs
  omega
theorem win_val {U : List Nat} {k1 n1 : Nat} (h : k1 + n1 ≤ U.length) (b : Nat) : Dg.val b U = Dg.val b (U.take k1) + b ^ k1 * (Dg.val b ((U.drop k1).take n1) + b ^ n1 * Dg.val b (U.drop (k1 + n1))) := by
  rw [take_drop_val U k1 (by omega) b, take_drop_val (U.drop k1) n1 (by rw [List.length_drop]; omega) b, List.drop_drop]
theorem drop_win {U : List Nat} {k1 n1 : Nat} (h : k1 + n1 ≤ U.length) (b : Nat) : Dg.val b (U.drop k1) = Dg.val b ((U.drop k1).take n1) + b ^ n1 * Dg.val b (U.drop (k1 + n1)) := by
  rw [take_drop_val (U.drop k1) n1 (by rw [List.length_drop]; omega) b, List.drop_drop]
/-- The three top words. -/
theorem top3 {U : List Nat} {k1 h : Nat} (hl : k1 + h + 2 < U.length) (b : Nat) : Dg.val b ((U.drop k1).take (h + 3)) = ((U[k1 + h + 2] * b + U[k1 + h + 1]) * b + U[k1 + h]) * b ^ h + Dg.val b ((U.drop k1).take h) := by
  have e1 : k1 + (h + 2) = k1 + h + 2 := by omega
  have e2 : k1 + (h + 1) = k1 + h + 1 := by omega
  rw [win_succ (i := h + 2) (by omega), win_succ (i := h + 1) (by omega), win_succ (i := h) (by omega)]
  have alg : ∀ P x y z r : Nat, r + P * z + P * b * y + P * b * b * x = ((x * b + y) * b + z) * P + r := by
    intro P x y z r
    have e1 : ((x * b + y) * b + z) * P = x * b * b * P + y * b * P + z * P := by rw [Nat.add_mul, Nat.add_mul, Nat.add_mul]
    have e2 : P * b * b * x = x * b * b * P := by ac_rfl
    have e3 : P * b * y = y * b * P := by ac_rfl
    have e4 : P * z = z * P := Nat.mul_comm _ _
    omega
  simp only [← Nat.add_assoc]
  rw [Nat.pow_succ, Nat.pow_succ]
  exact alg _ _ _ _ _
theorem top2 {V : List Nat} {h : Nat} (hl : V.length = h + 2) (b : Nat) : Dg.val b V = (V[h + 1] * b + V[h]) * b ^ h + Dg.val b (V.take h) := by
  have e : V = V.take (h + 2) := by rw [List.take_of_length_le (by omega)]
  have h1 : Dg.val b V = Dg.val b (V.take (h + 2)) := by rw [← e]
  rw [h1, Dg.val_take_succ (by omega), Dg.val_take_succ (by omega), Nat.pow_succ, Nat.add_mul, Nat.mul_comm (b ^ h) V[h]]
  have x1 : b ^ h * b * V[h + 1] = V[h + 1] * b * b ^ h := by
    rw [Nat.mul_comm (b ^ h * b), Nat.mul_comm (b ^ h) b, ← Nat.mul_assoc]
  rw [x1]; omega
/-- The window holds all that is above it. -/
theorem win_all {U : List Nat} {k1 n1 X : Nat} (h : k1 + n1 ≤ U.length) (hX : Dg.val 4294967296 (U.drop k1) < X) (hX2 : X ≤ 4294967296 ^ n1) : Dg.val 4294967296 (U.drop (k1 + n1)) = 0 ∧ Dg.val 4294967296 ((U.drop k1).take n1) = Dg.val 4294967296 (U.drop k1) := by
  have h1 := drop_win h 4294967296
  have h0 : Dg.val 4294967296 (U.drop (k1 + n1)) = 0 := by
    rcases Nat.eq_zero_or_pos (Dg.val 4294967296 (U.drop (k1 + n1))) with h0 | h0
    · exact h0
    · exfalso
      have := Nat.le_mul_of_pos_right (4294967296 ^ n1) h0
      omega
  refine ⟨h0, ?_⟩
  rw [h0, Nat.mul_zero] at h1
  omega
/-- One round of the division. -/
theorem div_round {U U' Q : List Nat} {k1 n1 Vn M qd : Nat} (hw : Win U U' k1 n1) (hl : k1 + n1 ≤ U.length) (hlU : U'.length = U.length) (hrest : Dg.val 4294967296 (U.drop (k1 + n1)) = 0)
    (hval : Dg.val 4294967296 ((U'.drop k1).take n1) + qd * Vn = Dg.val 4294967296 ((U.drop k1).take n1)) (hlt : Dg.val 4294967296 ((U'.drop k1).take n1) < Vn)
    (hQ : k1 < Q.length) (hI : Dg.val 4294967296 U + Vn * (4294967296 ^ (k1 + 1) * Dg.val 4294967296 (Q.drop (k1 + 1))) = M) :
    Dg.val 4294967296 U' + Vn * (4294967296 ^ k1 * Dg.val 4294967296 ((Q.set k1 qd).drop k1)) = M ∧ Dg.val 4294967296 (U'.drop k1) < Vn := by
  have h1 := win_val hl 4294967296
  have h2 := win_val (U := U') (k1 := k1) (n1 := n1) (by omega) 4294967296
  rw [hw.lo, hw.hi, hrest, Nat.mul_zero, Nat.add_zero] at h2
  rw [hrest, Nat.mul_zero, Nat.add_zero] at h1
  have h3 := drop_win (U := U') (k1 := k1) (n1 := n1) (by omega) 4294967296
  rw [hw.hi, hrest, Nat.mul_zero, Nat.add_zero] at h3
  refine ⟨?_, by rw [h3]; exact hlt⟩
  rw [set_drop hQ]
  show _ + Vn * (4294967296 ^ k1 * (qd + 4294967296 * Dg.val 4294967296 (Q.drop (k1 + 1)))) = M
  rw [← hI, h1, h2, ← hval, Nat.mul_add, Nat.mul_add, Nat.mul_add, Nat.pow_succ, Nat.mul_assoc (4294967296 ^ k1), Nat.mul_left_comm Vn, Nat.mul_comm Vn qd]
  omega
theorem div_end {m n s x q : Nat} (hn : 0 < n) (h : x + (n * 2 ^ s) * q = m * 2 ^ s) (hx : x < n * 2 ^ s) : q = m / n ∧ x / 2 ^ s = m % n := by
  have hp : 0 < 2 ^ s := Nat.pow_pos (by decide)
  have h1 : q = m * 2 ^ s / (n * 2 ^ s) := by
    rw [← h, Nat.add_mul_div_left _ _ (by omega), Nat.div_eq_of_lt hx, Nat.zero_add]
  have h2 : x = (m * 2 ^ s) % (n * 2 ^ s) := by
    rw [← h, Nat.add_mul_mod_self_left, Nat.mod_eq_of_lt hx]
  constructor
  · rw [h1, Nat.mul_div_mul_right _ _ hp]
  · rw [h2, Nat.mul_mod_mul_right, Nat.mul_div_cancel _ hp]
theorem val_zeros (d : List Nat) (k b : Nat) : Dg.val b (d ++ List.replicate k 0) = Dg.val b d := by
  rw [Dg.val_append, Dg.val_replicate_zero]; simp
theorem div_start {m n s N lq la : Nat} {U : List Nat} (hla : (dw m).length = la) (hN : (dw n).length = N) (hN1 : 1 ≤ N) (hn : 0 < n) (hlq : lq + N = la + 1) (hU : Dg.val 4294967296 U = m * 2 ^ s) (hl : U.length = la + 1) : Dg.val 4294967296 (U.drop lq) < n * 2 ^ s := by
  have h1 := take_drop_val U lq (by omega) 4294967296
  have h2 : m < 4294967296 ^ la := by rw [← hla]; exact Dg.dg_lt b32 m
  have h3 : 4294967296 ^ (N - 1) ≤ n := by rw [← hN]; exact Dg.dg_ge b32 hn
  have hp : 0 < 2 ^ s := Nat.pow_pos (by decide)
  have h4 : m * 2 ^ s < 4294967296 ^ la * 2 ^ s := Nat.mul_lt_mul_of_pos_right h2 hp
  have e : la = lq + (N - 1) := by omega
  rw [e, Nat.pow_add, Nat.mul_assoc] at h4
  have h5 : 4294967296 ^ lq * Dg.val 4294967296 (U.drop lq) < 4294967296 ^ lq * (4294967296 ^ (N - 1) * 2 ^ s) := by omega
  have h6 := Nat.lt_of_mul_lt_mul_left h5
  exact Nat.lt_of_lt_of_le h6 (Nat.mul_le_mul_right _ h3)
theorem round_lt {U : List Nat} {k1 Vn : Nat} (hD : Dg.Dig 4294967296 U) (hk : k1 < U.length) (h : Dg.val 4294967296 (U.drop (k1 + 1)) < Vn) : Dg.val 4294967296 (U.drop k1) < 4294967296 * Vn := by
  rw [drop_val hk]
  have h1 := hD _ (List.getElem_mem hk)
  have h2 := Nat.mul_le_mul_left 4294967296 (show Dg.val 4294967296 (U.drop (k1 + 1)) + 1 ≤ Vn by omega)
  rw [Nat.mul_add] at h2
  omega
theorem or_shl {a b t : Nat} (hb : b < 4294967296) (ha : a < 4294967296) (ht : t = a * 4294967296 + b) : bits .or .u64 ((a : Int) * 4294967296) (b : Int) = (t : Int) := by
  have y0 : (4294967296 : Nat) * a + b = 4294967296 * a ||| b := Nat.two_pow_add_eq_or_of_lt (i := 32) hb a
  have h := u64_or_nat (a * 4294967296) b (by omega) (by omega)
  rw [Nat.mul_comm, ← y0, Nat.mul_comm, ← ht] at h
  rw [← h]; simp
end Go.Proofs.Ytofijnhkoadfjaa
