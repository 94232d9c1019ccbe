/- Parts of the proof: Rjv, Ax. No condition of its own. -/
import Derived.Test.YtffldjghdcfpiaaGreatDoorTm8
import Derived.Test.YtffldjghdcfpiaaGreatDoorEn
set_option linter.unusedSimpArgs false
set_option linter.unusedVariables false
set_option linter.unusedSectionVars false
set_option maxRecDepth 100000
set_option maxHeartbeats 4000000
namespace Go.Proofs.YtffldjghdcfpiaaGreatDoor
open Go.RowKit Dg

def VI (a p q n : Int) : Prop := 1 ≤ n ∧ n ≤ 2147483648 ∧ 0 ≤ p ∧ p ≤ n ∧ 0 ≤ q ∧ q ≤ n ∧ 0 ≤ a ∧ a ≤ p ∧ a ≤ q ∧ p + q - n ≤ a
theorem VI.nat {a p q n : Int} (h : VI a p q n) : ∃ a' p' q' n' : Nat, a = (a' : Int) ∧ p = (p' : Int) ∧ q = (q' : Int) ∧ n = (n' : Int) ∧ VC a' p' q' n' := by
  obtain ⟨h1, h2, h3, h4, h5, h6, h7, h8, h9, h10⟩ := h; refine ⟨a.toNat, p.toNat, q.toNat, n.toNat, by omega, by omega, by omega, by omega, ?_⟩
  constructor <;> omega
theorem rmv_no {a p q n : Int} (h : ¬ VI a p q n) : RetV 4 #[.agg #[.int .i64 a, .int .i64 p, .int .i64 q, .int .i64 n]] (.bool false) := by
  intro w; obtain ⟨o_c, hbw⟩ := new1 w [.int .i64 a, .int .i64 p, .int .i64 q, .int .i64 n] 23
  go_enter Tryz.func4, Tryz.ntmps4
  go_upto_region 1 with (fail)
  generalize (w.alloc (.cells #[.int .i64 a, .int .i64 p, .int .i64 q, .int .i64 n] 23)) = wb at o_c hbw ⊢; obtain ⟨qc_0, qc_1, qc_2, qc_3⟩ := o_c.cells4
  rcases Decidable.em (1 ≤ n) with c0 | c0
  rotate_left
  · have t0 : decide (1 ≤ n) = false := decide_eq_false c0
    go_wp2
    go_ret
    exact ⟨ret_bool (by first | rfl | (simp <;> omega)), hbw⟩
  have t0 : decide (1 ≤ n) = true := decide_eq_true c0
  rcases Decidable.em (n ≤ 2147483648) with c1 | c1
  rotate_left
  · have t1 : decide (n ≤ 2147483648) = false := decide_eq_false c1
    go_wp2
    go_ret
    exact ⟨ret_bool (by first | rfl | (simp <;> omega)), hbw⟩
  have t1 : decide (n ≤ 2147483648) = true := decide_eq_true c1
  rcases Decidable.em (0 ≤ p) with c2 | c2
  rotate_left
  · have t2 : decide (0 ≤ p) = false := decide_eq_false c2
    go_wp2
    go_ret
    exact ⟨ret_bool (by first | rfl | (simp <;> omega)), hbw⟩
  have t2 : decide (0 ≤ p) = true := decide_eq_true c2
  rcases Decidable.em (p ≤ n) with c3 | c3
  rotate_left
  · have t3 : decide (p ≤ n) = false := decide_eq_false c3
    go_wp2
    go_ret
    exact ⟨ret_bool (by first | rfl | (simp <;> omega)), hbw⟩
  have t3 : decide (p ≤ n) = true := decide_eq_true c3
  rcases Decidable.em (0 ≤ q) with c4 | c4
  rotate_left
  · have t4 : decide (0 ≤ q) = false := decide_eq_false c4
    go_wp2
    go_ret
    exact ⟨ret_bool (by first | rfl | (simp <;> omega)), hbw⟩
  have t4 : decide (0 ≤ q) = true := decide_eq_true c4
  rcases Decidable.em (q ≤ n) with c5 | c5
  rotate_left
  · have t5 : decide (q ≤ n) = false := decide_eq_false c5
    go_wp2
    go_ret
    exact ⟨ret_bool (by first | rfl | (simp <;> omega)), hbw⟩
  have t5 : decide (q ≤ n) = true := decide_eq_true c5
  rcases Decidable.em (0 ≤ a) with c6 | c6
  rotate_left
  · have t6 : decide (0 ≤ a) = false := decide_eq_false c6
    go_wp2
    go_ret
    exact ⟨ret_bool (by first | rfl | (simp <;> omega)), hbw⟩
  have t6 : decide (0 ≤ a) = true := decide_eq_true c6
  rcases Decidable.em (a ≤ p) with c7 | c7
  rotate_left
  · have t7 : decide (a ≤ p) = false := decide_eq_false c7
    go_wp2
    go_ret
    exact ⟨ret_bool (by first | rfl | (simp <;> omega)), hbw⟩
  have t7 : decide (a ≤ p) = true := decide_eq_true c7
  rcases Decidable.em (a ≤ q) with c8 | c8
  rotate_left
  · have t8 : decide (a ≤ q) = false := decide_eq_false c8
    go_wp2
    go_ret
    exact ⟨ret_bool (by first | rfl | (simp <;> omega)), hbw⟩
  have t8 : decide (a ≤ q) = true := decide_eq_true c8; have z1 : IntKind.i64.wrap (p + q) = p + q := IntWalk.i64_in _ (by omega); have z2 : IntKind.i64.wrap (p + q - n) = p + q - n := IntWalk.i64_in _ (by omega)
  rcases Decidable.em (p + q - n ≤ a) with c9 | c9
  rotate_left
  · have t9 : decide (p + q - n ≤ a) = false := decide_eq_false c9
    go_wp2
    go_ret
    exact ⟨ret_bool (by first | rfl | (simp <;> omega)), hbw⟩
  have t9 : decide (p + q - n ≤ a) = true := decide_eq_true c9; exact absurd (by unfold VI; omega) h
open Go.RowKit Dg

theorem begins_low (c : Int) (h1 : 97 ≤ c) (h2 : c ≤ 122) : RetV 113 #[.int .u8 c] (.bool true) := by
  intro w; have t1 : decide (c ≥ 65) = true := decide_eq_true (by omega); have t2 : decide (c ≤ 90) = false := decide_eq_false (by omega); have t3 : decide (c ≥ 97) = true := decide_eq_true (by omega); have t4 : decide (c ≤ 122) = true := decide_eq_true (by omega); have t5 : decide (65 ≤ c) = true := decide_eq_true (by omega); have t6 : decide (97 ≤ c) = true := decide_eq_true (by omega)
  go_enter Tryz.func113, Tryz.ntmps113
  go_wp2
  go_ret
  exact ⟨rfl, Below.refl _ _⟩
theorem begins_no (c : Int) (h1 : c < 65) : RetV 113 #[.int .u8 c] (.bool false) := by
  intro w; have t1 : decide (c ≥ 65) = false := decide_eq_false (by omega); have t3 : decide (c ≥ 97) = false := decide_eq_false (by omega); have t5 : decide (65 ≤ c) = false := decide_eq_false (by omega); have t6 : decide (97 ≤ c) = false := decide_eq_false (by omega); have t7 : decide (c = 95) = false := decide_eq_false (by omega); have t8 : (c == 95) = false := beq_eq_false_iff_ne.2 (by omega)
  go_enter Tryz.func113, Tryz.ntmps113
  go_wp2
  go_ret
  exact ⟨rfl, Below.refl _ _⟩
theorem goesOn_low (c : Int) (h1 : 97 ≤ c) (h2 : c ≤ 122) : RetV 114 #[.int .u8 c] (.bool true) := by
  intro w
  go_enter Tryz.func114, Tryz.ntmps114
  go_wp2_with fail
  refine (begins_low c h1 h2 _).mono ?_; rintro e w1 ⟨rfl, hb⟩
  go_wp2
  go_ret
  exact ⟨rfl, hb⟩
theorem goesOn_no (c : Int) (h1 : c < 65) (h2 : c < 45 ∨ 57 < c) : RetV 114 #[.int .u8 c] (.bool false) := by
  intro w; have HN := Lib.hid h1
  go_enter Tryz.func114, Tryz.ntmps114
  go_wp2_with fail
  refine (begins_no c HN.out _).mono ?_; rintro e w1 ⟨rfl, hb⟩; have t8 : (c == 45) = false := beq_eq_false_iff_ne.2 (by omega); have t9 : decide (c = 45) = false := decide_eq_false (by omega)
  by_cases h3 : c < 45
  · have t1 : decide (c ≥ 48) = false := decide_eq_false (by omega); have t2 : decide (48 ≤ c) = false := decide_eq_false (by omega); clear h1 h2 h3
    go_wp2
    go_ret
    exact ⟨rfl, hb⟩
  · have t1 : decide (c ≥ 48) = true := decide_eq_true (by omega); have t2 : decide (48 ≤ c) = true := decide_eq_true (by omega); have t3 : decide (c ≤ 57) = false := decide_eq_false (by omega); clear h1 h2 h3
    go_wp2
    go_ret
    exact ⟨rfl, hb⟩
def Low (s : ByteArray) (i k : Nat) : Prop := ∀ j (h : j < s.size), i ≤ j → j < i + k → 97 ≤ (s[j]'h).toNat ∧ (s[j]'h).toNat ≤ 122
theorem validName_low (s : ByteArray) (h1 : 1 ≤ s.size) (h2 : s.size ≤ 32) (h : Low s 0 s.size) : RetV 87 #[.string s] (.bool true) := by
  intro w; have HL := Lib.hid h; clear h; have t1 : decide ((s.size : Int) < 1) = false := decide_eq_false (by omega); have t2 : decide ((s.size : Int) > 32) = false := decide_eq_false (by omega); have t3 : decide ((32 : Int) < (s.size : Int)) = false := decide_eq_false (by omega); have t4 : decide (32 < s.size) = false := decide_eq_false (by omega); have h0 : 0 < s.size := h1
  go_enter Tryz.func87, Tryz.ntmps87
  go_wp2_with fail
  have c0 := HL.out 0 h0 (Nat.le_refl 0) (by omega); refine (begins_low _ (by omega) (by omega) _).mono ?_; rintro e w1 ⟨rfl, hb1⟩; clear c0
  go_wp2_with fail
  go_loopg [20] s.size (fun qn vi wr => ∃ j : Nat, qn = s.size - j ∧ j ≤ s.size ∧ vi = .int .i64 (j : Int) ∧ Below w.heap.size w wr)
  case atStart => exact ⟨0, rfl, Nat.zero_le _, rfl, hb1⟩
  case round =>
    clear hb1; obtain ⟨j, hqn, hj, rfl, hbw⟩ := hrel; have HQ := Lib.hid hqn; clear hqn
    by_cases hlt : j < s.size
    · have c0 := HL.out j hlt (Nat.zero_le _) (by omega)
      go_wp2_with fail
      refine (goesOn_low _ (by omega) (by omega) _).mono ?_; rintro e w2 ⟨rfl, hb2⟩; replace hbw := below6 hbw hb2; clear hb2 c0
      go_wp2_with fail
      go_roundg (s.size - (j + 1))
      case measure => have := HQ.out; omega
      case rel => exact ⟨j + 1, rfl, by omega, by go_num, hbw⟩
    · go_wp2
      go_ret
      exact ⟨rfl, hbw⟩
end Go.Proofs.YtffldjghdcfpiaaGreatDoor
