/- The law's own comparisons of lists: what they return. -/
import Derived.Test.YtgimddboflhpaaaRows
import Derived.Test.YtgimddboflhpaaaLabs
import Derived.Deep.QuietTactic
import Derived.BigQuiet
namespace Go.Proofs.Ytgimddboflhpaaa
set_option linter.unusedSimpArgs false
set_option linter.unusedVariables false
set_option linter.unusedSectionVars false
open Go.RowKit Tr

set_option maxHeartbeats 400000 in
theorem ints_any (A B : Option Addr) (c d : Nat) (xs ys : List Int) (w : World) (hA : Ints w A xs) (hB : Ints w B ys) (hx : xs.length ≤ maxLen) (hy : ys.length ≤ maxLen) :
    Calls Try.prog 18 #[.slice A xs.length c, .slice B ys.length d] w fun e w' => e = .returned (.bool (intsEq xs ys)) ∧ Below w.heap.size w w' := by
  unfold maxLen at hx hy
  by_cases hl : xs.length = ys.length
  · have hl1 : (xs.length : Int) ≤ ys.length := by omega
    have hl2 : (ys.length : Int) ≤ xs.length := by omega
    have hb : (((xs.length : Int)) != (ys.length : Int)) = false := by simp; omega
    have HL := Lib.hid hl; clear hl
    go_enter Try.func18, Try.ntmps18
    go_wp2
    go_loopw [13] (fun k wr => ∃ n : Nat, n ≤ xs.length ∧ k = .int .i64 n ∧ xs.take n = ys.take n ∧ Below w.heap.size w wr) (fun k _ => xs.length - (intOf k).toNat)
    case atStart => exact ⟨0, Nat.zero_le _, rfl, rfl, Below.refl _ _⟩
    case round =>
      obtain ⟨n, hn, rfl, heq, hbw⟩ := hrel
      have H := Lib.hid heq; clear heq
      by_cases hlt : n < xs.length
      · have hlt' : n < ys.length := by omega
        obtain ⟨b, off, rfl, hc⟩ := (hA.below hbw).get hlt
        obtain ⟨b', off', rfl, hc'⟩ := (hB.below hbw).get hlt'
        go_wp2
        go_quiet (fail)
        go_wp2
        · go_ret
          refine ⟨ret_bool ?_, below_drewN hbw _⟩
          have h : (xs[n] != ys[n]) = true := by assumption
          exact (decide_eq_false (ne_of_get hlt hlt' (by simpa using h))).symm
        · go_roundw
          case rel =>
            have h : (xs[n] != ys[n]) = false := by assumption
            exact ⟨n + 1, by omega, by go_num, take_step hlt hlt' H.out (by simpa using h), below_drewN hbw _⟩
          case measure => simp [intOf]; omega
      · go_wp2
        go_ret
        exact ⟨ret_bool (decide_eq_true (eq_of_take (by omega) (by omega) H.out)).symm, hbw⟩
  · have hb : (((xs.length : Int)) != (ys.length : Int)) = true := by simp; omega
    have HL := Lib.hid hl; clear hl
    go_enter Try.func18, Try.ntmps18
    go_wp2
    go_ret
    exact ⟨ret_bool (decide_eq_false (fun h => HL.out (by rw [h]))).symm, Below.refl _ _⟩

theorem eqg43 : Try.prog.eqGuardType Try.prog.depth 43 = false := by kernel_rfl
theorem neq43 (a b c x y z : Int) (w : World) : (binOp .neq 43 (.agg #[.int .i64 a, .int .i64 b, .int .i64 c]) (.agg #[.int .i64 x, .int .i64 y, .int .i64 z])).run Try.prog w = .ok (.bool (!(labEq (a, b, c) (x, y, z)))) w := by
  rw [← labEq_of]
  have h2 : Try.prog.stoodInHeld 43 = false := by kernel_rfl
  cases ha : a == x <;> cases hb : b == y <;> cases hc : c == z <;> simp [go_sem, h2, Try.underlying43, ha, hb, hc]

set_option maxHeartbeats 400000 in
theorem equal_any (A B : Option Addr) (c d : Nat) (xs ys : List Lab) (w : World) (hA : Labs w A xs) (hB : Labs w B ys) (hx : xs.length ≤ maxLen) (hy : ys.length ≤ maxLen) :
    Calls Try.prog 13 #[.slice A xs.length c, .slice B ys.length d] w fun e w' => e = .returned (.bool (labsEq xs ys)) ∧ Below w.heap.size w w' := by
  unfold maxLen at hx hy
  by_cases hl : xs.length = ys.length
  · have hl1 : (xs.length : Int) ≤ ys.length := by omega
    have hl2 : (ys.length : Int) ≤ xs.length := by omega
    have hb : (((xs.length : Int)) != (ys.length : Int)) = false := by simp; omega
    have HL := Lib.hid hl; clear hl
    go_enter Try.func13, Try.ntmps13
    go_wp2
    go_loopw [13] (fun k wr => ∃ n : Nat, n ≤ xs.length ∧ k = .int .i64 n ∧ xs.take n = ys.take n ∧ Below w.heap.size w wr) (fun k _ => xs.length - (intOf k).toNat)
    case atStart => exact ⟨0, Nat.zero_le _, rfl, rfl, Below.refl _ _⟩
    case round =>
      obtain ⟨n, hn, rfl, heq, hbw⟩ := hrel
      have H := Lib.hid heq; clear heq
      by_cases hlt : n < xs.length
      · have hlt' : n < ys.length := by omega
        obtain ⟨b, off, rfl, h0, h1, h2⟩ := (hA.below hbw).get hlt
        obtain ⟨b', off', rfl, h0', h1', h2'⟩ := (hB.below hbw).get hlt'
        have hne := fun w => neq43 xs[n].1 xs[n].2.1 xs[n].2.2 ys[n].1 ys[n].2.1 ys[n].2.2 w
        have heg := eqg43
        go_wp2
        go_quiet (fail)
        go_wp2
        · go_ret
          refine ⟨ret_bool ?_, below_drewN hbw _⟩
          have h : (labEq xs[n] ys[n]) = false := by first | assumption | simp_all
          exact (decide_eq_false (ne_of_get hlt hlt' (by intro e; rw [e] at h; simp [labEq] at h))).symm
        · go_roundw
          case rel =>
            have h : (labEq xs[n] ys[n]) = true := by first | assumption | simp_all
            exact ⟨n + 1, by omega, by go_num, take_step hlt hlt' H.out (labEq_iff.1 h), below_drewN hbw _⟩
          case measure => simp [intOf]; omega
      · go_wp2
        go_ret
        exact ⟨ret_bool (decide_eq_true (eq_of_take (by omega) (by omega) H.out)).symm, hbw⟩
  · have hb : (((xs.length : Int)) != (ys.length : Int)) = true := by simp; omega
    have HL := Lib.hid hl; clear hl
    go_enter Try.func13, Try.ntmps13
    go_wp2
    go_ret
    exact ⟨ret_bool (decide_eq_false (fun h => HL.out (by rw [h]))).symm, Below.refl _ _⟩
end Go.Proofs.Ytgimddboflhpaaa
