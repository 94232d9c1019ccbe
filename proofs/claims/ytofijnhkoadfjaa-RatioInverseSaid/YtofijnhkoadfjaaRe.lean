/- The reference's Gcd and Valid. -/
import Derived.Test.YtofijnhkoadfjaaRd
namespace Go.Proofs.Ytofijnhkoadfjaa
set_option linter.unusedSimpArgs false
set_option linter.unusedVariables false
set_option linter.unusedSectionVars false
open Go.RowKit

set_option maxHeartbeats 1000000 in
theorem gcd_ref {v1 v2 : Value} {m n : Nat} (w : World) (h1 : BigV w v1 m) (h2 : BigV w v2 n) (hm : (dk m).length ≤ 100000) (hn : (dk n).length ≤ 100000) :
    Calls Try.prog 66 #[v1, v2] w fun e w' => ∃ v, e = .returned v ∧ BigV w' v (Nat.gcd m n) ∧ Below w.heap.size w w' := by
  go_enter Try.func66, Try.ntmps66
  go_wp2_with fail
  go_loopg [0, 1] n (fun q s0 s1 wr => ∃ a b : Nat, q = b ∧ BigV wr s0 a ∧ BigV wr s1 b ∧ (dk a).length ≤ 100000 ∧ (dk b).length ≤ 100000 ∧ Hid (Nat.gcd a b = Nat.gcd m n) ∧ Below w.heap.size w wr)
  case atStart => exact ⟨m, n, rfl, h1, h2, hm, hn, rfl, Below.refl _ _⟩
  case round =>
    clear h1 h2 hm hn
    obtain ⟨a, b, hq, h1, h2, hm, hn, HG, hbw⟩ := hrel
    have HQ := Lib.hid hq; clear hq
    have H1 := Lib.hid h1
    have H2 := Lib.hid h2
    obtain ⟨A2, c2, rfl, hc1, hc2, -⟩ := h2
    unfold maxLen at hc2
    rcases Nat.eq_zero_or_pos b with rfl | hb0
    · have hz : (dk 0).length = 0 := rfl
      rw [hz]
      have HF : Hid (a = Nat.gcd m n) := by show a = _; rw [← HG.out, Nat.gcd_zero_right]
      clear h1 hz hc1 H2
      go_wp2
      go_ret
      exact ⟨_, rfl, by rw [← HF.out]; exact H1.out, hbw⟩
    · have hl : 0 < (dk b).length := by
        have : dk b ≠ [] := fun e => by have := (Dg.dg_nil b10k).1 e; omega
        exact List.length_pos_iff.2 this
      have hmod : a % b < b := Nat.mod_lt _ hb0
      have hml : (dk (a % b)).length ≤ 100000 := Nat.le_trans (Dg.dg_mono b10k (Nat.le_of_lt hmod)) hn
      have HG2 : Hid (Nat.gcd b (a % b) = Nat.gcd m n) := by
        show _ = _
        rw [← HG.out, Nat.gcd_comm, ← Nat.gcd_rec, Nat.gcd_comm]
      clear h1
      go_wp2_with fail
      refine (divide_ref _ H1.out H2.out hm hn hb0).mono ?_
      rintro e w1 ⟨x1, x2, rfl, hx1, hx2, hb1⟩
      have HB := H2.out.below hb1
      clear H1 H2 HG
      go_wp2
      go_roundg (a % b)
      case measure => have := HQ.out; omega
      case rel => exact ⟨b, a % b, rfl, HB, hx2, hn, hml, HG2, hbw.trans (hb1.mono hbw.size)⟩


set_option maxHeartbeats 2000000 in
theorem validr_any (s : ByteArray) (w : World) (hs : s.size ≤ maxLen) :
    Calls Try.prog 57 #[.string s] w (ValidPost s w) := by
  unfold maxLen at hs
  by_cases h0 : s.size = 0
  · have hno : Hid (¬ VLD s) := fun h => by have := h.2; obtain ⟨L, h2, h3⟩ := this; have := h2.2.1; rw [← bsize h3] at this; omega
    have b0 : ((s.size : Int) == 0) = true := beq_iff_eq.2 (by omega)
    go_enter Try.func57, Try.ntmps57
    go_wp2
    go_ret
    exact ⟨⟨false, rfl, by simp; exact hno.out⟩, rfl⟩
  have b0 : ((s.size : Int) == 0) = false := beq_eq_false_iff_ne.2 (by omega)
  have h0' : 0 < s.size := by omega
  clear h0
  by_cases h1 : 20000 < s.size
  · have hno : Hid (¬ VLD s) := fun h => by have := h.1; omega
    go_enter Try.func57, Try.ntmps57
    go_wp2
    go_ret
    exact ⟨⟨false, rfl, by simp; exact hno.out⟩, rfl⟩
  have key : (1 < s.size → (s[0]'h0').toNat ≠ 48) → Calls Try.prog 57 #[.string s] w (ValidPost s w) := by
    intro hh
    have HH := Lib.hid hh
    have h1' : s.size ≤ 20000 := by omega
    have d1 : ((((s[0]'h0').toNat : Nat) : Int) == 48) = true → ¬ 1 < s.size := by
      intro h h2; have := hh h2; simp at h; omega
    by_cases hz : 1 < s.size
    · have b1 : ((((s[0]'h0').toNat : Nat) : Int) == 48) = false := by have := hh hz; simp; omega
      have b2 : decide ((1 : Int) < s.size) = true := decide_eq_true (by omega)
      have b3 : decide (1 < s.size) = true := decide_eq_true hz
      clear hh d1
      go_enter Try.func57, Try.ntmps57
      go_wp2_with fail
      go_loop [3] (fun v => ∃ k : Nat, k ≤ s.size ∧ v = .int .i64 k ∧ Hid (DigTo s k)) (fun v => s.size - (intOf v).toNat)
      case atStart => exact ⟨0, Nat.zero_le _, rfl, fun i h hi => absurd hi (Nat.not_lt_zero _)⟩
      case round =>
        obtain ⟨k, hk, rfl, HD⟩ := hrel
        by_cases hlt : k < s.size
        · by_cases h2 : (s[k]'hlt).toNat < 48
          · have hno : Hid (¬ VLD s) := fun h => by have := (vld_dig h k hlt hlt).1; omega
            go_wp2
            go_ret
            exact ⟨⟨false, rfl, by simp; exact hno.out⟩, rfl⟩
          · by_cases h3 : 57 < (s[k]'hlt).toNat
            · have hno : Hid (¬ VLD s) := fun h => by have := (vld_dig h k hlt hlt).2; omega
              go_wp2
              go_ret
              exact ⟨⟨false, rfl, by simp; exact hno.out⟩, rfl⟩
            · have HN : Hid (DigTo s (k + 1)) := by
                show DigTo s (k + 1)
                intro i hi hik
                by_cases e : i = k
                · subst e; omega
                · exact HD.out i hi (by omega)
              go_wp2
              go_round
              case rel => exact ⟨k + 1, by omega, by go_num, HN⟩
              case measure => simp [intOf]; omega
        · have hyes : Hid (VLD s) := vld_of h0' h1' HH.out fun i hi _ => HD.out i hi (by omega)
          go_wp2
          go_ret
          exact ⟨⟨true, rfl, by simp; exact hyes.out⟩, rfl⟩
    · have b2 : decide ((1 : Int) < s.size) = false := decide_eq_false (by omega)
      have b3 : decide (1 < s.size) = false := decide_eq_false hz
      clear hh d1
      rcases Bool.eq_false_or_eq_true ((((s[0]'h0').toNat : Nat) : Int) == 48) with b1 | b1
      · go_enter Try.func57, Try.ntmps57
        go_wp2_with fail
        go_loop [3] (fun v => ∃ k : Nat, k ≤ s.size ∧ v = .int .i64 k ∧ Hid (DigTo s k)) (fun v => s.size - (intOf v).toNat)
        case atStart => exact ⟨0, Nat.zero_le _, rfl, fun i h hi => absurd hi (Nat.not_lt_zero _)⟩
        case round =>
          obtain ⟨k, hk, rfl, HD⟩ := hrel
          by_cases hlt : k < s.size
          · by_cases h2 : (s[k]'hlt).toNat < 48
            · have hno : Hid (¬ VLD s) := fun h => by have := (vld_dig h k hlt hlt).1; omega
              go_wp2
              go_ret
              exact ⟨⟨false, rfl, by simp; exact hno.out⟩, rfl⟩
            · by_cases h3 : 57 < (s[k]'hlt).toNat
              · have hno : Hid (¬ VLD s) := fun h => by have := (vld_dig h k hlt hlt).2; omega
                go_wp2
                go_ret
                exact ⟨⟨false, rfl, by simp; exact hno.out⟩, rfl⟩
              · have HN : Hid (DigTo s (k + 1)) := by
                  show DigTo s (k + 1)
                  intro i hi hik
                  by_cases e : i = k
                  · subst e; omega
                  · exact HD.out i hi (by omega)
                go_wp2
                go_round
                case rel => exact ⟨k + 1, by omega, by go_num, HN⟩
                case measure => simp [intOf]; omega
          · have hyes : Hid (VLD s) := vld_of h0' h1' HH.out fun i hi _ => HD.out i hi (by omega)
            go_wp2
            go_ret
            exact ⟨⟨true, rfl, by simp; exact hyes.out⟩, rfl⟩
      · go_enter Try.func57, Try.ntmps57
        go_wp2_with fail
        go_loop [3] (fun v => ∃ k : Nat, k ≤ s.size ∧ v = .int .i64 k ∧ Hid (DigTo s k)) (fun v => s.size - (intOf v).toNat)
        case atStart => exact ⟨0, Nat.zero_le _, rfl, fun i h hi => absurd hi (Nat.not_lt_zero _)⟩
        case round =>
          obtain ⟨k, hk, rfl, HD⟩ := hrel
          by_cases hlt : k < s.size
          · by_cases h2 : (s[k]'hlt).toNat < 48
            · have hno : Hid (¬ VLD s) := fun h => by have := (vld_dig h k hlt hlt).1; omega
              go_wp2
              go_ret
              exact ⟨⟨false, rfl, by simp; exact hno.out⟩, rfl⟩
            · by_cases h3 : 57 < (s[k]'hlt).toNat
              · have hno : Hid (¬ VLD s) := fun h => by have := (vld_dig h k hlt hlt).2; omega
                go_wp2
                go_ret
                exact ⟨⟨false, rfl, by simp; exact hno.out⟩, rfl⟩
              · have HN : Hid (DigTo s (k + 1)) := by
                  show DigTo s (k + 1)
                  intro i hi hik
                  by_cases e : i = k
                  · subst e; omega
                  · exact HD.out i hi (by omega)
                go_wp2
                go_round
                case rel => exact ⟨k + 1, by omega, by go_num, HN⟩
                case measure => simp [intOf]; omega
          · have hyes : Hid (VLD s) := vld_of h0' h1' HH.out fun i hi _ => HD.out i hi (by omega)
            go_wp2
            go_ret
            exact ⟨⟨true, rfl, by simp; exact hyes.out⟩, rfl⟩
  by_cases hh : 1 < s.size → (s[0]'h0').toNat ≠ 48
  · exact key hh
  · have hh2 : 1 < s.size ∧ (s[0]'h0').toNat = 48 := by
      by_cases g : 1 < s.size
      · refine ⟨g, ?_⟩
        by_cases g2 : (s[0]'h0').toNat = 48
        · exact g2
        · exact absurd (fun _ => g2) hh
      · exact absurd (fun g3 => absurd g3 g) hh
    obtain ⟨g1, g2⟩ := hh2
    have hno : Hid (¬ VLD s) := fun h => vld_head h h0' g1 g2
    have b1 : ((((s[0]'h0').toNat : Nat) : Int) == 48) = true := by rw [g2]; rfl
    have b2 : decide ((1 : Int) < s.size) = true := decide_eq_true (by omega)
    have b3 : decide (1 < s.size) = true := decide_eq_true g1
    clear hh key g2
    go_enter Try.func57, Try.ntmps57
    go_wp2
    go_ret
    exact ⟨⟨false, rfl, by simp; exact hno.out⟩, rfl⟩
theorem validr_yes {s : ByteArray} (w : World) (h : VLD s) : Calls Try.prog 57 #[.string s] w fun e w' => e = .returned (.bool true) ∧ w = w' := by
  refine (validr_any s w (by have := h.1; unfold maxLen; omega)).mono ?_
  rintro e w' ⟨⟨b, rfl, hb⟩, rfl⟩
  rw [hb.2 h]; exact ⟨rfl, rfl⟩
theorem validr_no {s : ByteArray} (w : World) (hs : s.size ≤ maxLen) (h : ¬ VLD s) : Calls Try.prog 57 #[.string s] w fun e w' => e = .returned (.bool false) ∧ w = w' := by
  refine (validr_any s w hs).mono ?_
  rintro e w' ⟨⟨b, rfl, hb⟩, rfl⟩
  cases b with
  | true => exact absurd (hb.1 rfl) h
  | false => exact ⟨rfl, rfl⟩
end Go.Proofs.Ytofijnhkoadfjaa
