/- The reference's numbers: Text. -/
import Derived.Test.YtofijnhkoadfjaaRf
namespace Go.Proofs.Ytofijnhkoadfjaa
set_option linter.unusedSimpArgs false
set_option linter.unusedVariables false
set_option linter.unusedSectionVars false
open Go.RowKit Dg

def pad4 (x : Nat) : List Nat := [x / 1000, x / 100 % 10, x / 10 % 10, x % 10]
theorem dec_shift {V x : Nat} (hV : 0 < V) (hx : x < 10000) : dec (x + 10000 * V) = dec V ++ pad4 x := by
  have e1 : (x + 10000 * V) % 10 = x % 10 := by omega
  have e2 : (x + 10000 * V) / 10 % 10 = x / 10 % 10 := by omega
  have e3 : (x + 10000 * V) / 10 / 10 % 10 = x / 100 % 10 := by omega
  have e4 : (x + 10000 * V) / 10 / 10 / 10 % 10 = x / 1000 := by omega
  have e5 : (x + 10000 * V) / 10 / 10 / 10 / 10 = V := by omega
  rw [dec_step (n := x + 10000 * V) (by omega), dec_step (n := (x + 10000 * V) / 10) (by omega), dec_step (n := (x + 10000 * V) / 10 / 10) (by omega), dec_step (n := (x + 10000 * V) / 10 / 10 / 10) (by omega), e1, e2, e3, e4, e5]
  simp [pad4]
theorem dec_pad {x : Nat} (hx : x < 10000) : List.replicate (4 - (dec x).length) 0 ++ dec x = pad4 x ∧ (dec x).length ≤ 4 := by
  by_cases h1 : x < 10
  · rw [dec_small h1]
    have a1 : x / 1000 = 0 := by omega
    have a2 : x / 100 % 10 = 0 := by omega
    have a3 : x / 10 % 10 = 0 := by omega
    have a4 : x % 10 = x := by omega
    simp [pad4, a1, a2, a3, a4]
  · by_cases h2 : x < 100
    · rw [dec_step (by omega), dec_small (n := x / 10) (by omega)]
      have a1 : x / 1000 = 0 := by omega
      have a2 : x / 100 % 10 = 0 := by omega
      have a3 : x / 10 % 10 = x / 10 := by omega
      simp [pad4, a1, a2, a3]
    · by_cases h3 : x < 1000
      · rw [dec_step (by omega), dec_step (n := x / 10) (by omega), dec_small (n := x / 10 / 10) (by omega)]
        have a1 : x / 1000 = 0 := by omega
        have a2 : x / 100 % 10 = x / 10 / 10 := by omega
        simp [pad4, a1, a2]
      · rw [dec_step (by omega), dec_step (n := x / 10) (by omega), dec_step (n := x / 10 / 10) (by omega), dec_small (n := x / 10 / 10 / 10) (by omega)]
        have a1 : x / 1000 = x / 10 / 10 / 10 := by omega
        have a2 : x / 100 % 10 = x / 10 / 10 % 10 := by omega
        simp [pad4, a1, a2]

theorem zeros_ex {m : Nat} (h : m ≤ 4) : ((⟨#[48, 48, 48, 48]⟩ : ByteArray).extract m 4).data.toList = asc (List.replicate (4 - m) 0) := by
  match m, h with
  | 0, _ => decide
  | 1, _ => decide
  | 2, _ => decide
  | 3, _ => decide
  | 4, _ => decide
theorem str_shift {V y : Nat} (hV : 0 < V) (hy : y < 10000) : S V ++ ((⟨#[48, 48, 48, 48]⟩ : ByteArray).extract (S y).size 4 ++ S y) = S (y + 10000 * V) := by
  apply ba_ext
  have h1 := zeros_ex (m := (dec y).length) (dec_pad hy).2
  rw [S_list, dec_shift hV hy, asc_append, ← (dec_pad hy).1, asc_append, ← h1, S_size]
  rw [ByteArray.data_append, ByteArray.data_append, Array.toList_append, Array.toList_append, S_list, S_list]

set_option maxRecDepth 100000 in
set_option maxHeartbeats 2000000 in
theorem textr_any {v : Value} {n : Nat} (w : World) (hv : BigV w v n) (hl : (dk n).length ≤ 300000) :
    Calls Try.prog 65 #[v] w fun e w' => e = .returned (.string (S n)) ∧ Below w.heap.size w w' := by
  obtain ⟨A, c, rfl, hc1, hc2, hA⟩ := hv
  unfold maxLen at hc2
  rcases Nat.eq_zero_or_pos n with rfl | hn0
  · have h0 : (dk 0).length = 0 := rfl
    rw [h0]
    go_enter Try.func65, Try.ntmps65
    go_wp2
    go_ret
    exact ⟨rfl, Below.refl _ _⟩
  · have hl0 : 0 < (dk n).length := List.length_pos_iff.2 fun e => by have := (Dg.dg_nil b10k).1 e; omega
    obtain ⟨L1, hL1⟩ : ∃ L1, (dk n).length = L1 + 1 := ⟨(dk n).length - 1, by omega⟩
    have hlast := Dg.dg_last b10k hL1
    have hlt1 : L1 < (dk n).length := by omega
    have lm : Hid (Dg.val 10000 (dk n) = n) := Dg.val_dg b10k n
    obtain ⟨b, off, rfl, c1⟩ := hA.get hlt1
    have hx := dk_get_lt n L1 hlt1
    have HV0 : Hid (Dg.val 10000 ((dk n).drop L1) = (dk n)[L1]) := by
      show _ = _
      rw [List.drop_eq_getElem_cons hlt1, List.drop_of_length_le (by omega)]
      show _ + 10000 * 0 = _
      rfl
    have hx0 : 0 < (dk n)[L1] := Nat.pos_of_ne_zero hlast
    have HS0 : Hid ((S (dk n)[L1]).size ≤ 4) := by
      show _ ≤ _
      rw [S_size]; exact (dec_pad hx).2
    have HLL := Lib.hid hL1
    have HA := Lib.hid hA
    rw [hL1] at hc1 ⊢
    have hL3 : L1 ≤ 300000 := by omega
    clear hL1 hlast hA hl hl0
    generalize (dk n)[L1] = x at c1 hx HV0 hx0 HS0
    go_enter Try.func65, Try.ntmps65
    go_wp2_with fail
    refine (small_ref x hx _).mono ?_
    rintro e w1 ⟨rfl, hb1⟩
    go_wp2_with fail
    clear c1
    go_loopg [3, 4] L1 (fun q s3 s4 wr => ∃ (k V : Nat) (z : Int), q = k ∧ k ≤ L1 ∧ s4 = .int .i64 z ∧ z = (k : Int) - 1 ∧ s3 = .string (S V) ∧ 0 < V ∧ (S V).size ≤ 4 * (L1 + 1 - k) ∧ Hid (Dg.val 10000 ((dk n).drop k) = V) ∧ Below w.heap.size w wr)
    case atStart => exact ⟨L1, x, _, rfl, Nat.le_refl _, rfl, by omega, rfl, hx0, by have := HS0.out; omega, HV0, hb1⟩
    case round =>
      obtain ⟨k, V, z, hq, hk, rfl, hz, rfl, hV0, hVs, HV, hbw⟩ := hrel
      have HQ := Lib.hid hq; clear hq
      rcases Nat.eq_zero_or_pos k with rfl | hk0
      · obtain rfl : z = -1 := by omega
        clear hz
        have HF : Hid (V = n) := by
          show V = n
          rw [← HV.out, List.drop_zero, lm.out]
        have HSV := Lib.hid (congrArg S HF.out)
        clear HF
        go_wp2
        go_ret
        exact ⟨congrArg (fun t => Ending.returned (Value.string t)) HSV.out, hbw⟩
      · obtain ⟨k1, rfl⟩ : ∃ k1, k = k1 + 1 := ⟨k - 1, by omega⟩
        obtain rfl : z = (k1 : Int) := by omega
        clear hz
        have hkl : k1 < (dk n).length := by omega
        obtain ⟨b', off', e', c2⟩ := (HA.out.below hbw).get hkl
        cases e'
        have hy := dk_get_lt n k1 hkl
        have HVN : Hid (Dg.val 10000 ((dk n).drop k1) = (dk n)[k1] + 10000 * V) := by
          show _ = _
          rw [List.drop_eq_getElem_cons hkl]
          show _ + 10000 * Dg.val 10000 ((dk n).drop (k1 + 1)) = _
          rw [HV.out]
        generalize (dk n)[k1] = y at c2 hy HVN
        have hk2 : k1 < L1 + 1 := by omega
        clear hkl
        go_wp2_with fail
        refine (small_ref y hy _).mono ?_
        rintro e w2 ⟨rfl, hb2⟩
        have hys : (S y).size ≤ 4 := by rw [S_size]; exact (dec_pad hy).2
        go_wp2_with fail
        go_roundg k1
        case measure => have := HQ.out; omega
        case rel =>
          refine ⟨k1, y + 10000 * V, _, rfl, by omega, rfl, by omega, congrArg Value.string (str_shift hV0 hy), by omega, ?_, HVN, hbw.trans (hb2.mono hbw.size)⟩
          rw [S_size] at hVs ⊢
          rw [dec_shift hV0 hy, List.length_append]
          show _ + 4 ≤ _
          omega
end Go.Proofs.Ytofijnhkoadfjaa
