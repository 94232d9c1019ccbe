/- Parts of the proof: Rf. No condition of its own. -/
import Derived.Test.YtocknfhgjmaibaaGreatDoorRd
import Derived.Test.YtocknfhgjmaibaaGreatDoorReg
set_option linter.unusedSimpArgs false
set_option linter.unusedVariables false
set_option linter.unusedSectionVars false
set_option maxRecDepth 100000
set_option maxHeartbeats 4000000
namespace Go.Proofs.YtocknfhgjmaibaaGreatDoor
open Go.RowKit Dg

theorem dec_small {n : Nat} (h : n < 10) : dec n = [n] := by
  have hx : ∀ d ∈ [n], d < 10 := by
    intro d hd; have : d = n := by simpa using hd
    omega
  have ht : Txt [n] := ⟨hx, by simp, fun h => by simp at h⟩; have := dec_num ht; have e : num [n] = n := by simp [num]
  rw [e] at this; exact this
theorem dec_step {n : Nat} (h : 10 ≤ n) : dec n = dec (n / 10) ++ [n % 10] := by
  have h1 : dec n = (Dg.dg 10 n).reverse := if_neg (by omega); have h2 : dec (n / 10) = (Dg.dg 10 (n / 10)).reverse := if_neg (by omega); rw [h1, h2, Dg.dg_pos (by decide) (by omega)]; simp

theorem one_back (w : World) (A : Nat) (x : Nat) (hx : x < 10) (z : Int) (hz : z = 48 + (x : Int)) (h : w.cell? ⟨A, 0, none⟩ = some (.int .u8 z)) :
    (convert 119 9 (.slice (some ⟨A, 0, none⟩) 1 1)).run Tryz.prog w = .ok (.string ⟨(asc [x]).toArray⟩) w := by
  exact run_convert_bytes_back (P := Tryz.prog) w 119 9 5 ⟨A, 0, none⟩ 1 (asc [x]) Tryz.underlying119 Tryz.underlying5 Tryz.underlying9 (by
    intro j hj; have hj0 : j = 0 := by simpa [asc] using hj
    subst hj0; rw [Addr.add_lit]; have e : (asc [x])[0] = (48 + x).toUInt8 := rfl; rw [e, asc_toNat hx]
    show w.cell? ⟨A, 0, none⟩ = _
    rw [h, hz]; rfl)
theorem S_small {n : Nat} (h : n < 10) : S n = ⟨(asc [n]).toArray⟩ := by unfold S; rw [dec_small h]
theorem S_step {n : Nat} (h : 10 ≤ n) : S n = S (n / 10) ++ ⟨(asc [n % 10]).toArray⟩ := by
  apply ba_ext
  rw [S_list, dec_step h, asc_append]
  simp [S]

theorem small_ref (n : Nat) (hn : n < 10000) : ∀ w : World, Calls Tryz.prog 102 #[.int .i64 n] w fun e w' => e = .returned (.string (S n)) ∧ Below w.heap.size w w' := by
  induction n using Nat.strongRecOn with
  | ind n ih =>
    intro w
    by_cases h10 : n < 10
    · clear ih; have hback := one_back (w.alloc (.cells #[.int .u8 (48 + (n : Int))] 5)) w.heap.size n h10 _ rfl (by
        have h := (Own.new w 5 [.int .u8 (48 + (n : Int))]).cell 0; exact h)
      rw [← S_small h10] at hback
      go_enter Tryz.func102, Tryz.ntmps102
      go_wp2_with fail
      go_ret
      exact ⟨rfl, (Below.refl _ _).alloc (Nat.le_refl _) _⟩
    · obtain ⟨k, hk⟩ : ∃ k, k = n / 10 := ⟨_, rfl⟩; obtain ⟨d, hd⟩ : ∃ d, d = n % 10 := ⟨_, rfl⟩; have HI := Lib.hid (ih (n / 10) (by omega) (by omega)); have HS := Lib.hid (S_step (n := n) (by omega)); rw [← hk] at HI HS; rw [← hd] at HS; clear ih; have g1 : (n : Int) / 10 = (k : Int) := by omega
      have g2 : (n : Int) % 10 = (d : Int) := by omega
      have hd10 : d < 10 := by omega
      have hsz : ¬ 9223372036854775807 < (S k).size + (asc [d]).length := by
        have h1 : (dec k).length ≤ 4 := dec_len_le (by decide) (by omega); rw [S_size, asc_length]
        show ¬ _ < _ + 1
        omega
      clear hk hd
      go_enter Tryz.func102, Tryz.ntmps102
      go_wp2_with fail
      refine wp_reg_rel [some 10, some 11, some 12, some 13, some 14, some 15, some 16, some 17, some 18, some 19, some 2] [isV (.int .i64 n), isV (.int .i64 (k : Int)), isV (.string (S k)), isV (.int .i64 n), isV (.int .i64 (d : Int)), isV (.int .i64 (48 + (d : Int))), isV (.int .u8 (48 + (d : Int))), (fun v w => ∃ A : Nat, v = .slice (some ⟨A, 0, none⟩) 1 1 ∧ w.cell? ⟨A, 0, none⟩ = some (.int .u8 (48 + (d : Int)))), isV (.string ⟨(asc [d]).toArray⟩), isV (.string (S k ++ ⟨(asc [d]).toArray⟩)), isV (.string (S k ++ ⟨(asc [d]).toArray⟩))] rfl (by kernel_rfl) rfl rfl ?k1 ⟨?s1_0, ?s1_1, ?s1_2, ?s1_3, ?s1_4, ?s1_5, ?s1_6, ?s1_7, ?s1_8, ?s1_9, ?s1_10, trivial⟩ ?p1
      case s1_0 =>
        intro u9 w9 hT9 hV9 K9 hK9; clear hV9
        simp only [isV, putAll, Act.put, List.setIfInBounds_toArray, List.set_cons_succ, List.set_cons_zero, List.getD_cons_succ, List.getD_cons_zero, Nat.reduceAdd, Nat.zero_add] at hK9 ⊢
        go_simp; exact hK9 _ _ (Grow.refl _) rfl
      case s1_1 =>
        intro u9 w9 hT9 hV9 K9 hK9; have p9_0 := hV9 0 rfl; clear hV9
        simp only [isV, putAll, Act.put, List.setIfInBounds_toArray, List.set_cons_succ, List.set_cons_zero, List.getD_cons_succ, List.getD_cons_zero, Nat.reduceAdd, Nat.zero_add] at p9_0 hK9 ⊢
        simp only [p9_0] at hK9 ⊢
        clear p9_0; go_simp; exact hK9 _ _ (Grow.refl _) (vint (IntWalk.i64_in _ (by omega)))
      case s1_2 =>
        intro u9 w9 hT9 hV9 K9 hK9; have p9_1 := hV9 1 rfl; clear hV9
        simp only [isV, putAll, Act.put, List.setIfInBounds_toArray, List.set_cons_succ, List.set_cons_zero, List.getD_cons_succ, List.getD_cons_zero, Nat.reduceAdd, Nat.zero_add] at p9_1 hK9 ⊢
        simp only [p9_1] at hK9 ⊢
        clear p9_1; go_simp
        first | exact hK9 _ _ (Grow.refl _) rfl | (refine (HI.out _).mono ?_; rintro _ w8 ⟨rfl, hb8⟩; exact hK9 _ _ hb8 rfl)
      case s1_3 =>
        intro u9 w9 hT9 hV9 K9 hK9; clear hV9
        simp only [isV, putAll, Act.put, List.setIfInBounds_toArray, List.set_cons_succ, List.set_cons_zero, List.getD_cons_succ, List.getD_cons_zero, Nat.reduceAdd, Nat.zero_add] at hK9 ⊢
        go_simp; exact hK9 _ _ (Grow.refl _) rfl
      case s1_4 =>
        intro u9 w9 hT9 hV9 K9 hK9; have p9_3 := hV9 3 rfl; clear hV9
        simp only [isV, putAll, Act.put, List.setIfInBounds_toArray, List.set_cons_succ, List.set_cons_zero, List.getD_cons_succ, List.getD_cons_zero, Nat.reduceAdd, Nat.zero_add] at p9_3 hK9 ⊢
        simp only [p9_3] at hK9 ⊢
        clear p9_3; go_simp; exact hK9 _ _ (Grow.refl _) (vint (by rw [Int.tmod_eq_emod_of_nonneg (by omega)]; exact g2))
      case s1_5 =>
        intro u9 w9 hT9 hV9 K9 hK9; have p9_4 := hV9 4 rfl; clear hV9
        simp only [isV, putAll, Act.put, List.setIfInBounds_toArray, List.set_cons_succ, List.set_cons_zero, List.getD_cons_succ, List.getD_cons_zero, Nat.reduceAdd, Nat.zero_add] at p9_4 hK9 ⊢
        simp only [p9_4] at hK9 ⊢
        clear p9_4; go_simp; exact hK9 _ _ (Grow.refl _) (vint (IntWalk.i64_in _ (by omega)))
      case s1_6 =>
        intro u9 w9 hT9 hV9 K9 hK9; have p9_5 := hV9 5 rfl; clear hV9
        simp only [isV, putAll, Act.put, List.setIfInBounds_toArray, List.set_cons_succ, List.set_cons_zero, List.getD_cons_succ, List.getD_cons_zero, Nat.reduceAdd, Nat.zero_add] at p9_5 hK9 ⊢
        simp only [p9_5] at hK9 ⊢
        clear p9_5; go_simp; exact hK9 _ _ (Grow.refl _) (vint (IntWalk.u8_in _ (by omega)))
      case s1_7 =>
        intro u9 w9 hT9 hV9 K9 hK9; have p9_6 := hV9 6 rfl; clear hV9
        simp only [isV, putAll, Act.put, List.setIfInBounds_toArray, List.set_cons_succ, List.set_cons_zero, List.getD_cons_succ, List.getD_cons_zero, Nat.reduceAdd, Nat.zero_add] at p9_6 hK9 ⊢
        simp only [p9_6] at hK9 ⊢
        clear p9_6; go_simp; exact hK9 _ _ ((Below.refl _ _).alloc (Nat.le_refl _) _) ⟨_, rfl, (Own.new w9 5 [.int .u8 (48 + (d : Int))]).cell 0⟩
      case s1_8 =>
        intro u9 w9 hT9 hV9 K9 hK9; have p9_7 := hV9 7 rfl; clear hV9
        simp only [isV, putAll, Act.put, List.setIfInBounds_toArray, List.set_cons_succ, List.set_cons_zero, List.getD_cons_succ, List.getD_cons_zero, Nat.reduceAdd, Nat.zero_add] at p9_7 hK9 ⊢
        obtain ⟨A9, p9_7, q9⟩ := p9_7
        simp only [p9_7] at hK9 ⊢
        clear p9_7; have hbk := one_back w9 A9 d hd10 _ rfl q9; go_simp; exact hK9 _ _ (Grow.refl _) rfl
      case s1_9 =>
        intro u9 w9 hT9 hV9 K9 hK9; have p9_2 := hV9 2 rfl; have p9_8 := hV9 8 rfl; clear hV9
        simp only [isV, putAll, Act.put, List.setIfInBounds_toArray, List.set_cons_succ, List.set_cons_zero, List.getD_cons_succ, List.getD_cons_zero, Nat.reduceAdd, Nat.zero_add] at p9_2 p9_8 hK9 ⊢
        simp only [p9_2, p9_8] at hK9 ⊢
        clear p9_2 p9_8; go_simp; exact hK9 _ _ (Grow.refl _) rfl
      case s1_10 =>
        intro u9 w9 hT9 hV9 K9 hK9; have p9_9 := hV9 9 rfl; clear hV9
        simp only [isV, putAll, Act.put, List.setIfInBounds_toArray, List.set_cons_succ, List.set_cons_zero, List.getD_cons_succ, List.getD_cons_zero, Nat.reduceAdd, Nat.zero_add] at p9_9 hK9 ⊢
        simp only [p9_9] at hK9 ⊢
        clear p9_9; go_simp; exact hK9 _ _ (Grow.refl _) rfl
      case k1 =>
        intro i9 v9 w9 x9 h9 g9
        match i9, h9 with
        | 0, h9 => exact h9
        | 1, h9 => exact h9
        | 2, h9 => exact h9
        | 3, h9 => exact h9
        | 4, h9 => exact h9
        | 5, h9 => exact h9
        | 6, h9 => exact h9
        | 7, h9 => obtain ⟨A9, p9, q9⟩ := h9; exact ⟨A9, p9, below_cell g9 q9⟩
        | 8, h9 => exact h9
        | 9, h9 => exact h9
        | 10, h9 => exact h9
        | _ + 11, h9 => exact trivial
      intro u9 w9 hb9 hu9; have r9_0 := hu9 0 (by decide); have r9_1 := hu9 1 (by decide); have r9_2 := hu9 2 (by decide); have r9_3 := hu9 3 (by decide); have r9_4 := hu9 4 (by decide); have r9_5 := hu9 5 (by decide); have r9_6 := hu9 6 (by decide); have r9_7 := hu9 7 (by decide); have r9_8 := hu9 8 (by decide); have r9_9 := hu9 9 (by decide); have r9_10 := hu9 10 (by decide); clear hu9
      simp only [isV, putAll, Act.put, List.setIfInBounds_toArray, List.set_cons_succ, List.set_cons_zero, List.getD_cons_succ, List.getD_cons_zero, Nat.reduceAdd, Nat.zero_add] at r9_0 r9_1 r9_2 r9_3 r9_4 r9_5 r9_6 r9_7 r9_8 r9_9 r9_10 ⊢
      simp only [r9_0, r9_1, r9_2, r9_3, r9_4, r9_5, r9_6, r9_8, r9_9, r9_10]
      rw [← HS.out]
      go_wp2_with fail
      go_ret
      exact ⟨rfl, hb9⟩
open Go.RowKit Dg

def pad4 (x : Nat) : List Nat := [x / 1000, x / 100 % 10, x / 10 % 10, x % 10]
theorem dec_shift {V x : Nat} (hV : 0 < V) (hx : x < 10000) : dec (x + 10000 * V) = dec V ++ pad4 x := by
  have e1 : (x + 10000 * V) % 10 = x % 10 := by omega
  have e2 : (x + 10000 * V) / 10 % 10 = x / 10 % 10 := by omega
  have e3 : (x + 10000 * V) / 10 / 10 % 10 = x / 100 % 10 := by omega
  have e4 : (x + 10000 * V) / 10 / 10 / 10 % 10 = x / 1000 := by omega
  have e5 : (x + 10000 * V) / 10 / 10 / 10 / 10 = V := by omega
  rw [dec_step (n := x + 10000 * V) (by omega), dec_step (n := (x + 10000 * V) / 10) (by omega), dec_step (n := (x + 10000 * V) / 10 / 10) (by omega), dec_step (n := (x + 10000 * V) / 10 / 10 / 10) (by omega), e1, e2, e3, e4, e5]
  simp [pad4]
theorem dec_pad {x : Nat} (hx : x < 10000) : List.replicate (4 - (dec x).length) 0 ++ dec x = pad4 x ∧ (dec x).length ≤ 4 := by
  by_cases h1 : x < 10
  · rw [dec_small h1]; have a1 : x / 1000 = 0 := by omega
    have a2 : x / 100 % 10 = 0 := by omega
    have a3 : x / 10 % 10 = 0 := by omega
    have a4 : x % 10 = x := by omega
    simp [pad4, a1, a2, a3, a4]
  · by_cases h2 : x < 100
    · rw [dec_step (by omega), dec_small (n := x / 10) (by omega)]; have a1 : x / 1000 = 0 := by omega
      have a2 : x / 100 % 10 = 0 := by omega
      have a3 : x / 10 % 10 = x / 10 := by omega
      simp [pad4, a1, a2, a3]
    · by_cases h3 : x < 1000
      · rw [dec_step (by omega), dec_step (n := x / 10) (by omega), dec_small (n := x / 10 / 10) (by omega)]; have a1 : x / 1000 = 0 := by omega
        have a2 : x / 100 % 10 = x / 10 / 10 := by omega
        simp [pad4, a1, a2]
      · rw [dec_step (by omega), dec_step (n := x / 10) (by omega), dec_step (n := x / 10 / 10) (by omega), dec_small (n := x / 10 / 10 / 10) (by omega)]; have a1 : x / 1000 = x / 10 / 10 / 10 := by omega
        have a2 : x / 100 % 10 = x / 10 / 10 % 10 := by omega
        simp [pad4, a1, a2]

theorem zeros_ex {m : Nat} (h : m ≤ 4) : ((⟨#[48, 48, 48, 48]⟩ : ByteArray).extract m 4).data.toList = asc (List.replicate (4 - m) 0) := by
  match m, h with
  | 0, _ => decide
  | 1, _ => decide
  | 2, _ => decide
  | 3, _ => decide
  | 4, _ => decide
theorem str_shift {V y : Nat} (hV : 0 < V) (hy : y < 10000) : S V ++ ((⟨#[48, 48, 48, 48]⟩ : ByteArray).extract (S y).size 4 ++ S y) = S (y + 10000 * V) := by
  apply ba_ext
  have h1 := zeros_ex (m := (dec y).length) (dec_pad hy).2; rw [S_list, dec_shift hV hy, asc_append, ← (dec_pad hy).1, asc_append, ← h1, S_size]; rw [ByteArray.data_append, ByteArray.data_append, Array.toList_append, Array.toList_append, S_list, S_list]

theorem textr_any {v : Value} {n : Nat} (w : World) (hv : BigV w v n) (hl : (dk n).length ≤ 300000) :
    Calls Tryz.prog 86 #[v] w fun e w' => e = .returned (.string (S n)) ∧ Below w.heap.size w w' := by
  obtain ⟨A, c, rfl, hc1, hc2, hA⟩ := hv; unfold maxLen at hc2
  rcases Nat.eq_zero_or_pos n with rfl | hn0
  · have h0 : (dk 0).length = 0 := rfl; rw [h0]
    go_enter Tryz.func86, Tryz.ntmps86
    go_wp2
    go_ret
    exact ⟨rfl, Below.refl _ _⟩
  · have hl0 : 0 < (dk n).length := List.length_pos_iff.2 fun e => by have := (Dg.dg_nil b10k).1 e; omega
    obtain ⟨L1, hL1⟩ : ∃ L1, (dk n).length = L1 + 1 := ⟨(dk n).length - 1, by omega⟩; have hlast := Dg.dg_last b10k hL1; have hlt1 : L1 < (dk n).length := by omega
    have lm : Hid (Dg.val 10000 (dk n) = n) := Dg.val_dg b10k n; obtain ⟨b, off, rfl, c1⟩ := hA.get hlt1; have hx := dk_get_lt n L1 hlt1; have HV0 : Hid (Dg.val 10000 ((dk n).drop L1) = (dk n)[L1]) := by
      show _ = _
      rw [List.drop_eq_getElem_cons hlt1, List.drop_of_length_le (by omega)]
      show _ + 10000 * 0 = _
      rfl
    have hx0 : 0 < (dk n)[L1] := Nat.pos_of_ne_zero hlast; have HS0 : Hid ((S (dk n)[L1]).size ≤ 4) := by
      show _ ≤ _
      rw [S_size]; exact (dec_pad hx).2
    have HLL := Lib.hid hL1; have HA := Lib.hid hA; rw [hL1] at hc1 ⊢; have hL3 : L1 ≤ 300000 := by omega
    clear hL1 hlast hA hl hl0; generalize (dk n)[L1] = x at c1 hx HV0 hx0 HS0
    go_enter Tryz.func86, Tryz.ntmps86
    go_wp2_with fail
    refine (small_ref x hx _).mono ?_; rintro e w1 ⟨rfl, hb1⟩
    go_wp2_with fail
    clear c1
    go_loopg [3, 4] L1 (fun q s3 s4 wr => ∃ (k V : Nat) (z : Int), q = k ∧ k ≤ L1 ∧ s4 = .int .i64 z ∧ z = (k : Int) - 1 ∧ s3 = .string (S V) ∧ 0 < V ∧ (S V).size ≤ 4 * (L1 + 1 - k) ∧ Hid (Dg.val 10000 ((dk n).drop k) = V) ∧ Below w.heap.size w wr)
    case atStart => exact ⟨L1, x, _, rfl, Nat.le_refl _, rfl, by omega, rfl, hx0, by have := HS0.out; omega, HV0, hb1⟩
    case round =>
      obtain ⟨k, V, z, hq, hk, rfl, hz, rfl, hV0, hVs, HV, hbw⟩ := hrel; have HQ := Lib.hid hq; clear hq
      rcases Nat.eq_zero_or_pos k with rfl | hk0
      · obtain rfl : z = -1 := by omega
        clear hz; have HF : Hid (V = n) := by
          show V = n
          rw [← HV.out, List.drop_zero, lm.out]
        have HSV := Lib.hid (congrArg S HF.out); clear HF
        go_wp2
        go_ret
        exact ⟨congrArg (fun t => Ending.returned (Value.string t)) HSV.out, hbw⟩
      · obtain ⟨k1, rfl⟩ : ∃ k1, k = k1 + 1 := ⟨k - 1, by omega⟩; obtain rfl : z = (k1 : Int) := by omega
        clear hz; have hkl : k1 < (dk n).length := by omega
        obtain ⟨b', off', e', c2⟩ := (HA.out.below hbw).get hkl
        cases e'
        have hy := dk_get_lt n k1 hkl; have HVN : Hid (Dg.val 10000 ((dk n).drop k1) = (dk n)[k1] + 10000 * V) := by
          show _ = _
          rw [List.drop_eq_getElem_cons hkl]
          show _ + 10000 * Dg.val 10000 ((dk n).drop (k1 + 1)) = _
          rw [HV.out]
        generalize (dk n)[k1] = y at c2 hy HVN; have hk2 : k1 < L1 + 1 := by omega
        clear hkl
        go_wp2_with fail
        refine (small_ref y hy _).mono ?_; rintro e w2 ⟨rfl, hb2⟩; have hys : (S y).size ≤ 4 := by rw [S_size]; exact (dec_pad hy).2
        go_wp2_with fail
        go_roundg k1
        case measure => have := HQ.out; omega
        case rel =>
          refine ⟨k1, y + 10000 * V, _, rfl, by omega, rfl, by omega, congrArg Value.string (str_shift hV0 hy), by omega, ?_, HVN, hbw.trans (hb2.mono hbw.size)⟩; rw [S_size] at hVs ⊢; rw [dec_shift hV0 hy, List.length_append]
          show _ + 4 ≤ _
          omega
open Go.RowKit Dg

theorem done_ref {v : Value} {n : Nat} (w : World) (hv : BigV w v n) (hl : (dk n).length ≤ 300000) :
    Calls Tryz.prog 62 #[v] w fun e w' => TextRes n e ∧ Below w.heap.size w w' := by
  have HS := Lib.hid (textr_any w hv hl); clear hv; have hsz := S_size n
  by_cases hok : OkN n
  · have hok1 : (S n).size ≤ 20000 := by rw [hsz]; exact hok
    have d3 : decide ((20000 : Int) < ((S n).size : Int)) = false := decide_eq_false (by omega); have d4 : decide (20000 < (S n).size) = false := decide_eq_false (by omega); have hok' := Lib.hid hok; clear hok hsz
    go_enter Tryz.func62, Tryz.ntmps62
    go_wp2_with fail
    refine HS.out.mono ?_; rintro e w1 ⟨rfl, hb1⟩
    go_wp2
    go_ret2
    exact ⟨.inl ⟨hok'.out, rfl⟩, hb1⟩
  · have hok1 : 20000 < (S n).size := by rw [hsz]; unfold OkN at hok; omega
    have d3 : decide ((20000 : Int) < ((S n).size : Int)) = true := decide_eq_true (by omega); have d4 : decide (20000 < (S n).size) = true := decide_eq_true hok1; have hok' := Lib.hid hok; clear hok hsz hok1
    go_enter Tryz.func62, Tryz.ntmps62
    go_wp2_with fail
    refine HS.out.mono ?_; rintro e w1 ⟨rfl, hb1⟩
    go_wp2
    go_ret2
    exact ⟨.inr ⟨hok'.out, rfl⟩, hb1⟩

theorem dk_dec (n : Nat) : (dk n).length ≤ (dec n).length := by
  refine Dg.dg_le b10k (Nat.lt_of_lt_of_le (dec_lt n) (Nat.pow_le_pow_left (by decide) _))
theorem OkN.dk {n : Nat} (h : OkN n) : (dk n).length ≤ 20000 := Nat.le_trans (dk_dec n) h
theorem big_S (n : Nat) (w : World) (h : OkN n) : Calls Tryz.prog 58 #[.string (S n)] w fun e w' => ∃ v, e = .returned v ∧ BigV w' v n ∧ Below w.heap.size w w' := by
  have := big_any (S n) (dec n) w (S_list n) (dec_dig n) (by have : (dec n).length ≤ 20000 := h; omega); rw [num_dec] at this; exact this

end Go.Proofs.YtocknfhgjmaibaaGreatDoor
