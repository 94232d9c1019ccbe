/- The reference's numbers: small, Text, done. -/
import Derived.Test.YtofijnhkoadfjaaRe
import Derived.Test.YtofijnhkoadfjaaReg3
namespace Go.Proofs.Ytofijnhkoadfjaa
set_option linter.unusedSimpArgs false
set_option linter.unusedVariables false
set_option linter.unusedSectionVars false
open Go.RowKit Dg

theorem dec_small {n : Nat} (h : n < 10) : dec n = [n] := by
  have hx : ∀ d ∈ [n], d < 10 := by
    intro d hd
    have : d = n := by simpa using hd
    omega
  have ht : Txt [n] := ⟨hx, by simp, fun h => by simp at h⟩
  have := dec_num ht
  have e : num [n] = n := by simp [num]
  rw [e] at this; exact this
theorem dec_step {n : Nat} (h : 10 ≤ n) : dec n = dec (n / 10) ++ [n % 10] := by
  have h1 : dec n = (Dg.dg 10 n).reverse := if_neg (by omega)
  have h2 : dec (n / 10) = (Dg.dg 10 (n / 10)).reverse := if_neg (by omega)
  rw [h1, h2, Dg.dg_pos (by decide) (by omega)]; simp

/-- A slice of one byte, made a string. -/
theorem one_back (w : World) (A : Nat) (x : Nat) (hx : x < 10) (z : Int) (hz : z = 48 + (x : Int)) (h : w.cell? ⟨A, 0, none⟩ = some (.int .u8 z)) :
    (convert 97 9 (.slice (some ⟨A, 0, none⟩) 1 1)).run Try.prog w = .ok (.string ⟨(asc [x]).toArray⟩) w := by
  exact run_convert_bytes_back (P := Try.prog) w 97 9 5 ⟨A, 0, none⟩ 1 (asc [x]) Try.underlying97 Try.underlying5 Try.underlying9 (by
    intro j hj
    have hj0 : j = 0 := by simpa [asc] using hj
    subst hj0
    rw [Addr.add_lit]
    have e : (asc [x])[0] = (48 + x).toUInt8 := rfl
    rw [e, asc_toNat hx]
    show w.cell? ⟨A, 0, none⟩ = _
    rw [h, hz]; rfl)
theorem S_small {n : Nat} (h : n < 10) : S n = ⟨(asc [n]).toArray⟩ := by unfold S; rw [dec_small h]
theorem S_step {n : Nat} (h : 10 ≤ n) : S n = S (n / 10) ++ ⟨(asc [n % 10]).toArray⟩ := by
  apply ba_ext
  rw [S_list, dec_step h, asc_append]
  simp [S]

set_option maxRecDepth 100000 in
set_option maxHeartbeats 400000 in
theorem small_ref (n : Nat) (hn : n < 10000) : ∀ w : World, Calls Try.prog 88 #[.int .i64 n] w fun e w' => e = .returned (.string (S n)) ∧ Below w.heap.size w w' := by
  induction n using Nat.strongRecOn with
  | ind n ih =>
    intro w
    by_cases h10 : n < 10
    · clear ih
      have hback := one_back (w.alloc (.cells #[.int .u8 (48 + (n : Int))] 5)) w.heap.size n h10 _ rfl (by
        have h := (Own.new w 5 [.int .u8 (48 + (n : Int))]).cell 0
        exact h)
      rw [← S_small h10] at hback
      go_enter Try.func88, Try.ntmps88
      go_wp2_with fail
      go_ret
      exact ⟨rfl, (Below.refl _ _).alloc (Nat.le_refl _) _⟩
    · obtain ⟨k, hk⟩ : ∃ k, k = n / 10 := ⟨_, rfl⟩
      obtain ⟨d, hd⟩ : ∃ d, d = n % 10 := ⟨_, rfl⟩
      have HI := Lib.hid (ih (n / 10) (by omega) (by omega))
      have HS := Lib.hid (S_step (n := n) (by omega))
      rw [← hk] at HI HS
      rw [← hd] at HS
      clear ih
      have g1 : (n : Int) / 10 = (k : Int) := by omega
      have g2 : (n : Int) % 10 = (d : Int) := by omega
      have hd10 : d < 10 := by omega
      have hsz : ¬ 9223372036854775807 < (S k).size + (asc [d]).length := by
        have h1 : (dec k).length ≤ 4 := dec_len_le (by decide) (by omega)
        rw [S_size, asc_length]
        show ¬ _ < _ + 1
        omega
      clear hk hd
      go_enter Try.func88, Try.ntmps88
      go_wp2_with fail
      refine wp_reg_rel [some 10, some 11, some 12, some 13, some 14, some 15, some 16, some 17, some 18, some 19, some 2] [isV (.int .i64 n), isV (.int .i64 (k : Int)), isV (.string (S k)), isV (.int .i64 n), isV (.int .i64 (d : Int)), isV (.int .i64 (48 + (d : Int))), isV (.int .u8 (48 + (d : Int))), (fun v w => ∃ A : Nat, v = .slice (some ⟨A, 0, none⟩) 1 1 ∧ w.cell? ⟨A, 0, none⟩ = some (.int .u8 (48 + (d : Int)))), isV (.string ⟨(asc [d]).toArray⟩), isV (.string (S k ++ ⟨(asc [d]).toArray⟩)), isV (.string (S k ++ ⟨(asc [d]).toArray⟩))] rfl (by kernel_rfl) rfl rfl ?k1 ⟨?s1_0, ?s1_1, ?s1_2, ?s1_3, ?s1_4, ?s1_5, ?s1_6, ?s1_7, ?s1_8, ?s1_9, ?s1_10, trivial⟩ ?p1
      case s1_0 =>
        intro u9 w9 hT9 hV9 K9 hK9
        clear hV9
        simp only [isV, putAll, Act.put, List.setIfInBounds_toArray, List.set_cons_succ, List.set_cons_zero, List.getD_cons_succ, List.getD_cons_zero, Nat.reduceAdd, Nat.zero_add] at hK9 ⊢
        go_simp
        exact hK9 _ _ (Grow.refl _) rfl
      case s1_1 =>
        intro u9 w9 hT9 hV9 K9 hK9
        have p9_0 := hV9 0 rfl
        clear hV9
        simp only [isV, putAll, Act.put, List.setIfInBounds_toArray, List.set_cons_succ, List.set_cons_zero, List.getD_cons_succ, List.getD_cons_zero, Nat.reduceAdd, Nat.zero_add] at p9_0 hK9 ⊢
        simp only [p9_0] at hK9 ⊢
        clear p9_0
        go_simp; exact hK9 _ _ (Grow.refl _) (vint (IntWalk.i64_in _ (by omega)))
      case s1_2 =>
        intro u9 w9 hT9 hV9 K9 hK9
        have p9_1 := hV9 1 rfl
        clear hV9
        simp only [isV, putAll, Act.put, List.setIfInBounds_toArray, List.set_cons_succ, List.set_cons_zero, List.getD_cons_succ, List.getD_cons_zero, Nat.reduceAdd, Nat.zero_add] at p9_1 hK9 ⊢
        simp only [p9_1] at hK9 ⊢
        clear p9_1
        go_simp
        first | exact hK9 _ _ (Grow.refl _) rfl | (refine (HI.out _).mono ?_; rintro _ w8 ⟨rfl, hb8⟩; exact hK9 _ _ hb8 rfl)
      case s1_3 =>
        intro u9 w9 hT9 hV9 K9 hK9
        clear hV9
        simp only [isV, putAll, Act.put, List.setIfInBounds_toArray, List.set_cons_succ, List.set_cons_zero, List.getD_cons_succ, List.getD_cons_zero, Nat.reduceAdd, Nat.zero_add] at hK9 ⊢
        go_simp
        exact hK9 _ _ (Grow.refl _) rfl
      case s1_4 =>
        intro u9 w9 hT9 hV9 K9 hK9
        have p9_3 := hV9 3 rfl
        clear hV9
        simp only [isV, putAll, Act.put, List.setIfInBounds_toArray, List.set_cons_succ, List.set_cons_zero, List.getD_cons_succ, List.getD_cons_zero, Nat.reduceAdd, Nat.zero_add] at p9_3 hK9 ⊢
        simp only [p9_3] at hK9 ⊢
        clear p9_3
        go_simp; exact hK9 _ _ (Grow.refl _) (vint (by rw [Int.tmod_eq_emod_of_nonneg (by omega)]; exact g2))
      case s1_5 =>
        intro u9 w9 hT9 hV9 K9 hK9
        have p9_4 := hV9 4 rfl
        clear hV9
        simp only [isV, putAll, Act.put, List.setIfInBounds_toArray, List.set_cons_succ, List.set_cons_zero, List.getD_cons_succ, List.getD_cons_zero, Nat.reduceAdd, Nat.zero_add] at p9_4 hK9 ⊢
        simp only [p9_4] at hK9 ⊢
        clear p9_4
        go_simp; exact hK9 _ _ (Grow.refl _) (vint (IntWalk.i64_in _ (by omega)))
      case s1_6 =>
        intro u9 w9 hT9 hV9 K9 hK9
        have p9_5 := hV9 5 rfl
        clear hV9
        simp only [isV, putAll, Act.put, List.setIfInBounds_toArray, List.set_cons_succ, List.set_cons_zero, List.getD_cons_succ, List.getD_cons_zero, Nat.reduceAdd, Nat.zero_add] at p9_5 hK9 ⊢
        simp only [p9_5] at hK9 ⊢
        clear p9_5
        go_simp; exact hK9 _ _ (Grow.refl _) (vint (IntWalk.u8_in _ (by omega)))
      case s1_7 =>
        intro u9 w9 hT9 hV9 K9 hK9
        have p9_6 := hV9 6 rfl
        clear hV9
        simp only [isV, putAll, Act.put, List.setIfInBounds_toArray, List.set_cons_succ, List.set_cons_zero, List.getD_cons_succ, List.getD_cons_zero, Nat.reduceAdd, Nat.zero_add] at p9_6 hK9 ⊢
        simp only [p9_6] at hK9 ⊢
        clear p9_6
        go_simp; exact hK9 _ _ ((Below.refl _ _).alloc (Nat.le_refl _) _) ⟨_, rfl, (Own.new w9 5 [.int .u8 (48 + (d : Int))]).cell 0⟩
      case s1_8 =>
        intro u9 w9 hT9 hV9 K9 hK9
        have p9_7 := hV9 7 rfl
        clear hV9
        simp only [isV, putAll, Act.put, List.setIfInBounds_toArray, List.set_cons_succ, List.set_cons_zero, List.getD_cons_succ, List.getD_cons_zero, Nat.reduceAdd, Nat.zero_add] at p9_7 hK9 ⊢
        obtain ⟨A9, p9_7, q9⟩ := p9_7
        simp only [p9_7] at hK9 ⊢
        clear p9_7
        have hbk := one_back w9 A9 d hd10 _ rfl q9; go_simp; exact hK9 _ _ (Grow.refl _) rfl
      case s1_9 =>
        intro u9 w9 hT9 hV9 K9 hK9
        have p9_2 := hV9 2 rfl
        have p9_8 := hV9 8 rfl
        clear hV9
        simp only [isV, putAll, Act.put, List.setIfInBounds_toArray, List.set_cons_succ, List.set_cons_zero, List.getD_cons_succ, List.getD_cons_zero, Nat.reduceAdd, Nat.zero_add] at p9_2 p9_8 hK9 ⊢
        simp only [p9_2, p9_8] at hK9 ⊢
        clear p9_2 p9_8
        go_simp
        exact hK9 _ _ (Grow.refl _) rfl
      case s1_10 =>
        intro u9 w9 hT9 hV9 K9 hK9
        have p9_9 := hV9 9 rfl
        clear hV9
        simp only [isV, putAll, Act.put, List.setIfInBounds_toArray, List.set_cons_succ, List.set_cons_zero, List.getD_cons_succ, List.getD_cons_zero, Nat.reduceAdd, Nat.zero_add] at p9_9 hK9 ⊢
        simp only [p9_9] at hK9 ⊢
        clear p9_9
        go_simp
        exact hK9 _ _ (Grow.refl _) rfl
      case k1 =>
        intro i9 v9 w9 x9 h9 g9
        match i9, h9 with
        | 0, h9 => exact h9
        | 1, h9 => exact h9
        | 2, h9 => exact h9
        | 3, h9 => exact h9
        | 4, h9 => exact h9
        | 5, h9 => exact h9
        | 6, h9 => exact h9
        | 7, h9 => obtain ⟨A9, p9, q9⟩ := h9; exact ⟨A9, p9, below_cell g9 q9⟩
        | 8, h9 => exact h9
        | 9, h9 => exact h9
        | 10, h9 => exact h9
        | _ + 11, h9 => exact trivial
      intro u9 w9 hb9 hu9
      have r9_0 := hu9 0 (by decide)
      have r9_1 := hu9 1 (by decide)
      have r9_2 := hu9 2 (by decide)
      have r9_3 := hu9 3 (by decide)
      have r9_4 := hu9 4 (by decide)
      have r9_5 := hu9 5 (by decide)
      have r9_6 := hu9 6 (by decide)
      have r9_7 := hu9 7 (by decide)
      have r9_8 := hu9 8 (by decide)
      have r9_9 := hu9 9 (by decide)
      have r9_10 := hu9 10 (by decide)
      clear hu9
      simp only [isV, putAll, Act.put, List.setIfInBounds_toArray, List.set_cons_succ, List.set_cons_zero, List.getD_cons_succ, List.getD_cons_zero, Nat.reduceAdd, Nat.zero_add] at r9_0 r9_1 r9_2 r9_3 r9_4 r9_5 r9_6 r9_7 r9_8 r9_9 r9_10 ⊢
      simp only [r9_0, r9_1, r9_2, r9_3, r9_4, r9_5, r9_6, r9_8, r9_9, r9_10]
      rw [← HS.out]
      go_wp2_with fail
      go_ret
      exact ⟨rfl, hb9⟩
end Go.Proofs.Ytofijnhkoadfjaa
