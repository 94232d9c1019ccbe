/- The reference's numbers: Of64, Plus, Minus. -/
import Derived.Test.YtofijnhkoadfjaaRw
namespace Go.Proofs.Ytofijnhkoadfjaa
set_option linter.unusedSimpArgs false
set_option linter.unusedVariables false
set_option linter.unusedSectionVars false
open Go.RowKit

theorem int_info : (Try.prog.info? 3).map (fun i => (i.zero, i.size, i.bytes)) = some (some (.int .i64 0), 1, 8) := by kernel_rfl
theorem bigv_own {w : World} {base : Nat} {t : TypeId} {v : Value} {n : Nat} (h : w.ownsRow base t 1 v (dk n).length (ck (dk n))) : BigV w v n := by
  obtain ⟨A, c, rfl, h1, h2, h3⟩ := Sl.of_own h
  exact ⟨A, c, rfl, h1, h2, h3⟩
theorem ck_snoc {O : List Nat} {x : Nat} {z : Int} (h : z = x) : ck O ++ [.int .i64 z] = ck (O ++ [x]) := by subst h; simp [ck]
theorem dig_snoc {b : Nat} {O : List Nat} {x : Nat} (h : Dg.Dig b O) (hx : x < b) : Dg.Dig b (O ++ [x]) := by
  intro y hy
  rcases List.mem_append.1 hy with h1 | h1
  · exact h y h1
  · have : y = x := by simpa using h1
    omega

set_option maxHeartbeats 2000000 in
theorem of64_ref (n : Nat) (hn : n < 18446744073709551616) (w : World) :
    Calls Try.prog 75 #[.int .u64 n] w fun e w' => ∃ v, e = .returned v ∧ BigV w' v n ∧ Below w.heap.size w w' := by
  obtain ⟨i0, hi0, hz0, hz1, hz2⟩ := info_parts int_info
  have hl : (dk n).length ≤ 5 := Dg.dg_le b10k (Nat.lt_of_lt_of_le hn (by decide))
  have HL := Lib.hid hl
  clear hl
  go_enter Try.func75, Try.ntmps75
  go_wp2
  go_loopg [0, 3] n (fun q s0 s3 wr => ∃ (X : Nat) (T : List Nat), q = X ∧ s0 = .int .u64 X ∧ X < 18446744073709551616 ∧ Hid (dk n = T ++ dk X) ∧ wr.ownsRow w.heap.size 3 1 s3 T.length (ck T) ∧ Below w.heap.size w wr)
  case atStart => exact ⟨n, [], rfl, rfl, hn, rfl, World.ownsRow_nil _ _ _ _, Below.refl _ _⟩
  case round =>
    obtain ⟨X, T, hq, rfl, hX, HT, hown, hbw⟩ := hrel
    have HQ := Lib.hid hq; clear hq
    rcases Nat.eq_zero_or_pos X with rfl | hX0
    · have HF : Hid (BigV wr u3 n) := by
        show BigV _ _ _
        have e := HT.out
        have e0 : dk 0 = [] := rfl
        rw [e0, List.append_nil] at e
        rw [← e] at hown
        exact bigv_own hown
      clear hown
      go_wp2
      go_ret
      exact ⟨_, rfl, HF.out, hbw⟩
    · have HN : Hid (dk n = (T ++ [X % 10000]) ++ dk (X / 10000)) := by
        show _ = _
        rw [HT.out]
        have : dk X = X % 10000 :: dk (X / 10000) := Dg.dg_pos b10k hX0
        rw [this]; simp
      have htl : T.length ≤ 5 := by
        have h1 := HT.out
        have h2 := HL.out
        rw [h1, List.length_append] at h2
        omega
      have h63 : T.length + 1 ≤ maxLen := by unfold maxLen; omega
      clear HT
      have hszw := hbw.size
      go_wp2_with (at_builtin; refine wpList_append_own_at _ rfl (.tmp 6) (.tmp 10) 22 rfl w.heap.size 3 i0 _ 1 8 Try.underlying22 hi0 hz0 hz1 hz2 rfl (by decide) _ T.length (ck T) rfl (hown.alloc _) ⟨wr.heap.size, 0, none⟩ 1 1 [.int .i64 ((X : Int) % 10000)] rfl rfl (new_cells _ _ _ _ rfl) (by simp [Value.oneCell']) h63 (by omega) (by rw [size1]; omega) ?_)
      intro v' w' hown' hgrow _ hat
      have hbw' : Below w.heap.size w w' := (hbw.alloc hbw.size _).grown hgrow (by rw [size1]; omega) (own_lt hown)
      have H' : Hid (w'.ownsRow w.heap.size 3 1 v' (T ++ [X % 10000]).length (ck (T ++ [X % 10000]))) := by
        show World.ownsRow _ _ _ _ _ _ _
        rw [← ck_snoc (z := (X : Int) % 10000) (by omega), List.length_append]; exact hown'
      clear hgrow hat hown' hown
      go_wp2_with fail
      go_roundg (X / 10000)
      case measure => have := HQ.out; omega
      case rel => exact ⟨X / 10000, _, rfl, by go_num, by omega, HN, H'.out, hbw'⟩

theorem take_one_more {l : List Nat} {i : Nat} (h : l.length ≤ i) : Dg.val 10000 (l.take (i + 1)) = Dg.val 10000 (l.take i) + 10000 ^ i * 0 := by
  rw [List.take_of_length_le (by omega), List.take_of_length_le h, Nat.mul_zero, Nat.add_zero]

set_option maxRecDepth 100000 in
set_option maxHeartbeats 4000000 in
theorem plus_ref {v1 v2 : Value} {m n : Nat} (w : World) (h1 : BigV w v1 m) (h2 : BigV w v2 n) (hm : (dk m).length ≤ 1048576) (hn : (dk n).length ≤ 1048576) :
    Calls Try.prog 59 #[v1, v2] w fun e w' => ∃ v, e = .returned v ∧ BigV w' v (m + n) ∧ Below w.heap.size w w' := by
  obtain ⟨A, c, rfl, hc1, hc2, hA⟩ := h1
  obtain ⟨A', c', rfl, hd1, hd2, hA'⟩ := h2
  obtain ⟨i0, hi0, hz0, hz1, hz2⟩ := info_parts int_info
  unfold maxLen at hc2 hd2
  have lm : Hid (Dg.val 10000 (dk m) = m) := Dg.val_dg b10k m
  have ln : Hid (Dg.val 10000 (dk n) = n) := Dg.val_dg b10k n
  obtain ⟨M, hM⟩ : ∃ M, M = max (dk m).length (dk n).length := ⟨_, rfl⟩
  have HM := Lib.hid hM
  have hM1 : (dk m).length ≤ M := by omega
  have hM2 : (dk n).length ≤ M := by omega
  have hM3 : M ≤ 1048576 := by omega
  clear hM
  go_enter Try.func59, Try.ntmps59
  go_wp2_with fail
  go_loopg [5, 6, 7] (M + 2) (fun q s5 s6 s7 wr => ∃ (i cr : Nat) (O : List Nat), q = M + 2 - i ∧ s6 = .int .i64 cr ∧ s7 = .int .i64 i ∧ cr ≤ 1 ∧ O.length = i ∧ (i ≤ M ∨ (i = M + 1 ∧ cr = 0)) ∧ Hid (Dg.Dig 10000 O) ∧ Hid (Dg.val 10000 O + 10000 ^ i * cr = Dg.val 10000 ((dk m).take i) + Dg.val 10000 ((dk n).take i)) ∧ wr.ownsRow w.heap.size 3 1 s5 O.length (ck O) ∧ Below w.heap.size w wr)
  case atStart => exact ⟨0, 0, [], rfl, rfl, rfl, by omega, rfl, by omega, fun x hx => by simp at hx, rfl, World.ownsRow_nil _ _ _ _, Below.refl _ _⟩
  case round =>
    obtain ⟨i, cr, O, hq, rfl, rfl, hcr, hO, hi, HD, HV, hown, hbw⟩ := hrel
    have HQ := Lib.hid hq; clear hq
    have hi2 : i ≤ M + 1 := by omega
    have HO := Lib.hid hO
    rw [hO] at hown
    clear hO
    by_cases hla : i < (dk m).length
    · have hi1 : i < M := by omega
      clear hi
      obtain ⟨b0, off, rfl, c1⟩ := (hA.below hbw).get hla
      have ha := dk_get_lt m i hla
      have HVM : Hid (Dg.val 10000 ((dk m).take (i + 1)) = Dg.val 10000 ((dk m).take i) + 10000 ^ i * (dk m)[i]) := Dg.val_take_succ (b := 10000) hla
      generalize (dk m)[i] = a at c1 ha HVM
      by_cases hlb : i < (dk n).length
      · skip
        obtain ⟨b1, off', rfl, c2⟩ := (hA'.below hbw).get hlb
        have hb := dk_get_lt n i hlb
        have HVN : Hid (Dg.val 10000 ((dk n).take (i + 1)) = Dg.val 10000 ((dk n).take i) + 10000 ^ i * (dk n)[i]) := Dg.val_take_succ (b := 10000) hlb
        generalize (dk n)[i] = b at c2 hb HVN
        have HSTEP := Lib.hid (add_step (B := 10000) (a := a) (b := b) HV.out (rfl : cr + a + b = cr + a + b))
        clear HV
        have h63 : i + 1 ≤ maxLen := by unfold maxLen; omega
        have hszw := hbw.size
        go_wp2_with (at_builtin; refine wpList_append_own_at _ rfl (.tmp 44) (.tmp 47) 22 rfl w.heap.size 3 i0 _ 1 8 Try.underlying22 hi0 hz0 hz1 hz2 rfl (by decide) _ i (ck O) rfl (hown.alloc _) ⟨wr.heap.size, 0, none⟩ 1 1 [.int .i64 (((cr : Int) + a + b) % 10000)] rfl rfl (new_cells _ _ _ _ rfl) (by simp [Value.oneCell']) h63 (by omega) (by rw [size1]; omega) ?_)
        intro v' w' hown' hgrow _ hat
        have hbw' : Below w.heap.size w w' := (hbw.alloc hbw.size _).grown hgrow (by rw [size1]; omega) (own_lt hown)
        have H' : Hid (w'.ownsRow w.heap.size 3 1 v' (O ++ [(cr + a + b) % 10000]).length (ck (O ++ [(cr + a + b) % 10000]))) := by
          show World.ownsRow _ _ _ _ _ _ _
          rw [← ck_snoc (z := ((cr : Int) + a + b) % 10000) (by omega), List.length_append, HO.out]; exact hown'
        clear hgrow hat hown' hown
        go_wp2_with fail
        go_roundg (M + 2 - (i + 1))
        case measure => have := HQ.out; omega
        case rel =>
          refine ⟨i + 1, (cr + a + b) / 10000, _, rfl, by go_num, by go_num, by omega, by rw [List.length_append, HO.out]; rfl, by omega, dig_snoc HD.out (by omega), ?_, H'.out, hbw'⟩
          show _ = _
          rw [Dg.val_snoc, HO.out, Nat.pow_succ, HVM.out, HVN.out]
          exact HSTEP.out
      · skip
        have HVN : Hid (Dg.val 10000 ((dk n).take (i + 1)) = Dg.val 10000 ((dk n).take i) + 10000 ^ i * 0) := take_one_more (by omega)
        have dB : decide ((i : Int) < ((dk n).length : Int)) = false := decide_eq_false (by omega)
        have HSTEP := Lib.hid (add_step (B := 10000) (a := a) (b := 0) HV.out (rfl : cr + a + 0 = cr + a + 0))
        clear HV
        have h63 : i + 1 ≤ maxLen := by unfold maxLen; omega
        have hszw := hbw.size
        go_wp2_with (at_builtin; refine wpList_append_own_at _ rfl (.tmp 44) (.tmp 47) 22 rfl w.heap.size 3 i0 _ 1 8 Try.underlying22 hi0 hz0 hz1 hz2 rfl (by decide) _ i (ck O) rfl (hown.alloc _) ⟨wr.heap.size, 0, none⟩ 1 1 [.int .i64 (((cr : Int) + a) % 10000)] rfl rfl (new_cells _ _ _ _ rfl) (by simp [Value.oneCell']) h63 (by omega) (by rw [size1]; omega) ?_)
        intro v' w' hown' hgrow _ hat
        have hbw' : Below w.heap.size w w' := (hbw.alloc hbw.size _).grown hgrow (by rw [size1]; omega) (own_lt hown)
        have H' : Hid (w'.ownsRow w.heap.size 3 1 v' (O ++ [(cr + a) % 10000]).length (ck (O ++ [(cr + a) % 10000]))) := by
          show World.ownsRow _ _ _ _ _ _ _
          rw [← ck_snoc (z := ((cr : Int) + a) % 10000) (by omega), List.length_append, HO.out]; exact hown'
        clear hgrow hat hown' hown
        go_wp2_with fail
        go_roundg (M + 2 - (i + 1))
        case measure => have := HQ.out; omega
        case rel =>
          refine ⟨i + 1, (cr + a) / 10000, _, rfl, by go_num, by go_num, by omega, by rw [List.length_append, HO.out]; rfl, by omega, dig_snoc HD.out (by omega), ?_, H'.out, hbw'⟩
          show _ = _
          rw [Dg.val_snoc, HO.out, Nat.pow_succ, HVM.out, HVN.out]
          exact HSTEP.out
    · skip
      have HVM : Hid (Dg.val 10000 ((dk m).take (i + 1)) = Dg.val 10000 ((dk m).take i) + 10000 ^ i * 0) := take_one_more (by omega)
      have dA : decide ((i : Int) < ((dk m).length : Int)) = false := decide_eq_false (by omega)
      by_cases hlb : i < (dk n).length
      · have hi1 : i < M := by omega
        clear hi
        obtain ⟨b1, off', rfl, c2⟩ := (hA'.below hbw).get hlb
        have hb := dk_get_lt n i hlb
        have HVN : Hid (Dg.val 10000 ((dk n).take (i + 1)) = Dg.val 10000 ((dk n).take i) + 10000 ^ i * (dk n)[i]) := Dg.val_take_succ (b := 10000) hlb
        generalize (dk n)[i] = b at c2 hb HVN
        have HSTEP := Lib.hid (add_step (B := 10000) (a := 0) (b := b) HV.out (rfl : cr + 0 + b = cr + 0 + b))
        clear HV
        have h63 : i + 1 ≤ maxLen := by unfold maxLen; omega
        have hszw := hbw.size
        go_wp2_with (at_builtin; refine wpList_append_own_at _ rfl (.tmp 44) (.tmp 47) 22 rfl w.heap.size 3 i0 _ 1 8 Try.underlying22 hi0 hz0 hz1 hz2 rfl (by decide) _ i (ck O) rfl (hown.alloc _) ⟨wr.heap.size, 0, none⟩ 1 1 [.int .i64 (((cr : Int) + b) % 10000)] rfl rfl (new_cells _ _ _ _ rfl) (by simp [Value.oneCell']) h63 (by omega) (by rw [size1]; omega) ?_)
        intro v' w' hown' hgrow _ hat
        have hbw' : Below w.heap.size w w' := (hbw.alloc hbw.size _).grown hgrow (by rw [size1]; omega) (own_lt hown)
        have H' : Hid (w'.ownsRow w.heap.size 3 1 v' (O ++ [(cr + b) % 10000]).length (ck (O ++ [(cr + b) % 10000]))) := by
          show World.ownsRow _ _ _ _ _ _ _
          rw [← ck_snoc (z := ((cr : Int) + b) % 10000) (by omega), List.length_append, HO.out]; exact hown'
        clear hgrow hat hown' hown
        go_wp2_with fail
        go_roundg (M + 2 - (i + 1))
        case measure => have := HQ.out; omega
        case rel =>
          refine ⟨i + 1, (cr + b) / 10000, _, rfl, by go_num, by go_num, by omega, by rw [List.length_append, HO.out]; rfl, by omega, dig_snoc HD.out (by omega), ?_, H'.out, hbw'⟩
          show _ = _
          rw [Dg.val_snoc, HO.out, Nat.pow_succ, HVM.out, HVN.out]
          exact HSTEP.out
      · skip
        have HVN : Hid (Dg.val 10000 ((dk n).take (i + 1)) = Dg.val 10000 ((dk n).take i) + 10000 ^ i * 0) := take_one_more (by omega)
        have dB : decide ((i : Int) < ((dk n).length : Int)) = false := decide_eq_false (by omega)
        rcases Nat.eq_zero_or_pos cr with rfl | hcr0
        · have HF : Hid (Dg.val 10000 O = m + n) := by
            show _ = _
            have h := HV.out
            rw [List.take_of_length_le (show (dk m).length ≤ i by omega), List.take_of_length_le (show (dk n).length ≤ i by omega), lm.out, ln.out, Nat.mul_zero, Nat.add_zero] at h
            exact h
          obtain ⟨A2, c2, rfl, hn1, hn2⟩ := own_form hown
          have HW : Hid (Kds wr A2 O) := Rd.of_own hown
          clear hown hi HV
          go_wp2_with fail
          refine (trim_nat A2 c2 O _ (n := m + n) HW.out HO.out.symm (by rw [HO.out]; exact hn1) hn2 HD.out HF.out).mono ?_
          rintro e w' ⟨v, rfl, hv, rfl⟩
          go_wp2
          go_ret
          exact ⟨v, rfl, hv, hbw⟩
        · obtain rfl : cr = 1 := by omega
          have hi1 : i ≤ M := by omega
          clear hi
          have HSTEP := Lib.hid (add_step (B := 10000) (a := 0) (b := 0) HV.out (rfl : 1 + 0 + 0 = 1 + 0 + 0))
          clear HV
          have h63 : i + 1 ≤ maxLen := by unfold maxLen; omega
          have hszw := hbw.size
          go_wp2_with (at_builtin; refine wpList_append_own_at _ rfl (.tmp 44) (.tmp 47) 22 rfl w.heap.size 3 i0 _ 1 8 Try.underlying22 hi0 hz0 hz1 hz2 rfl (by decide) _ i (ck O) rfl (hown.alloc _) ⟨wr.heap.size, 0, none⟩ 1 1 [.int .i64 ((1 : Int))] rfl rfl (new_cells _ _ _ _ rfl) (by simp [Value.oneCell']) h63 (by omega) (by rw [size1]; omega) ?_)
          intro v' w' hown' hgrow _ hat
          have hbw' : Below w.heap.size w w' := (hbw.alloc hbw.size _).grown hgrow (by rw [size1]; omega) (own_lt hown)
          have H' : Hid (w'.ownsRow w.heap.size 3 1 v' (O ++ [(1) % 10000]).length (ck (O ++ [(1) % 10000]))) := by
            show World.ownsRow _ _ _ _ _ _ _
            rw [← ck_snoc (z := (1 : Int)) (by omega), List.length_append, HO.out]; exact hown'
          clear hgrow hat hown' hown
          go_wp2_with fail
          go_roundg (M + 2 - (i + 1))
          case measure => have := HQ.out; omega
          case rel =>
            refine ⟨i + 1, (1) / 10000, _, rfl, by go_num, by go_num, by omega, by rw [List.length_append, HO.out]; rfl, by omega, dig_snoc HD.out (by omega), ?_, H'.out, hbw'⟩
            show _ = _
            rw [Dg.val_snoc, HO.out, Nat.pow_succ, HVM.out, HVN.out]
            exact HSTEP.out

set_option maxRecDepth 100000 in
set_option maxHeartbeats 4000000 in
theorem minus_ref {v1 v2 : Value} {m n : Nat} (w : World) (h1 : BigV w v1 m) (h2 : BigV w v2 n) (hm : (dk m).length ≤ 1048576) (hnm : n ≤ m) :
    Calls Try.prog 62 #[v1, v2] w fun e w' => ∃ v, e = .returned v ∧ BigV w' v (m - n) ∧ Below w.heap.size w w' := by
  have hle : (dk n).length ≤ (dk m).length := Dg.dg_mono b10k hnm
  have HNM := Lib.hid hnm
  clear hnm
  obtain ⟨A, c, rfl, hc1, hc2, hA⟩ := h1
  obtain ⟨A', c', rfl, hd1, hd2, hA'⟩ := h2
  obtain ⟨i0, hi0, hz0, hz1, hz2⟩ := info_parts int_info
  unfold maxLen at hc2 hd2
  have lm : Hid (Dg.val 10000 (dk m) = m) := Dg.val_dg b10k m
  have ln : Hid (Dg.val 10000 (dk n) = n) := Dg.val_dg b10k n
  go_enter Try.func62, Try.ntmps62
  go_wp2_with fail
  go_loopg [5, 6, 11] (dk m).length (fun q s5 s6 s11 wr => ∃ (i br : Nat) (O : List Nat), q = (dk m).length - i ∧ s6 = .int .i64 br ∧ s11 = .int .i64 i ∧ br ≤ 1 ∧ O.length = i ∧ i ≤ (dk m).length ∧ Hid (Dg.Dig 10000 O) ∧ Hid (Dg.val 10000 O + Dg.val 10000 ((dk n).take i) = Dg.val 10000 ((dk m).take i) + 10000 ^ i * br) ∧ wr.ownsRow w.heap.size 3 1 s5 O.length (ck O) ∧ Below w.heap.size w wr)
  case atStart => exact ⟨0, 0, [], rfl, rfl, rfl, by omega, rfl, by omega, fun x hx => by simp at hx, rfl, World.ownsRow_nil _ _ _ _, Below.refl _ _⟩
  case round =>
    obtain ⟨i, br, O, hq, rfl, rfl, hbr, hO, hi, HD, HV, hown, hbw⟩ := hrel
    have HQ := Lib.hid hq; clear hq
    have HO := Lib.hid hO
    rw [hO] at hown
    clear hO
    by_cases hla : i < (dk m).length
    · obtain ⟨b0, off, rfl, c1⟩ := (hA.below hbw).get hla
      have ha := dk_get_lt m i hla
      have HVM : Hid (Dg.val 10000 ((dk m).take (i + 1)) = Dg.val 10000 ((dk m).take i) + 10000 ^ i * (dk m)[i]) := Dg.val_take_succ (b := 10000) hla
      generalize (dk m)[i] = a at c1 ha HVM
      have h63 : i + 1 ≤ maxLen := by unfold maxLen; omega
      have hszw := hbw.size
      by_cases hlb : i < (dk n).length
      · obtain ⟨b1, off', rfl, c2⟩ := (hA'.below hbw).get hlb
        have hb := dk_get_lt n i hlb
        have HVN : Hid (Dg.val 10000 ((dk n).take (i + 1)) = Dg.val 10000 ((dk n).take i) + 10000 ^ i * (dk n)[i]) := Dg.val_take_succ (b := 10000) hlb
        generalize (dk n)[i] = b at c2 hb HVN
        by_cases hd : (a : Int) - br - b < 0
        · skip
          have HSTEP := Lib.hid (sub_step (B := 10000) (a := a) (b := b) (br' := 1) (x := (a + 10000 - br - b)) HV.out (by omega))
          clear HV
          go_wp2_with (at_builtin; refine wpList_append_own_at _ rfl (.tmp 34) (.tmp 36) 22 rfl w.heap.size 3 i0 _ 1 8 Try.underlying22 hi0 hz0 hz1 hz2 rfl (by decide) _ i (ck O) rfl (hown.alloc _) ⟨wr.heap.size, 0, none⟩ 1 1 [.int .i64 ((a : Int) - br - b + 10000)] rfl rfl (new_cells _ _ _ _ rfl) (by simp [Value.oneCell']) h63 (by omega) (by rw [size1]; omega) ?_)
          intro v' w' hown' hgrow _ hat
          have hbw' : Below w.heap.size w w' := (hbw.alloc hbw.size _).grown hgrow (by rw [size1]; omega) (own_lt hown)
          have H' : Hid (w'.ownsRow w.heap.size 3 1 v' (O ++ [(a + 10000 - br - b)]).length (ck (O ++ [(a + 10000 - br - b)]))) := by
            show World.ownsRow _ _ _ _ _ _ _
            rw [← ck_snoc (z := (a : Int) - br - b + 10000) (by omega), List.length_append, HO.out]; exact hown'
          clear hgrow hat hown' hown
          go_wp2_with fail
          go_roundg ((dk m).length - (i + 1))
          case measure => have := HQ.out; omega
          case rel =>
            refine ⟨i + 1, 1, _, rfl, by go_num, by go_num, by omega, by rw [List.length_append, HO.out]; rfl, by omega, dig_snoc HD.out (by omega), ?_, H'.out, hbw'⟩
            show _ = _
            rw [Dg.val_snoc, HO.out, Nat.pow_succ, HVM.out, HVN.out]
            exact HSTEP.out
        · skip
          have HSTEP := Lib.hid (sub_step (B := 10000) (a := a) (b := b) (br' := 0) (x := (a - br - b)) HV.out (by omega))
          clear HV
          go_wp2_with (at_builtin; refine wpList_append_own_at _ rfl (.tmp 34) (.tmp 36) 22 rfl w.heap.size 3 i0 _ 1 8 Try.underlying22 hi0 hz0 hz1 hz2 rfl (by decide) _ i (ck O) rfl (hown.alloc _) ⟨wr.heap.size, 0, none⟩ 1 1 [.int .i64 ((a : Int) - br - b)] rfl rfl (new_cells _ _ _ _ rfl) (by simp [Value.oneCell']) h63 (by omega) (by rw [size1]; omega) ?_)
          intro v' w' hown' hgrow _ hat
          have hbw' : Below w.heap.size w w' := (hbw.alloc hbw.size _).grown hgrow (by rw [size1]; omega) (own_lt hown)
          have H' : Hid (w'.ownsRow w.heap.size 3 1 v' (O ++ [(a - br - b)]).length (ck (O ++ [(a - br - b)]))) := by
            show World.ownsRow _ _ _ _ _ _ _
            rw [← ck_snoc (z := (a : Int) - br - b) (by omega), List.length_append, HO.out]; exact hown'
          clear hgrow hat hown' hown
          go_wp2_with fail
          go_roundg ((dk m).length - (i + 1))
          case measure => have := HQ.out; omega
          case rel =>
            refine ⟨i + 1, 0, _, rfl, by go_num, by go_num, by omega, by rw [List.length_append, HO.out]; rfl, by omega, dig_snoc HD.out (by omega), ?_, H'.out, hbw'⟩
            show _ = _
            rw [Dg.val_snoc, HO.out, Nat.pow_succ, HVM.out, HVN.out]
            exact HSTEP.out
      · have HVN : Hid (Dg.val 10000 ((dk n).take (i + 1)) = Dg.val 10000 ((dk n).take i) + 10000 ^ i * 0) := take_one_more (by omega)
        by_cases hd : (a : Int) - br < 0
        · skip
          have HSTEP := Lib.hid (sub_step (B := 10000) (a := a) (b := 0) (br' := 1) (x := (a + 10000 - br)) HV.out (by omega))
          clear HV
          go_wp2_with (at_builtin; refine wpList_append_own_at _ rfl (.tmp 34) (.tmp 36) 22 rfl w.heap.size 3 i0 _ 1 8 Try.underlying22 hi0 hz0 hz1 hz2 rfl (by decide) _ i (ck O) rfl (hown.alloc _) ⟨wr.heap.size, 0, none⟩ 1 1 [.int .i64 ((a : Int) - br + 10000)] rfl rfl (new_cells _ _ _ _ rfl) (by simp [Value.oneCell']) h63 (by omega) (by rw [size1]; omega) ?_)
          intro v' w' hown' hgrow _ hat
          have hbw' : Below w.heap.size w w' := (hbw.alloc hbw.size _).grown hgrow (by rw [size1]; omega) (own_lt hown)
          have H' : Hid (w'.ownsRow w.heap.size 3 1 v' (O ++ [(a + 10000 - br)]).length (ck (O ++ [(a + 10000 - br)]))) := by
            show World.ownsRow _ _ _ _ _ _ _
            rw [← ck_snoc (z := (a : Int) - br + 10000) (by omega), List.length_append, HO.out]; exact hown'
          clear hgrow hat hown' hown
          go_wp2_with fail
          go_roundg ((dk m).length - (i + 1))
          case measure => have := HQ.out; omega
          case rel =>
            refine ⟨i + 1, 1, _, rfl, by go_num, by go_num, by omega, by rw [List.length_append, HO.out]; rfl, by omega, dig_snoc HD.out (by omega), ?_, H'.out, hbw'⟩
            show _ = _
            rw [Dg.val_snoc, HO.out, Nat.pow_succ, HVM.out, HVN.out]
            exact HSTEP.out
        · skip
          have HSTEP := Lib.hid (sub_step (B := 10000) (a := a) (b := 0) (br' := 0) (x := (a - br)) HV.out (by omega))
          clear HV
          go_wp2_with (at_builtin; refine wpList_append_own_at _ rfl (.tmp 34) (.tmp 36) 22 rfl w.heap.size 3 i0 _ 1 8 Try.underlying22 hi0 hz0 hz1 hz2 rfl (by decide) _ i (ck O) rfl (hown.alloc _) ⟨wr.heap.size, 0, none⟩ 1 1 [.int .i64 ((a : Int) - br)] rfl rfl (new_cells _ _ _ _ rfl) (by simp [Value.oneCell']) h63 (by omega) (by rw [size1]; omega) ?_)
          intro v' w' hown' hgrow _ hat
          have hbw' : Below w.heap.size w w' := (hbw.alloc hbw.size _).grown hgrow (by rw [size1]; omega) (own_lt hown)
          have H' : Hid (w'.ownsRow w.heap.size 3 1 v' (O ++ [(a - br)]).length (ck (O ++ [(a - br)]))) := by
            show World.ownsRow _ _ _ _ _ _ _
            rw [← ck_snoc (z := (a : Int) - br) (by omega), List.length_append, HO.out]; exact hown'
          clear hgrow hat hown' hown
          go_wp2_with fail
          go_roundg ((dk m).length - (i + 1))
          case measure => have := HQ.out; omega
          case rel =>
            refine ⟨i + 1, 0, _, rfl, by go_num, by go_num, by omega, by rw [List.length_append, HO.out]; rfl, by omega, dig_snoc HD.out (by omega), ?_, H'.out, hbw'⟩
            show _ = _
            rw [Dg.val_snoc, HO.out, Nat.pow_succ, HVM.out, HVN.out]
            exact HSTEP.out
    · obtain rfl : i = (dk m).length := by omega
      have HF : Hid (Dg.val 10000 O = m - n) := by
        show _ = _
        have h := HV.out
        rw [List.take_of_length_le hle, List.take_of_length_le (Nat.le_refl _), lm.out, ln.out] at h
        have h2 := Dg.val_lt (by decide : 0 < 10000) HD.out
        rw [HO.out] at h2
        exact sub_end h h2 HNM.out hbr
      obtain ⟨A2, c2, rfl, hn1, hn2⟩ := own_form hown
      have HW : Hid (Kds wr A2 O) := Rd.of_own hown
      clear hown HV
      go_wp2_with fail
      refine (trim_nat A2 c2 O _ (n := m - n) HW.out HO.out.symm (by rw [HO.out]; exact hn1) hn2 HD.out HF.out).mono ?_
      rintro e w' ⟨v, rfl, hv, rfl⟩
      go_wp2
      go_ret
      exact ⟨v, rfl, hv, hbw⟩
end Go.Proofs.Ytofijnhkoadfjaa
