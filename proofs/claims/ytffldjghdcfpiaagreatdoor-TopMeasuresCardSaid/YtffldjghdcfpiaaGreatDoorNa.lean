/- Parts of the proof: Na. No condition of its own. -/
import Derived.Test.YtffldjghdcfpiaaGreatDoorNw
set_option linter.unusedSimpArgs false
set_option linter.unusedVariables false
set_option linter.unusedSectionVars false
set_option maxRecDepth 100000
set_option maxHeartbeats 4000000
namespace Go.Proofs.YtffldjghdcfpiaaGreatDoor
open Go.RowKit

theorem word_info : (Tryz.prog.info? 95).map (fun i => (i.zero, i.size, i.bytes)) = some (some (.int .u32 0), 1, 4) := by kernel_rfl
theorem cw_rep (n : Nat) : (cw (List.replicate n 0)).toArray = Array.replicate n (.int .u32 0) := by simp [cw]
theorem run_make_words (n : Nat) (hn : n ≤ 1073741824) (w : World) :
    (Instr.makeSlice 44 (.int .i64 (n : Int)) (.int .i64 (n : Int))).run Tryz.prog w = .ok (.slice (some ⟨w.heap.size, 0, none⟩) n n) (w.alloc (.cells (Array.replicate n (.int .u32 0)) 95)) := by
  rw [← cw_rep]; obtain ⟨i0, hi0, hz0, hz1, hz2⟩ := info_parts word_info; have hr := run_make (P := Tryz.prog) w 44 95 i0 _ Tryz.underlying44 hi0 hz0 .i64 .i64 n n (by omega) (by omega) (by rw [hz2]; omega) (by omega); rw [hr, hz1]; have : madeCells (Value.int .u32 0).cells n = (cw (List.replicate n 0)).toArray := by
    show madeCells #[Value.int .u32 0] n = _
    rw [madeCells_one]
    simp [cw]
  simp only [Int.toNat_natCast, Nat.mul_one, this]
theorem own_words (w : World) (n : Nat) : Own (w.alloc (.cells (Array.replicate n (.int .u32 0)) 95)) w.heap.size 95 (cw (List.replicate n 0)) := by
  rw [← cw_rep]; exact Own.new w _ _
theorem own_setw {w : World} {g : Nat} {t : TypeId} {O : List Nat} (h : Own w g t (cw O)) {i x : Nat} {z : Int} (hz : z = x) : Own (w.setCell ⟨g, i, none⟩ (.int .u32 z)) g t (cw (O.set i x)) := by
  subst hz; have := h.set_ i (.int .u32 (x : Int)); have e : cw (O.set i x) = (cw O).set i (.int .u32 (x : Int)) := by simp [cw, List.map_set]
  rw [e]; exact this
theorem own_wds {w : World} {g : Nat} {t : TypeId} {O : List Nat} (h : Own w g t (cw O)) : Wds w (some ⟨g, 0, none⟩) O := h.rd0
theorem vint {k : IntKind} {a b : Int} (h : a = b) : Value.int k a = .int k b := by rw [h]
theorem set_take {O : List Nat} {i x : Nat} (h : i < O.length) : (O.set i x).take (i + 1) = O.take i ++ [x] := by
  rw [List.take_succ_eq_append_getElem (by simpa using h)]
  simp [List.take_set_of_le]
theorem dig_zeros (n : Nat) : Dg.Dig 4294967296 (List.replicate n 0) := by
  intro x hx; rw [(List.mem_replicate.1 hx).2]; decide
theorem own_wcell {w : World} {g : Nat} {t : TypeId} {O : List Nat} (h : Own w g t (cw O)) {i : Nat} (hi : i < O.length) : w.cell? ⟨g, i, none⟩ = some (.int .u32 (O[i] : Int)) := by
  rw [h.cell]; simp [cw, hi]

theorem add_step {P B vl va vb cr a b s : Nat} (h : vl + P * cr = va + vb) (hs : s = cr + a + b) : (vl + P * (s % B)) + P * B * (s / B) = (va + P * a) + (vb + P * b) := by
  have h1 : P * (s % B) + P * B * (s / B) = P * s := by rw [Nat.mul_assoc, ← Nat.mul_add, Nat.mod_add_div]
  have h2 : P * s = P * cr + P * a + P * b := by rw [hs, Nat.mul_add, Nat.mul_add]
  omega
theorem sub_step {P B vl va vb br br' a b x : Nat} (h : vl + vb = va + P * br) (hx : x + b + br = a + B * br') : (vl + P * x) + (vb + P * b) = (va + P * a) + P * B * br' := by
  have h1 : P * (x + b + br) = P * (a + B * br') := by rw [hx]
  rw [Nat.mul_add, Nat.mul_add, Nat.mul_add, ← Nat.mul_assoc] at h1
  omega

def AddMid (m n : Nat) (w : World) (s0 s1 : Value) (wx : World) : Prop :=
  ∃ m' n', NatV w s0 m' ∧ NatV w s1 n' ∧ m' + n' = m + n ∧ (dw n').length ≤ (dw m').length ∧ (dw m').length ≤ 1048576 ∧ wx = w

theorem add_any {v1 v2 : Value} {m n : Nat} (w : World) (h1 : NatV w v1 m) (h2 : NatV w v2 n) (hm : (dw m).length ≤ 1048576) (hn : (dw n).length ≤ 1048576) :
    Calls Tryz.prog 43 #[v1, v2] w fun e w' => ∃ v, e = .returned v ∧ NatV w' v (m + n) ∧ Below w.heap.size w w' := by
  have H1 := Lib.hid h1; have H2 := Lib.hid h2; obtain ⟨A, c, rfl, hc1, hc2, hA⟩ := h1; obtain ⟨A', c', rfl, hd1, hd2, hA'⟩ := h2; unfold maxLen at hc2 hd2
  go_enter Tryz.func43, Tryz.ntmps43
  go_upto_if 12 with (fail)
  go_cut [0, 1] (fun s0 s1 wx => AddMid m n w s0 s1 wx)
  case first =>
    by_cases hlt : (dw m).length < (dw n).length
    · go_wp2_with fail
      go_meet
      exact ⟨n, m, H2.out, H1.out, Nat.add_comm _ _, by omega, hn, rfl⟩
    · go_wp2_with fail
      go_meet
      exact ⟨m, n, H1.out, H2.out, rfl, by omega, hm, rfl⟩
  case rest =>
    clear H1 H2 hA hA' hc1 hc2 hd1 hd2 hm hn; obtain ⟨m', n', g1, g2, hsum, hle, hm', rfl⟩ := hcut; obtain ⟨A, c, rfl, hc1, hc2, hA⟩ := g1; obtain ⟨A', c', rfl, hd1, hd2, hA'⟩ := g2; unfold maxLen at hc2 hd2; have HS := Lib.hid hsum; clear hsum; have lm : Hid (Dg.val 4294967296 (dw m') = m') := Dg.val_dg b32 m'; have ln : Hid (Dg.val 4294967296 (dw n') = n') := Dg.val_dg b32 n'; have mk : ∀ W : World, (Instr.makeSlice 44 (.int .i64 (((dw m').length : Int) + 1)) (.int .i64 (((dw m').length : Int) + 1))).run Tryz.prog W = .ok (.slice (some ⟨W.heap.size, 0, none⟩) ((dw m').length + 1) ((dw m').length + 1)) (W.alloc (.cells (Array.replicate ((dw m').length + 1) (.int .u32 0)) 95)) := fun W => run_make_words ((dw m').length + 1) (by omega) W; have hown0 := own_words wc ((dw m').length + 1); have hb0 : Below wc.heap.size wc (wc.alloc (.cells (Array.replicate ((dw m').length + 1) (.int .u32 0)) 95)) := (Below.refl _ _).alloc (Nat.le_refl _) _
    go_wp2_with fail
    generalize (wc.alloc (.cells (Array.replicate ((dw m').length + 1) (.int .u32 0)) 95)) = wa at hown0 hb0 ⊢
    go_loopg [6, 21] (dw m').length (fun q v6 v21 wr => ∃ (i cr : Nat) (O : List Nat), q = (dw m').length - i ∧ i ≤ (dw m').length ∧ v21 = .int .i64 i ∧ v6 = .int .u64 cr ∧ cr ≤ 1 ∧ O.length = (dw m').length + 1 ∧ Hid (Dg.Dig 4294967296 O) ∧ Hid (Dg.val 4294967296 (O.take i) + 4294967296 ^ i * cr = Dg.val 4294967296 ((dw m').take i) + Dg.val 4294967296 ((dw n').take i)) ∧ Own wr wc.heap.size 95 (cw O) ∧ Below wc.heap.size wc wr)
    case atStart => exact ⟨0, 0, _, rfl, Nat.zero_le _, rfl, rfl, by omega, by simp, dig_zeros _, rfl, hown0, hb0⟩
    case round =>
      clear hown0 hb0; obtain ⟨i, cr, O, hq, hi, rfl, rfl, hcr, hO, HD, HV, hown, hbw⟩ := hrel; have HQ := Lib.hid hq; clear hq
      have HO := Lib.hid hO; have hO1 : i < O.length := by omega
      have hO2 : O.length ≤ (dw m').length + 1 := by omega
      have hO3 : (dw m').length + 1 ≤ O.length := by omega
      clear hO
      by_cases hlt : i < (dw m').length
      · obtain ⟨b, off, rfl, c1⟩ := (hA.below hbw).get hlt; have ha := dw_get_lt m' i hlt; have hcell := own_wcell hown hO1; have hfr := hown.frozen i; have hvm := Dg.val_take_succ (b := 4294967296) hlt; have HVM := Lib.hid hvm; clear hvm
        by_cases hlt2 : i < (dw n').length
        · obtain ⟨b', off', rfl, c2⟩ := (hA'.below hbw).get hlt2; have hb := dw_get_lt n' i hlt2; have HVN : Hid (Dg.val 4294967296 ((dw n').take (i + 1)) = Dg.val 4294967296 ((dw n').take i) + 4294967296 ^ i * (dw n')[i]) := Dg.val_take_succ (b := 4294967296) hlt2; generalize (dw m')[i] = a at c1 ha HVM; generalize (dw n')[i] = b at c2 hb HVN; have HSTEP := Lib.hid (add_step (B := 4294967296) HV.out (rfl : cr + a + b = cr + a + b))
          go_wp2_with fail
          go_roundg ((dw m').length - (i + 1))
          case measure => have := HQ.out; omega
          case rel =>
            refine ⟨i + 1, (cr + a + b) / 4294967296, O.set i ((cr + a + b) % 4294967296), rfl, by omega, by go_num, vint (by omega), by omega, by rw [List.length_set]; omega, Dg.dig_set HD.out (by omega), ?_, own_setw hown (by omega), hbw.setCell (Nat.le_refl _) _⟩
            show _ = _
            rw [set_take hO1, Dg.val_snoc, List.length_take, Nat.min_eq_left (by omega), Nat.pow_succ, HVM.out, HVN.out]; exact HSTEP.out
        · have HVN : Hid (Dg.val 4294967296 ((dw n').take (i + 1)) = Dg.val 4294967296 ((dw n').take i)) := by
            show _ = _
            rw [List.take_of_length_le (by omega), List.take_of_length_le (by omega)]
          generalize (dw m')[i] = a at c1 ha HVM; have HSTEP := Lib.hid (add_step (B := 4294967296) (a := a) (b := 0) HV.out (rfl : cr + a + 0 = cr + a + 0))
          go_wp2_with fail
          go_roundg ((dw m').length - (i + 1))
          case measure => have := HQ.out; omega
          case rel =>
            refine ⟨i + 1, (cr + a) / 4294967296, O.set i ((cr + a) % 4294967296), rfl, by omega, by go_num, vint (by omega), by omega, by rw [List.length_set]; omega, Dg.dig_set HD.out (by omega), ?_, own_setw hown (by omega), hbw.setCell (Nat.le_refl _) _⟩
            show _ = _
            rw [set_take hO1, Dg.val_snoc, List.length_take, Nat.min_eq_left (by omega), Nat.pow_succ, HVM.out, HVN.out]; exact HSTEP.out
      · obtain rfl : i = (dw m').length := by omega
        have hcell := own_wcell hown hO1; have hfr := hown.frozen (dw m').length; have HF : Hid (Dg.val 4294967296 (O.set (dw m').length cr) = m' + n') := by
          show _ = _
          have e : O.set (dw m').length cr = (O.set (dw m').length cr).take ((dw m').length + 1) := by rw [List.take_of_length_le (by rw [List.length_set]; omega)]
          have := HV.out; rw [List.take_of_length_le (Nat.le_refl _), List.take_of_length_le hle, lm.out, ln.out] at this; rw [e, set_take hO1, Dg.val_snoc, List.length_take, Nat.min_eq_left (by omega)]; exact this
        go_wp2_with fail
        have hown' := own_setw hown (i := (dw m').length) (x := cr) (z := (cr : Int)) rfl; refine (norm_nat _ ((dw m').length + 1) (O.set (dw m').length cr) _ (n := m + n) ?_ (by rw [List.length_set]; exact HO.out.symm) (by rw [List.length_set]; omega) (by unfold maxLen; omega) (Dg.dig_set HD.out (by omega)) (by rw [HF.out, HS.out])).mono ?_
        · exact own_wds hown'
        · rintro e w' ⟨v, rfl, hv, rfl⟩
          go_wp2
          go_ret
          exact ⟨v, rfl, hv, hbw.setCell (Nat.le_refl _) _⟩

theorem sub_end {P vo m n br : Nat} (h : vo + n = m + P * br) (hv : vo < P) (hnm : n ≤ m) (hbr : br ≤ 1) : vo = m - n := by
  rcases Nat.eq_zero_or_pos br with h0 | h0
  · subst h0; rw [Nat.mul_zero] at h; omega
  · have : br = 1 := by omega
    subst this; rw [Nat.mul_one] at h; omega

theorem sub_any {v1 v2 : Value} {m n : Nat} (w : World) (h1 : NatV w v1 m) (h2 : NatV w v2 n) (hm : (dw m).length ≤ 1048576) (hnm : n ≤ m) :
    Calls Tryz.prog 45 #[v1, v2] w fun e w' => ∃ v, e = .returned v ∧ NatV w' v (m - n) ∧ Below w.heap.size w w' := by
  have hle : (dw n).length ≤ (dw m).length := Dg.dg_mono b32 hnm; have HNM := Lib.hid hnm; clear hnm; obtain ⟨A, c, rfl, hc1, hc2, hA⟩ := h1; obtain ⟨A', c', rfl, hd1, hd2, hA'⟩ := h2; unfold maxLen at hc2 hd2; have lm : Hid (Dg.val 4294967296 (dw m) = m) := Dg.val_dg b32 m; have ln : Hid (Dg.val 4294967296 (dw n) = n) := Dg.val_dg b32 n; have mk := fun W => run_make_words (dw m).length (by omega) W; have hown0 := own_words w (dw m).length; have hb0 : Below w.heap.size w (w.alloc (.cells (Array.replicate (dw m).length (.int .u32 0)) 95)) := (Below.refl _ _).alloc (Nat.le_refl _) _
  go_enter Tryz.func45, Tryz.ntmps45
  go_wp2_with fail
  generalize (w.alloc (.cells (Array.replicate (dw m).length (.int .u32 0)) 95)) = wa at hown0 hb0 ⊢
  go_loopg [6, 13] (dw m).length (fun q v6 v13 wr => ∃ (i br : Nat) (z : Int) (O : List Nat), q = (dw m).length - i ∧ i ≤ (dw m).length ∧ v13 = .int .i64 i ∧ v6 = .int .i64 z ∧ z = - (br : Int) ∧ br ≤ 1 ∧ O.length = (dw m).length ∧ Hid (Dg.Dig 4294967296 O) ∧ Hid (Dg.val 4294967296 (O.take i) + Dg.val 4294967296 ((dw n).take i) = Dg.val 4294967296 ((dw m).take i) + 4294967296 ^ i * br) ∧ Own wr w.heap.size 95 (cw O) ∧ Below w.heap.size w wr)
  case atStart => exact ⟨0, 0, 0, _, rfl, Nat.zero_le _, rfl, rfl, by omega, by omega, by simp, dig_zeros _, rfl, hown0, hb0⟩
  case round =>
    clear hown0 hb0; obtain ⟨i, br, z, O, hq, hi, rfl, rfl, hz, hbr, hO, HD, HV, hown, hbw⟩ := hrel; have HQ := Lib.hid hq; clear hq
    have HZ := Lib.hid hz; have hz1 : z ≤ 0 := by omega
    have hz2 : -1 ≤ z := by omega
    clear hz; have HO := Lib.hid hO; have hO2 : O.length ≤ (dw m).length := by omega
    have hO3 : (dw m).length ≤ O.length := by omega
    clear hO
    by_cases hlt : i < (dw m).length
    · have hO1 : i < O.length := by omega
      obtain ⟨b, off, rfl, c1⟩ := (hA.below hbw).get hlt; have ha := dw_get_lt m i hlt; have hcell := own_wcell hown hO1; have hfr := hown.frozen i; have HVM : Hid (Dg.val 4294967296 ((dw m).take (i + 1)) = Dg.val 4294967296 ((dw m).take i) + 4294967296 ^ i * (dw m)[i]) := Dg.val_take_succ (b := 4294967296) hlt
      by_cases hlt2 : i < (dw n).length
      · obtain ⟨b', off', rfl, c2⟩ := (hA'.below hbw).get hlt2; have hb := dw_get_lt n i hlt2; have HVN : Hid (Dg.val 4294967296 ((dw n).take (i + 1)) = Dg.val 4294967296 ((dw n).take i) + 4294967296 ^ i * (dw n)[i]) := Dg.val_take_succ (b := 4294967296) hlt2; generalize (dw m)[i] = a at c1 ha HVM; generalize (dw n)[i] = b at c2 hb HVN; have HX : Hid (∃ x br', x < 4294967296 ∧ br' ≤ 1 ∧ x + b + br = a + 4294967296 * br' ∧ (z + a - b) % 4294967296 = (x : Int) ∧ (z + a - b) / 4294967296 = -(br' : Int)) := by
          have hz := HZ.out
          show ∃ x br', _
          by_cases hc : br + b ≤ a
          · exact ⟨a - b - br, 0, by omega, by omega, by omega, by omega, by omega⟩
          · exact ⟨4294967296 + a - b - br, 1, by omega, by omega, by omega, by omega, by omega⟩
        go_wp2_with fail
        go_roundg ((dw m).length - (i + 1))
        case measure => have := HQ.out; omega
        case rel =>
          obtain ⟨x, br', hx1, hx2, hx3, hx4, hx5⟩ := HX.out; refine ⟨i + 1, br', _, O.set i x, rfl, by omega, by go_num, rfl, hx5, hx2, by rw [List.length_set]; exact HO.out, Dg.dig_set HD.out hx1, ?_, own_setw hown hx4, hbw.setCell (Nat.le_refl _) _⟩
          show _ = _
          rw [set_take hO1, Dg.val_snoc, List.length_take, Nat.min_eq_left (by omega), Nat.pow_succ, HVM.out, HVN.out]; exact sub_step HV.out hx3
      · have HVN : Hid (Dg.val 4294967296 ((dw n).take (i + 1)) = Dg.val 4294967296 ((dw n).take i)) := by
          show _ = _
          rw [List.take_of_length_le (by omega), List.take_of_length_le (by omega)]
        generalize (dw m)[i] = a at c1 ha HVM; have HX : Hid (∃ x br', x < 4294967296 ∧ br' ≤ 1 ∧ x + 0 + br = a + 4294967296 * br' ∧ (z + a) % 4294967296 = (x : Int) ∧ (z + a) / 4294967296 = -(br' : Int)) := by
          have hz := HZ.out
          show ∃ x br', _
          by_cases hc : br ≤ a
          · exact ⟨a - br, 0, by omega, by omega, by omega, by omega, by omega⟩
          · exact ⟨4294967296 + a - br, 1, by omega, by omega, by omega, by omega, by omega⟩
        go_wp2_with fail
        go_roundg ((dw m).length - (i + 1))
        case measure => have := HQ.out; omega
        case rel =>
          obtain ⟨x, br', hx1, hx2, hx3, hx4, hx5⟩ := HX.out; refine ⟨i + 1, br', _, O.set i x, rfl, by omega, by go_num, rfl, hx5, hx2, by rw [List.length_set]; exact HO.out, Dg.dig_set HD.out hx1, ?_, own_setw hown hx4, hbw.setCell (Nat.le_refl _) _⟩
          show _ = _
          rw [set_take hO1, Dg.val_snoc, List.length_take, Nat.min_eq_left (by omega), Nat.pow_succ, HVM.out, HVN.out]; exact sub_step HV.out hx3
    · obtain rfl : i = (dw m).length := by omega
      have HF : Hid (Dg.val 4294967296 O = m - n) := by
        show _ = _
        have h := HV.out; rw [List.take_of_length_le (by omega), List.take_of_length_le hle, List.take_of_length_le (Nat.le_refl _), lm.out, ln.out] at h; have h2 := Dg.val_lt (by decide : 0 < 4294967296) HD.out; rw [HO.out] at h2; exact sub_end h h2 HNM.out hbr
      go_wp2_with fail
      refine (norm_nat _ (dw m).length O _ (n := m - n) (own_wds hown) HO.out.symm hO2 (by unfold maxLen; omega) HD.out HF.out).mono ?_; rintro e w' ⟨v, rfl, hv, rfl⟩
      go_wp2
      go_ret
      exact ⟨v, rfl, hv, hbw⟩

theorem mul_bound {x y : Nat} (hx : x < 4294967296) (hy : y < 4294967296) : x * y ≤ 18446744065119617025 := by
  have h1 : x * y ≤ 4294967295 * y := Nat.mul_le_mul_right _ (by omega)
  omega
theorem mul_step {P Pi B vo vo' o cr s x y an vb : Nat} (h : vo + P * cr = an + Pi * (x * vb)) (hset : vo' + P * o = vo + P * (s % B)) (hs : s = cr + (x * y + o)) {Pk : Nat} (hP : P = Pi * Pk) :
    vo' + P * B * (s / B) = an + Pi * (x * (vb + Pk * y)) := by
  have h1 : P * (s % B) + P * B * (s / B) = P * s := by rw [Nat.mul_assoc, ← Nat.mul_add, Nat.mod_add_div]
  have h2 : P * s = P * cr + (P * (x * y) + P * o) := by rw [hs, Nat.mul_add, Nat.mul_add]
  have h3 : Pi * (x * (vb + Pk * y)) = Pi * (x * vb) + P * (x * y) := by
    rw [Nat.mul_add x, Nat.mul_add Pi, hP, Nat.mul_assoc Pi Pk, Nat.mul_left_comm x Pk y]
  omega

def Zer (O : List Nat) (j : Nat) : Prop := ∀ i (h : i < O.length), j ≤ i → O[i] = 0
theorem Zer.set {O : List Nat} {j i x : Nat} (h : Zer O j) (hi : i < j) : Zer (O.set i x) j := by
  intro k hk hjk; rw [List.getElem_set_ne (by omega)]; exact h k (by simpa using hk) hjk
theorem Zer.rep (n : Nat) : Zer (List.replicate n 0) 0 := fun i h _ => by simp
theorem Zer.mono {O : List Nat} {i j : Nat} (h : Zer O i) (hij : i ≤ j) : Zer O j := fun k hk hjk => h k hk (by omega)

theorem mul_any {v1 v2 : Value} {m n : Nat} (w : World) (h1 : NatV w v1 m) (h2 : NatV w v2 n) (hm : (dw m).length ≤ 1048576) (hn : (dw n).length ≤ 1048576) :
    Calls Tryz.prog 24 #[v1, v2] w fun e w' => ∃ v, e = .returned v ∧ NatV w' v (m * n) ∧ Below w.heap.size w w' := by
  obtain ⟨A, c, rfl, hc1, hc2, hA⟩ := h1; obtain ⟨A', c', rfl, hd1, hd2, hA'⟩ := h2; unfold maxLen at hc2 hd2; have lm : Hid (Dg.val 4294967296 (dw m) = m) := Dg.val_dg b32 m; have ln : Hid (Dg.val 4294967296 (dw n) = n) := Dg.val_dg b32 n; have mk : ∀ W : World, (Instr.makeSlice 44 (.int .i64 (((dw m).length : Int) + (dw n).length)) (.int .i64 (((dw m).length : Int) + (dw n).length))).run Tryz.prog W = .ok (.slice (some ⟨W.heap.size, 0, none⟩) ((dw m).length + (dw n).length) ((dw m).length + (dw n).length)) (W.alloc (.cells (Array.replicate ((dw m).length + (dw n).length) (.int .u32 0)) 95)) := fun W => run_make_words ((dw m).length + (dw n).length) (by omega) W; have hown0 := own_words w ((dw m).length + (dw n).length); have hb0 : Below w.heap.size w (w.alloc (.cells (Array.replicate ((dw m).length + (dw n).length) (.int .u32 0)) 95)) := (Below.refl _ _).alloc (Nat.le_refl _) _
  go_enter Tryz.func24, Tryz.ntmps24
  go_wp2_with fail
  generalize (w.alloc (.cells (Array.replicate ((dw m).length + (dw n).length) (.int .u32 0)) 95)) = wa at hown0 hb0 ⊢
  go_loopg [19] (dw m).length (fun q v19 wr => ∃ (i : Nat) (O : List Nat), q = (dw m).length - i ∧ i ≤ (dw m).length ∧ v19 = .int .i64 i ∧ O.length = (dw m).length + (dw n).length ∧ Hid (Dg.Dig 4294967296 O) ∧ Hid (Zer O (i + (dw n).length)) ∧ Hid (Dg.val 4294967296 O = Dg.val 4294967296 ((dw m).take i) * n) ∧ Own wr w.heap.size 95 (cw O) ∧ Below w.heap.size w wr)
  case atStart => exact ⟨0, _, rfl, Nat.zero_le _, rfl, by simp, dig_zeros _, (Zer.rep _).mono (Nat.zero_le _), by show _ = _; rw [Dg.val_replicate_zero]; simp [Dg.val], hown0, hb0⟩
  case round =>
    clear hown0 hb0; obtain ⟨i, O, hq, hi, rfl, hO, HD, HZ, HV, hown, hbw⟩ := hrel; have HQ := Lib.hid hq; clear hq
    by_cases hlt : i < (dw m).length
    · obtain ⟨b, off, rfl, c1⟩ := (hA.below hbw).get hlt; have hx := dw_get_lt m i hlt; have HVM : Hid (Dg.val 4294967296 ((dw m).take (i + 1)) = Dg.val 4294967296 ((dw m).take i) + 4294967296 ^ i * (dw m)[i]) := Dg.val_take_succ (b := 4294967296) hlt; generalize (dw m)[i] = x at c1 hx HVM; obtain ⟨an, han⟩ : ∃ an, an = Dg.val 4294967296 ((dw m).take i) * n := ⟨_, rfl⟩; have HAN := Lib.hid han; clear han; have HO := Lib.hid hO; clear hO
      go_wp2_with fail
      clear c1
      go_loopg [8, 26] (dw n).length (fun q v8 v26 wr => ∃ (k cr : Nat) (O : List Nat), q = (dw n).length - k ∧ k ≤ (dw n).length ∧ v26 = .int .i64 k ∧ v8 = .int .u64 cr ∧ cr < 4294967296 ∧ O.length = (dw m).length + (dw n).length ∧ Hid (Dg.Dig 4294967296 O) ∧ Hid (Zer O (i + (dw n).length)) ∧ Hid (Dg.val 4294967296 O + 4294967296 ^ (i + k) * cr = an + 4294967296 ^ i * (x * Dg.val 4294967296 ((dw n).take k))) ∧ Own wr w.heap.size 95 (cw O) ∧ Below w.heap.size w wr)
      case atStart => exact ⟨0, 0, O, rfl, Nat.zero_le _, rfl, rfl, by omega, HO.out, HD, HZ, by show _ = _; rw [HV.out, HAN.out]; simp [Dg.val], hown, hbw⟩
      case round =>
        clear hown hbw HD HZ HV HO O; obtain ⟨k, cr, O, hq2, hk, rfl, rfl, hcr, hO, HD, HZ, HV, hown, hbw⟩ := hrel; have HQ2 := Lib.hid hq2; clear hq2
        have HO := Lib.hid hO; have hO2 : O.length ≤ (dw m).length + (dw n).length := by omega
        have hO3 : (dw m).length + (dw n).length ≤ O.length := by omega
        clear hO; have hO1 : i + (dw n).length < O.length := by omega
        by_cases hkt : k < (dw n).length
        · have hO4 : i + k < O.length := by omega
          obtain ⟨b', off', rfl, c2⟩ := (hA'.below hbw).get hkt; have hy := dw_get_lt n k hkt; have HVN : Hid (Dg.val 4294967296 ((dw n).take (k + 1)) = Dg.val 4294967296 ((dw n).take k) + 4294967296 ^ k * (dw n)[k]) := Dg.val_take_succ (b := 4294967296) hkt; have hcell := own_wcell hown hO4; have hfr := hown.frozen (i + k); have ho := HD.out _ (List.getElem_mem hO4); have HSET := fun s => Lib.hid (Dg.val_set (b := 4294967296) O (i + k) (s % 4294967296) hO4); generalize (dw n)[k] = y at c2 hy HVN; generalize O[i + k] = o at hcell ho HSET; have hxy := mul_bound hx hy; obtain ⟨p, hp⟩ : ∃ p, p = x * y := ⟨_, rfl⟩; rw [← hp] at hxy; have HP := Lib.hid hp; have hm1 : IntKind.u64.wrap ((x : Int) * y) = (p : Int) := by
            have : ((x : Int) * y) = (p : Int) := by rw [hp]; simp
            rw [this]; exact IntWalk.u64_in _ (by omega)
          clear hp
          go_wp2_with fail
          go_roundg ((dw n).length - (k + 1))
          case measure => have := HQ2.out; omega
          case rel =>
            refine ⟨k + 1, (cr + (p + o)) / 4294967296, O.set (i + k) ((cr + (p + o)) % 4294967296), rfl, by omega, by go_num, vint (by omega), by omega, by rw [List.length_set]; exact HO.out, Dg.dig_set HD.out (by omega), HZ.out.set (by omega), ?_, own_setw hown (by omega), hbw.setCell (Nat.le_refl _) _⟩
            show _ = _
            rw [HVN.out]; have e : i + (k + 1) = i + k + 1 := by omega
            rw [e, Nat.pow_succ]; exact mul_step HV.out (HSET (cr + (p + o))).out (by rw [HP.out]) (Nat.pow_add _ _ _)
        · obtain rfl : k = (dw n).length := by omega
          have hcell := own_wcell hown hO1; have hfr := hown.frozen (i + (dw n).length); have HSET := Lib.hid (Dg.val_set (b := 4294967296) O (i + (dw n).length) cr hO1); have h0 : O[i + (dw n).length] = 0 := HZ.out _ hO1 (Nat.le_refl _); rw [h0] at hcell HSET; clear h0
          go_wp2_with fail
          go_roundg ((dw m).length - (i + 1))
          case measure => have := HQ.out; omega
          case rel =>
            refine ⟨i + 1, O.set (i + (dw n).length) cr, rfl, by omega, by go_num, by rw [List.length_set]; exact HO.out, Dg.dig_set HD.out hcr, ?_, ?_, own_setw hown (by omega), hbw.setCell (Nat.le_refl _) _⟩
            · exact (HZ.out.mono (by omega)).set (by omega)
            · show _ = _
              have h1 := HSET.out; have h2 := HV.out; rw [Nat.mul_zero, Nat.add_zero] at h1; rw [h1, h2, HVM.out, HAN.out, List.take_of_length_le (Nat.le_refl _), ln.out, Nat.add_mul, Nat.mul_assoc]
    · obtain rfl : i = (dw m).length := by omega
      have HF : Hid (Dg.val 4294967296 O = m * n) := by
        show _ = _
        rw [HV.out, List.take_of_length_le (Nat.le_refl _), lm.out]
      have HO := Lib.hid hO; have hO2 : O.length ≤ (dw m).length + (dw n).length := by omega
      clear hO
      go_wp2_with fail
      refine (norm_nat _ ((dw m).length + (dw n).length) O _ (n := m * n) (own_wds hown) HO.out.symm hO2 (by unfold maxLen; omega) HD.out HF.out).mono ?_; rintro e w' ⟨v, rfl, hv, rfl⟩
      go_wp2
      go_ret
      exact ⟨v, rfl, hv, hbw⟩
end Go.Proofs.YtffldjghdcfpiaaGreatDoor
