/- The reference's numbers: Times. -/
import Derived.Test.YtofijnhkoadfjaaRa
namespace Go.Proofs.Ytofijnhkoadfjaa
set_option linter.unusedSimpArgs false
set_option linter.unusedVariables false
set_option linter.unusedSectionVars false
open Go.RowKit

theorem ck_rep (n : Nat) : (ck (List.replicate n 0)).toArray = Array.replicate n (.int .i64 0) := by simp [ck]
theorem run_make_ks (n : Nat) (hn : n ≤ 1073741824) (w : World) :
    (Instr.makeSlice 22 (.int .i64 (n : Int)) (.int .i64 (n : Int))).run Try.prog w = .ok (.slice (some ⟨w.heap.size, 0, none⟩) n n) (w.alloc (.cells (Array.replicate n (.int .i64 0)) 3)) := by
  rw [← ck_rep]
  obtain ⟨i0, hi0, hz0, hz1, hz2⟩ := info_parts int_info
  have hr := run_make (P := Try.prog) w 22 3 i0 _ Try.underlying22 hi0 hz0 .i64 .i64 n n (by omega) (by omega) (by rw [hz2]; omega) (by omega)
  rw [hr, hz1]
  have : madeCells (Value.int .i64 0).cells n = (ck (List.replicate n 0)).toArray := by
    show madeCells #[Value.int .i64 0] n = _
    rw [madeCells_one]
    simp [ck]
  simp only [Int.toNat_natCast, Nat.mul_one, this]
theorem own_ks (w : World) (n : Nat) : Own (w.alloc (.cells (Array.replicate n (.int .i64 0)) 3)) w.heap.size 3 (ck (List.replicate n 0)) := by
  rw [← ck_rep]; exact Own.new w _ _
theorem own_setk {w : World} {g : Nat} {t : TypeId} {O : List Nat} (h : Own w g t (ck O)) {i x : Nat} {z : Int} (hz : z = x) : Own (w.setCell ⟨g, i, none⟩ (.int .i64 z)) g t (ck (O.set i x)) := by
  subst hz
  have := h.set_ i (.int .i64 (x : Int))
  have e : ck (O.set i x) = (ck O).set i (.int .i64 (x : Int)) := by simp [ck, List.map_set]
  rw [e]; exact this
theorem own_kds {w : World} {g : Nat} {t : TypeId} {O : List Nat} (h : Own w g t (ck O)) : Kds w (some ⟨g, 0, none⟩) O := h.rd0
theorem dig_zerosk (n : Nat) : Dg.Dig 10000 (List.replicate n 0) := by
  intro x hx
  rw [(List.mem_replicate.1 hx).2]; decide
theorem own_kcell {w : World} {g : Nat} {t : TypeId} {O : List Nat} (h : Own w g t (ck O)) {i : Nat} (hi : i < O.length) : w.cell? ⟨g, i, none⟩ = some (.int .i64 (O[i] : Int)) := by
  rw [h.cell]; simp [ck, hi]
theorem mul_boundk {x y : Nat} (hx : x < 10000) (hy : y < 10000) : x * y ≤ 99980001 := by
  have h1 : x * y ≤ 9999 * y := Nat.mul_le_mul_right _ (by omega)
  omega

set_option maxRecDepth 100000 in
set_option maxHeartbeats 4000000 in
theorem times_ref {v1 v2 : Value} {m n : Nat} (w : World) (h1 : BigV w v1 m) (h2 : BigV w v2 n) (hm : (dk m).length ≤ 1048576) (hn : (dk n).length ≤ 1048576) :
    Calls Try.prog 63 #[v1, v2] w fun e w' => ∃ v, e = .returned v ∧ BigV w' v (m * n) ∧ Below w.heap.size w w' := by
  obtain ⟨A, c, rfl, hc1, hc2, hA⟩ := h1
  obtain ⟨A', c', rfl, hd1, hd2, hA'⟩ := h2
  unfold maxLen at hc2 hd2
  have lm : Hid (Dg.val 10000 (dk m) = m) := Dg.val_dg b10k m
  have ln : Hid (Dg.val 10000 (dk n) = n) := Dg.val_dg b10k n
  have mk : ∀ W : World, (Instr.makeSlice 22 (.int .i64 (((dk m).length : Int) + (dk n).length + 1)) (.int .i64 (((dk m).length : Int) + (dk n).length + 1))).run Try.prog W = .ok (.slice (some ⟨W.heap.size, 0, none⟩) ((dk m).length + (dk n).length + 1) ((dk m).length + (dk n).length + 1)) (W.alloc (.cells (Array.replicate ((dk m).length + (dk n).length + 1) (.int .i64 0)) 3)) := fun W => run_make_ks ((dk m).length + (dk n).length + 1) (by omega) W
  have hown0 := own_ks w ((dk m).length + (dk n).length + 1)
  have hb0 : Below w.heap.size w (w.alloc (.cells (Array.replicate ((dk m).length + (dk n).length + 1) (.int .i64 0)) 3)) := (Below.refl _ _).alloc (Nat.le_refl _) _
  go_enter Try.func63, Try.ntmps63
  go_wp2_with fail
  generalize (w.alloc (.cells (Array.replicate ((dk m).length + (dk n).length + 1) (.int .i64 0)) 3)) = wa at hown0 hb0 ⊢
  go_loopg [23] (dk m).length (fun q v23 wr => ∃ (i : Nat) (O : List Nat), q = (dk m).length - i ∧ i ≤ (dk m).length ∧ v23 = .int .i64 i ∧ O.length = (dk m).length + (dk n).length + 1 ∧ Hid (Dg.Dig 10000 O) ∧ Hid (Zer O (i + (dk n).length)) ∧ Hid (Dg.val 10000 O = Dg.val 10000 ((dk m).take i) * n) ∧ Own wr w.heap.size 3 (ck O) ∧ Below w.heap.size w wr)
  case atStart => exact ⟨0, _, rfl, Nat.zero_le _, rfl, by simp, dig_zerosk _, (Zer.rep _).mono (Nat.zero_le _), by show _ = _; rw [Dg.val_replicate_zero]; simp [Dg.val], hown0, hb0⟩
  case round =>
    clear hown0 hb0
    obtain ⟨i, O, hq, hi, rfl, hO, HD, HZ, HV, hown, hbw⟩ := hrel
    have HQ := Lib.hid hq; clear hq
    by_cases hlt : i < (dk m).length
    · obtain ⟨b, off, rfl, c1⟩ := (hA.below hbw).get hlt
      have hx := dk_get_lt m i hlt
      have HVM : Hid (Dg.val 10000 ((dk m).take (i + 1)) = Dg.val 10000 ((dk m).take i) + 10000 ^ i * (dk m)[i]) := Dg.val_take_succ (b := 10000) hlt
      generalize (dk m)[i] = x at c1 hx HVM
      obtain ⟨an, han⟩ : ∃ an, an = Dg.val 10000 ((dk m).take i) * n := ⟨_, rfl⟩
      have HAN := Lib.hid han
      clear han
      have HO := Lib.hid hO
      clear hO
      go_wp2_with fail
      clear c1
      go_loopg [8, 30] (dk n).length (fun q v8 v30 wr => ∃ (k cr : Nat) (O : List Nat), q = (dk n).length - k ∧ k ≤ (dk n).length ∧ v30 = .int .i64 k ∧ v8 = .int .i64 cr ∧ cr < 10000 ∧ O.length = (dk m).length + (dk n).length + 1 ∧ Hid (Dg.Dig 10000 O) ∧ Hid (Zer O (i + (dk n).length)) ∧ Hid (Dg.val 10000 O + 10000 ^ (i + k) * cr = an + 10000 ^ i * (x * Dg.val 10000 ((dk n).take k))) ∧ Own wr w.heap.size 3 (ck O) ∧ Below w.heap.size w wr)
      case atStart => exact ⟨0, 0, O, rfl, Nat.zero_le _, rfl, rfl, by omega, HO.out, HD, HZ, by show _ = _; rw [HV.out, HAN.out]; simp [Dg.val], hown, hbw⟩
      case round =>
        clear hown hbw HD HZ HV HO O
        obtain ⟨k, cr, O, hq2, hk, rfl, rfl, hcr, hO, HD, HZ, HV, hown, hbw⟩ := hrel
        have HQ2 := Lib.hid hq2; clear hq2
        have HO := Lib.hid hO
        have hO2 : O.length ≤ (dk m).length + (dk n).length + 1 := by omega
        have hO3 : (dk m).length + (dk n).length + 1 ≤ O.length := by omega
        clear hO
        have hO1 : i + (dk n).length < O.length := by omega
        by_cases hkt : k < (dk n).length
        · have hO4 : i + k < O.length := by omega
          obtain ⟨b', off', rfl, c2⟩ := (hA'.below hbw).get hkt
          have hy := dk_get_lt n k hkt
          have HVN : Hid (Dg.val 10000 ((dk n).take (k + 1)) = Dg.val 10000 ((dk n).take k) + 10000 ^ k * (dk n)[k]) := Dg.val_take_succ (b := 10000) hkt
          have hcell := own_kcell hown hO4
          have hfr := hown.frozen (i + k)
          have ho := HD.out _ (List.getElem_mem hO4)
          have HSET := fun s => Lib.hid (Dg.val_set (b := 10000) O (i + k) (s % 10000) hO4)
          generalize (dk n)[k] = y at c2 hy HVN
          generalize O[i + k] = o at hcell ho HSET
          have hxy := mul_boundk hx hy
          obtain ⟨p, hp⟩ : ∃ p, p = x * y := ⟨_, rfl⟩
          rw [← hp] at hxy
          have HP := Lib.hid hp
          have hm1 : IntKind.i64.wrap ((x : Int) * y) = (p : Int) := by
            have : ((x : Int) * y) = (p : Int) := by rw [hp]; simp
            rw [this]; exact IntWalk.i64_in _ (by omega)
          clear hp
          go_wp2_with fail
          go_roundg ((dk n).length - (k + 1))
          case measure => have := HQ2.out; omega
          case rel =>
            refine ⟨k + 1, (o + p + cr) / 10000, O.set (i + k) ((o + p + cr) % 10000), rfl, by omega, by go_num, vint (by omega), by omega, by rw [List.length_set]; exact HO.out, Dg.dig_set HD.out (by omega), HZ.out.set (by omega), ?_, own_setk hown (by omega), hbw.setCell (Nat.le_refl _) _⟩
            show _ = _
            rw [HVN.out]
            have e : i + (k + 1) = i + k + 1 := by omega
            rw [e, Nat.pow_succ]
            exact mul_step HV.out (HSET (o + p + cr)).out (by rw [HP.out]; omega) (Nat.pow_add _ _ _)
        · obtain rfl : k = (dk n).length := by omega
          have HT : Hid (an + 10000 ^ i * (x * Dg.val 10000 ((dk n).take (dk n).length)) = Dg.val 10000 ((dk m).take (i + 1)) * n) := by
            show _ = _
            rw [HVM.out, HAN.out, List.take_of_length_le (Nat.le_refl _), ln.out, Nat.add_mul, Nat.mul_assoc]
          have HV2 : Hid (Dg.val 10000 O + 10000 ^ (i + (dk n).length) * cr = Dg.val 10000 ((dk m).take (i + 1)) * n) := by
            show _ = _
            rw [HV.out, HT.out]
          clear HT HV
          go_wp2_with fail
          go_loopg [8, 12] cr (fun q v8 v12 wr => ∃ (k cr : Nat) (O : List Nat), q = cr ∧ v12 = .int .i64 k ∧ v8 = .int .i64 cr ∧ cr < 10000 ∧ O.length = (dk m).length + (dk n).length + 1 ∧ k ≤ i + (dk n).length + 1 ∧ (k = i + (dk n).length ∨ cr = 0) ∧ Hid (Dg.Dig 10000 O) ∧ Hid (Zer O k) ∧ Hid (Dg.val 10000 O + 10000 ^ (i + (dk n).length) * cr = Dg.val 10000 ((dk m).take (i + 1)) * n) ∧ Own wr w.heap.size 3 (ck O) ∧ Below w.heap.size w wr)
          case atStart => exact ⟨i + (dk n).length, cr, O, rfl, by go_num, rfl, hcr, HO.out, by omega, .inl rfl, HD, HZ, HV2, hown, hbw⟩
          case round =>
            clear hown hbw HD HZ HV2 HO hO1 hO2 hO3 hcr HQ2 O
            obtain ⟨k, cr, O, hq2, rfl, rfl, hcr, hO, hk1, hk, HD, HZ, HV, hown, hbw⟩ := hrel
            have HQ2 := Lib.hid hq2; clear hq2
            have HO := Lib.hid hO
            have hO2 : O.length ≤ (dk m).length + (dk n).length + 1 := by omega
            have hO3 : (dk m).length + (dk n).length + 1 ≤ O.length := by omega
            clear hO
            rcases Nat.eq_zero_or_pos cr with rfl | hcr0
            · clear hk
              go_wp2_with fail
              go_roundg ((dk m).length - (i + 1))
              case measure => have := HQ.out; omega
              case rel =>
                refine ⟨i + 1, O, rfl, by omega, by go_num, HO.out, HD, HZ.out.mono (by omega), ?_, hown, hbw⟩
                have h1 := HV.out
                rw [Nat.mul_zero, Nat.add_zero] at h1
                exact h1
            · obtain rfl : k = i + (dk n).length := by omega
              have hO1 : i + (dk n).length < O.length := by omega
              clear hk
              have hcell := own_kcell hown hO1
              have hfr := hown.frozen (i + (dk n).length)
              have HSET := Lib.hid (Dg.val_set (b := 10000) O (i + (dk n).length) cr hO1)
              have h0 : O[i + (dk n).length] = 0 := HZ.out _ hO1 (Nat.le_refl _)
              rw [h0] at hcell HSET
              clear h0
              go_wp2_with fail
              go_roundg 0
              case measure => have := HQ2.out; omega
              case rel =>
                refine ⟨i + (dk n).length + 1, 0, O.set (i + (dk n).length) cr, rfl, by go_num, vint (by omega), by omega, by rw [List.length_set]; exact HO.out, by omega, .inr rfl, Dg.dig_set HD.out hcr, (HZ.out.mono (by omega)).set (by omega), ?_, own_setk hown (by omega), hbw.setCell (Nat.le_refl _) _⟩
                show _ = _
                have h1 := HSET.out
                have h2 := HV.out
                rw [Nat.mul_zero, Nat.add_zero] at h1
                rw [Nat.mul_zero, Nat.add_zero, h1, h2]
    · obtain rfl : i = (dk m).length := by omega
      have HF : Hid (Dg.val 10000 O = m * n) := by
        show _ = _
        rw [HV.out, List.take_of_length_le (Nat.le_refl _), lm.out]
      have HO := Lib.hid hO
      have hO2 : O.length ≤ (dk m).length + (dk n).length + 1 := by omega
      clear hO
      go_wp2_with fail
      refine (trim_nat _ ((dk m).length + (dk n).length + 1) O _ (n := m * n) (own_kds hown) HO.out.symm hO2 (by unfold maxLen; omega) HD.out HF.out).mono ?_
      rintro e w' ⟨v, rfl, hv, rfl⟩
      go_wp2
      go_ret
      exact ⟨v, rfl, hv, hbw⟩
end Go.Proofs.Ytofijnhkoadfjaa
