/- The reference's numbers: Big. -/
import Derived.Test.YtofijnhkoadfjaaRb
namespace Go.Proofs.Ytofijnhkoadfjaa
set_option linter.unusedSimpArgs false
set_option linter.unusedVariables false
set_option linter.unusedSectionVars false
open Go.RowKit Dg

theorem big_step {V P vo t : Nat} (d : Nat) (hV : vo + P * (t * 10000 + d) = V) : (vo + P * d) + P * 10000 * t = V := by
  rw [← hV, Nat.mul_add, Nat.mul_assoc, Nat.mul_comm t 10000]; omega

set_option maxRecDepth 100000 in
set_option maxHeartbeats 4000000 in
theorem big_any (s : ByteArray) (L : List Nat) (w : World) (hs : s.data.toList = asc L) (hd : ∀ d ∈ L, d < 10) (hlen : L.length ≤ 100000) :
    Calls Try.prog 60 #[.string s] w fun e w' => ∃ v, e = .returned v ∧ BigV w' v (num L) ∧ Below w.heap.size w w' := by
  have hsz := bsize hs
  have HSZ := Lib.hid hsz
  have hsz1 : s.size ≤ L.length := by omega
  have hsz2 : L.length ≤ s.size := by omega
  have HS := Lib.hid hs
  have HD := Lib.hid hd
  clear hs hd hsz
  obtain ⟨i0, hi0, hz0, hz1, hz2⟩ := info_parts int_info
  go_enter Try.func60, Try.ntmps60
  go_wp2_with fail
  go_loopg [3, 4] L.length (fun q v3 v4 wr => ∃ (p : Nat) (z : Int) (O : List Nat), q = p ∧ v4 = .int .i64 z ∧ p ≤ L.length ∧ O.length + p ≤ L.length ∧ (z = p ∨ (p = 0 ∧ z ≤ 0 ∧ -4 ≤ z)) ∧ Hid (Dg.Dig 10000 O) ∧ Hid (Dg.val 10000 O + 10000 ^ O.length * num (L.take p) = num L) ∧ wr.ownsRow w.heap.size 3 1 v3 O.length (ck O) ∧ Below w.heap.size w wr)
  case atStart => exact ⟨L.length, s.size, [], rfl, rfl, Nat.le_refl _, by simp, by omega, fun x hx => by simp at hx, by show _ = _; rw [List.take_length]; simp [Dg.val], World.ownsRow_nil _ _ _ _, Below.refl _ _⟩
  case round =>
    obtain ⟨p, z, O, hq, rfl, hpl, hOl, hz, HDO, HV, hown, hbw⟩ := hrel
    have HQ := Lib.hid hq; clear hq
    rcases Nat.eq_zero_or_pos p with rfl | hp0
    · have hz2 : z ≤ 0 := by omega
      clear hz
      have HF : Hid (Dg.val 10000 O = num L) := by
        show _ = _
        rw [← HV.out]; simp [num]
      obtain ⟨A2, c2, rfl, hn1, hn2⟩ := own_form hown
      have HW : Hid (Kds wr A2 O) := Rd.of_own hown
      clear hown HV
      go_wp2_with fail
      refine (trim_nat A2 c2 O _ (n := num L) HW.out rfl hn1 hn2 HDO.out HF.out).mono ?_
      rintro e w' ⟨v, rfl, hv, rfl⟩
      go_wp2
      go_ret
      exact ⟨v, rfl, hv, hbw⟩
    · obtain rfl : z = (p : Int) := by omega
      clear hz
      obtain ⟨st, hst, hst1, hst2, hst3⟩ : ∃ st : Nat, max (0 : Int) ((p : Int) - 4) = (st : Int) ∧ st ≤ p ∧ p ≤ st + 4 ∧ (st + 4 = p ∨ (st = 0 ∧ p < 4)) := ⟨p - 4, by omega, by omega, by omega, by omega⟩
      have HST3 := Lib.hid hst3
      have HST := Lib.hid hst
      clear hst3 hst
      go_wp2_with fail
      rw [HST.out]
      clear HST
      go_loop [5, 6] (fun s5 s6 => ∃ j d : Nat, st ≤ j ∧ j ≤ p ∧ s6 = .int .i64 j ∧ s5 = .int .i64 d ∧ d < 10000 ∧ Hid (d = num ((L.drop st).take (j - st)))) (fun _ s6 => p - (intOf s6).toNat)
      case atStart => exact ⟨st, 0, Nat.le_refl _, hst1, rfl, rfl, by omega, by show _ = _; rw [Nat.sub_self]; rfl⟩
      case round =>
        obtain ⟨j, d, hj0, hj1, rfl, rfl, hdb, HN⟩ := hrel
        have hjb : ((L.drop st).take (j - st)).length = j - st := by rw [List.length_take, List.length_drop]; omega
        have hdN := num_lt (l := (L.drop st).take (j - st)) fun x hx => HD.out x (List.mem_of_mem_drop (List.mem_of_mem_take hx))
        rw [hjb, ← HN.out] at hdN
        clear hjb
        by_cases hjp : j < p
        · have hd3 : d < 1000 := Nat.lt_of_lt_of_le hdN (Nat.pow_le_pow_right (by decide) (show j - st ≤ 3 by omega))
          clear hdN
          have hjl : j < L.length := by omega
          have hbb : j < s.size := by omega
          have hdig := HD.out _ (List.getElem_mem hjl)
          have hci : (((s[j]'hbb).toNat : Nat) : Int) = 48 + ((L[j] : Nat) : Int) := by
            rw [bget HS.out HD.out hbb hjl]; omega
          have HN1 : Hid (10 * d + L[j] = num ((L.drop st).take (j + 1 - st))) := by
            show _ = _
            have e : j + 1 - st = j - st + 1 := by omega
            have e2 : st + (j - st) = j := by omega
            have := num_chunk_succ L st (j - st) (by omega)
            simp only [e2] at this
            rw [e, this, ← HN.out]
          generalize L[j] = y at hdig hci HN1
          go_wp2_with fail
          go_round
          case rel => exact ⟨j + 1, 10 * d + y, by omega, by omega, by go_num, vint (by omega), by omega, HN1⟩
          case measure => simp [intOf]; omega
        · obtain rfl : j = p := by omega
          have HC : Hid (num (L.take j) = num (L.take st) * 10 ^ (j - st) + d) := by
            show _ = _
            have h := num_chunk L st (j - st) (by omega)
            have e2 : st + (j - st) = j := by omega
            rw [e2] at h
            rw [h, HN.out]
          clear hdN HN
          have HV2 : Hid (Dg.val 10000 O + 10000 ^ O.length * (num (L.take st) * 10000 + d) = num L) := by
            show _ = _
            rw [← HV.out, HC.out]
            rcases HST3.out with h4 | ⟨h4, h5⟩
            · have : j - st = 4 := by omega
              rw [this]
            · subst h4; simp [num]
          clear HV HC
          have h63 : O.length + 1 ≤ maxLen := by unfold maxLen; omega
          have hszw := hbw.size
          go_wp2_with (at_builtin; refine wpList_append_own_at _ rfl (.tmp 29) (.tmp 31) 22 rfl w.heap.size 3 i0 _ 1 8 Try.underlying22 hi0 hz0 hz1 hz2 rfl (by decide) _ O.length (ck O) rfl (hown.alloc _) ⟨wr.heap.size, 0, none⟩ 1 1 [.int .i64 (d : Int)] rfl rfl (new_cells _ _ _ _ rfl) (by simp [Value.oneCell']) h63 (by omega) (by rw [size1]; omega) ?_)
          intro v' w' hown' hgrow _ hat
          have hbw' : Below w.heap.size w w' := (hbw.alloc hbw.size _).grown hgrow (by rw [size1]; omega) (own_lt hown)
          have H' : Hid (w'.ownsRow w.heap.size 3 1 v' (O ++ [d]).length (ck (O ++ [d]))) := by
            show World.ownsRow _ _ _ _ _ _ _
            rw [← ck_snoc (z := (d : Int)) rfl, List.length_append]; exact hown'
          clear hgrow hat hown' hown
          go_wp2_with fail
          go_roundg st
          case measure => have := HQ.out; have := HST3.out; omega
          case rel =>
            refine ⟨st, (j : Int) - 4, O ++ [d], rfl, by go_num, by omega, by rw [List.length_append]; have := HST3.out; simp; omega, by have := HST3.out; omega, ?_, ?_, H'.out, hbw'⟩
            · exact dig_snoc HDO.out hdb
            · show _ = _
              rw [Dg.val_snoc, List.length_append]
              exact big_step d HV2.out
end Go.Proofs.Ytofijnhkoadfjaa
