/- The program's check of parents: what it returns. -/
import Derived.Test.YtgimddboflhpaaaRows
import Derived.Test.YtgimddboflhpaaaMem
import Derived.Test.YtgimddboflhpaaaChk
import Derived.Deep.QuietTactic
import Derived.BigQuiet
import Derived.Deep.LoopGhost
namespace Go.Proofs.Ytgimddboflhpaaa
set_option linter.unusedSimpArgs false
set_option linter.unusedVariables false
set_option linter.unusedSectionVars false
open Go.RowKit Tr
theorem int_info3 : (Try.prog.info? 3).map (fun i => (i.zero, i.size, i.bytes)) = some (some (.int .i64 0), 1, 8) := by kernel_rfl

theorem ci_set (l : List Int) (i : Nat) (v : Int) : (ci l).set i (.int .i64 v) = ci (l.set i v) := by simp [ci, List.map_set]
theorem ci_get {l : List Int} {i : Nat} (h : i < l.length) : (ci l)[i]? = some (.int .i64 l[i]) := by simp [ci, h]
theorem getD_get {l : List Int} {i : Nat} (h : i < l.length) : l.getD i 0 = l[i] := by simp [List.getD, h]
theorem up_toNat {ps : List Int} {x : Int} (h0 : 0 ≤ x) (h : x.toNat < ps.length) : up ps x = ps[x.toNat] := by
  unfold up; rw [if_neg (by omega)]; simp [List.getD, h]

set_option maxHeartbeats 1000000 in
theorem check_any (A : Option Addr) (c : Nat) (ps : List Int) (w : World) (hA : Ints w A ps) (hx : ps.length ≤ maxLen) :
    Calls Try.prog 31 #[.slice A ps.length c] w fun e w' => e = .returned (.tuple #[.int .i64 (chk ps).1, .int .i64 (chk ps).2]) ∧ Below w.heap.size w w' := by
  unfold maxLen at hx
  by_cases hl : 4096 < ps.length
  · go_enter Try.func31, Try.ntmps31
    go_wp2
    go_ret2
    rw [chk_limit hl]
    exact ⟨rfl, Below.refl _ _⟩
  · have hl' : ps.length ≤ 4096 := by omega
    have hmk := fun w => run_make_ints (P := Try.prog) Try.underlying22 int_info3 ps.length (by omega) w
    go_enter Try.func31, Try.ntmps31
    go_wp2
    go_loop [17] (fun k => ∃ n : Nat, n ≤ ps.length ∧ k = .int .i64 n ∧ ∀ j, j < n → badB ps j = false) (fun k => ps.length - (intOf k).toNat)
    case atStart => exact ⟨0, Nat.zero_le _, rfl, fun j hj => by omega⟩
    case round =>
      obtain ⟨n, hn, rfl, hbad⟩ := hrel
      have HB := Lib.hid hbad; clear hbad
      by_cases hlt : n < ps.length
      · obtain ⟨b, off, rfl, hc⟩ := hA.get hlt
        by_cases h1 : ps[n] < -1
        · go_wp2
          go_ret2
          rw [chk_range hl hlt HB.out (by rw [badB_get hlt]; simp [h1])]
          exact ⟨rfl, Below.refl _ _⟩
        · by_cases h2 : (ps.length : Int) ≤ ps[n]
          · go_wp2
            go_ret2
            rw [chk_range hl hlt HB.out (by rw [badB_get hlt]; simp [h2])]
            exact ⟨rfl, Below.refl _ _⟩
          · go_wp2
            go_round
            case rel =>
              refine ⟨n + 1, by omega, by go_num, fun j hj => ?_⟩
              by_cases e : j = n
              · subst e; rw [badB_get hlt]; simp only [Bool.or_eq_false_iff, decide_eq_false_iff_not]; omega
              · exact HB.out j (by omega)
            case measure => simp [intOf]; omega
      · go_wp2
        have HV : Hid (∀ j, j < ps.length → badB ps j = false) := fun j hj => HB.out j (by omega)
        clear HB
        have hv2 : Hid (Valid ps) := valid_of_bad HV.out
        go_loopg [7, 37] ps.length (fun q v k wr => ∃ (i : Nat) (s : List Int) (l : Int), q = ps.length - i ∧ i ≤ ps.length ∧ k = .int .i64 i ∧ v = .int .i64 l ∧ Inv ps i s l ∧ Own wr w.heap.size 3 (ci s) ∧ Below w.heap.size w wr)
        case atStart => exact ⟨0, _, -1, rfl, Nat.zero_le _, rfl, rfl, Inv.start, Own.new _ _ _, (Below.refl _ _).alloc (Nat.le_refl _) _⟩
        case round =>
          obtain ⟨i, s, l, hq, hi, rfl, rfl, hinv, hown, hbw⟩ := hrel
          have HQ := Lib.hid hq; clear hq
          by_cases hlt : i < ps.length
          · go_wp2
            go_loopg [9] (ps.length + 1) (fun q v w1 => ∃ (k : Nat) (x : Int) (s1 : List Int), q = ps.length + 1 - k ∧ k ≤ ps.length ∧ v = .int .i64 x ∧ Hid (x = it ps k i) ∧ -1 ≤ x ∧ x < ps.length ∧ Hid (Mk ps i s s1 k) ∧ Own w1 w.heap.size 3 (ci s1) ∧ Below w.heap.size w w1)
            case atStart => exact ⟨0, i, s, rfl, Nat.zero_le _, rfl, rfl, by omega, by omega, Mk.start hinv.len, hown, hbw⟩
            case round =>
              clear hown hbw
              obtain ⟨k, x, s1, hq, hk, rfl, hx, hx0, hx1, hm, hown, hbw⟩ := hrel
              have HQ1 := Lib.hid hq; clear hq
              by_cases h0 : 0 ≤ x
              · have hxl : x.toNat < s1.length := by rw [hm.out.len]; omega
                have hxp : x.toNat < ps.length := by omega
                obtain ⟨v, hv⟩ : ∃ v, Hid (s1.getD x.toNat 0 = v) := ⟨_, rfl⟩
                have hcell : wr.cell? ⟨w.heap.size, x.toNat, none⟩ = some (.int .i64 v) := by
                  rw [hown.cell, ci_get hxl, ← hv.out, getD_get hxl]
                have hfr : wr.frozen? ⟨w.heap.size, x.toNat, none⟩ = false := hown.frozen _
                by_cases hv0 : v = 0
                · subst hv0
                  obtain ⟨b, off, rfl, hc⟩ := (hA.below hbw).get hxp
                  have hbl : b < w.heap.size := by
                    obtain ⟨b', off', e, hc'⟩ := hA.get hxp
                    cases e
                    exact World.block_lt_of_cell? w _ hc'
                  have hown2 : Own (wr.setCell ⟨w.heap.size, x.toNat, none⟩ (.int .i64 (i + 1))) w.heap.size 3 (ci (s1.set x.toNat (i + 1))) := by
                    rw [← ci_set]; exact hown.set_ _ _
                  have hbw2 : Below w.heap.size w (wr.setCell ⟨w.heap.size, x.toNat, none⟩ (.int .i64 (i + 1))) := hbw.setCell (Nat.le_refl _) _
                  have hc2 : (wr.setCell ⟨w.heap.size, x.toNat, none⟩ (.int .i64 (i + 1))).cell? ⟨b, off + x.toNat, none⟩ = some (.int .i64 ps[x.toNat]) := by
                    rw [World.cell?_setCell_other]
                    · exact hc
                    · intro e; injection e; omega
                  clear hown hbw hc
                  have hxl2 : x.toNat < ps.length := hxp
                  have hlo := (up_range hv2.out x hx1)
                  rw [up_toNat h0 hxp] at hlo
                  go_wp2
                  go_roundg (ps.length + 1 - (k + 1))
                  case measure =>
                    have := HQ1.out
                    omega
                  case rel =>
                    have hxo := hx.out
                    have hst : s1.getD (it ps k i).toNat 0 = 0 := by rw [← hxo]; exact hv.out
                    have hlt' := hm.out.lt hv2.out hlt (by omega) hst
                    refine ⟨k + 1, ps[x.toNat], _, rfl, by omega, rfl, ?_, hlo.1, hlo.2, ?_, hown2, hbw2⟩
                    · show ps[x.toNat] = _
                      rw [it_succ, ← hxo, up_toNat h0 hxp]
                    · have := hm.out.step hv2.out hlt (by omega) hst
                      rw [← hxo] at this; exact this
                · have hvb : (v == 0) = false := by simp [hv0]
                  by_cases hv1 : v = i + 1
                  · subst hv1
                    have hvb1 : ((i : Int) + 1 != (i : Int) + 1) = false := by simp
                    have hxo := Lib.hid hx.out
                    obtain ⟨pp, hp0, hp1, hp2⟩ : ∃ p, 0 < p ∧ p ≤ ps.length ∧ Hid (it ps p x = x) := by
                      have := hm.out.met hv2.out hlt hinv (by rw [← hx.out]; exact h0) (by rw [← hx.out, hv.out])
                      rw [← hx.out] at this; exact this
                    go_wp2
                    clear hcell hfr hv0 hvb hvb1
                    go_loopg [7, 10, 11] (pp + 1) (fun q u y f w1 => ∃ (m : Nat) (z l1 : Int) (fb : Bool), q = pp + 1 - m ∧ m ≤ pp ∧ u = .int .i64 l1 ∧ y = .int .i64 z ∧ f = .bool fb ∧ Hid (fb = decide (m = 0)) ∧ Hid (z = it ps m x) ∧ 0 ≤ z ∧ z < ps.length ∧ -1 ≤ l1 ∧ Hid (Rnd ps x l m l1) ∧ Own w1 w.heap.size 3 (ci s1) ∧ Below w.heap.size w w1)
                    case atStart => exact ⟨0, x, l, true, rfl, by omega, rfl, rfl, rfl, rfl, rfl, h0, hx1, hinv.low, Rnd.start hinv.low, hown, hbw⟩
                    case round =>
                      clear hown hbw
                      obtain ⟨m, z, l1, fb, hq, hm1, rfl, rfl, rfl, hfb, hz, hz0, hz1, hl1, hrn, hown, hbw⟩ := hrel
                      have HQ2 := Lib.hid hq; clear hq
                      have hzl : z.toNat < ps.length := by omega
                      by_cases hgo : fb = true ∨ z ≠ x
                      · have hne : m = 0 ∨ it ps m x ≠ x := by
                          rcases hgo with h | h
                          · left; have := hfb.out; rw [h] at this; simpa using this.symm
                          · right; rw [← hz.out]; exact h
                        have hmp : m < pp := by
                          rcases Nat.lt_or_ge m pp with h | h
                          · exact h
                          · exfalso
                            have e : m = pp := by omega
                            rcases hne with h' | h'
                            · omega
                            · rw [e] at h'; exact h' hp2.out
                        have hst := hrn.out.step (by rw [← hz.out]; exact hz0) hne
                        rw [← hz.out] at hst
                        have HST := Lib.hid hst; clear hst
                        have HNE := Lib.hid hne; clear hne
                        obtain ⟨b, off, rfl, hc⟩ := (hA.below hbw).get hzl
                        have hlo := (up_range hv2.out z hz1)
                        rw [up_toNat hz0 hzl] at hlo
                        have hpos : 0 ≤ ps[z.toNat] := by
                          have e' : ((it ps k i).toNat : Int) = it ps k i := by have := hx.out; omega
                          have hcyc : Anc ps (it ps k i).toNat (it ps k i).toNat := ⟨pp - 1, by
                            have em : pp - 1 + 1 = pp := by omega
                            rw [e', em, ← hx.out]; exact hp2.out⟩
                          have := hcyc.loop_nonneg (m + 1)
                          rw [e', ← hx.out, it_succ, ← hz.out, up_toNat hz0 hzl] at this
                          exact this
                        have hfb' : fb = true ∨ (fb = false ∧ (z != x) = true) := by
                          cases fb
                          · right; exact ⟨rfl, by rcases hgo with h | h; · cases h
                                                  · simp [h]⟩
                          · exact .inl rfl
                        clear hgo
                        have nx : Hid (ps[z.toNat] = it ps (m + 1) x) := by
                          show ps[z.toNat] = _
                          rw [it_succ, ← hz.out, up_toNat hz0 hzl]
                        by_cases hlneg : l1 < 0
                        · have R : Hid (Rnd ps x l (m + 1) z) := by
                            have := HST.out
                            rwa [if_pos (.inl hlneg)] at this
                          rcases hfb' with rfl | ⟨rfl, hzx⟩
                          · go_wp2
                            go_roundg (pp + 1 - (m + 1))
                            case measure => have := HQ2.out; omega
                            case rel => exact ⟨m + 1, ps[z.toNat], z, false, rfl, by omega, rfl, rfl, rfl, by simp [Hid], nx, hpos, hlo.2, by omega, R, hown, hbw⟩
                          · go_wp2
                            go_roundg (pp + 1 - (m + 1))
                            case measure => have := HQ2.out; omega
                            case rel => exact ⟨m + 1, ps[z.toNat], z, false, rfl, by omega, rfl, rfl, rfl, by simp [Hid], nx, hpos, hlo.2, by omega, R, hown, hbw⟩
                        · by_cases hlz : z < l1
                          · have R : Hid (Rnd ps x l (m + 1) z) := by
                              have := HST.out
                              rwa [if_pos (.inr hlz)] at this
                            rcases hfb' with rfl | ⟨rfl, hzx⟩
                            · go_wp2
                              go_roundg (pp + 1 - (m + 1))
                              case measure => have := HQ2.out; omega
                              case rel => exact ⟨m + 1, ps[z.toNat], z, false, rfl, by omega, rfl, rfl, rfl, by simp [Hid], nx, hpos, hlo.2, by omega, R, hown, hbw⟩
                            · go_wp2
                              go_roundg (pp + 1 - (m + 1))
                              case measure => have := HQ2.out; omega
                              case rel => exact ⟨m + 1, ps[z.toNat], z, false, rfl, by omega, rfl, rfl, rfl, by simp [Hid], nx, hpos, hlo.2, by omega, R, hown, hbw⟩
                          · have R : Hid (Rnd ps x l (m + 1) l1) := by
                              have := HST.out
                              rwa [if_neg (by omega)] at this
                            rcases hfb' with rfl | ⟨rfl, hzx⟩
                            · go_wp2
                              go_roundg (pp + 1 - (m + 1))
                              case measure => have := HQ2.out; omega
                              case rel => exact ⟨m + 1, ps[z.toNat], l1, false, rfl, by omega, rfl, rfl, rfl, by simp [Hid], nx, hpos, hlo.2, by omega, R, hown, hbw⟩
                            · go_wp2
                              go_roundg (pp + 1 - (m + 1))
                              case measure => have := HQ2.out; omega
                              case rel => exact ⟨m + 1, ps[z.toNat], l1, false, rfl, by omega, rfl, rfl, rfl, by simp [Hid], nx, hpos, hlo.2, by omega, R, hown, hbw⟩
                      · have hfx : fb = false ∧ z = x := by
                          cases fb
                          · refine ⟨rfl, ?_⟩
                            rcases Int.lt_trichotomy z x with h | h | h
                            · exact absurd (.inr (by omega)) hgo
                            · exact h
                            · exact absurd (.inr (by omega)) hgo
                          · exact absurd (.inl rfl) hgo
                        obtain ⟨rfl, rfl⟩ := hfx
                        have hm0 : 0 < m := by
                          rcases Nat.eq_zero_or_pos m with h | h
                          · have := hfb.out; rw [h] at this; simp at this
                          · exact h
                        have hzx : (z != z) = false := by simp
                        have hnext : Hid (Inv ps (i + 1) s1 l1) := by
                          refine hinv.hit hv2.out hlt hm.out (m := m) (by rw [← hx.out]; exact h0) (by rw [← hx.out, hv.out]) ?_ hm0 ?_
                          · rw [← hx.out]; exact hrn.out
                          · rw [← hx.out]; exact hz.out.symm
                        clear hgo
                        go_wp2
                        go_roundg (ps.length - (i + 1))
                        case measure =>
                          have := HQ.out
                          omega
                        case rel => exact ⟨i + 1, s1, l1, rfl, by omega, by go_num, rfl, hnext.out, hown, hbw⟩
                  · have hvb1 : (v != (i : Int) + 1) = true := by simp [hv1]
                    go_wp2
                    go_roundg (ps.length - (i + 1))
                    case measure =>
                      have := HQ.out
                      omega
                    case rel =>
                      have hxo := hx.out
                      refine ⟨i + 1, s1, l, rfl, by omega, by go_num, rfl, ?_, hown, hbw⟩
                      exact hinv.miss hv2.out hlt hm.out (.inr (by rw [← hxo, hv.out]; exact ⟨hv0, hv1⟩))
              · go_wp2
                go_roundg (ps.length - (i + 1))
                case measure =>
                  have := HQ.out
                  omega
                case rel =>
                  have hxo := hx.out
                  refine ⟨i + 1, s1, l, rfl, by omega, by go_num, rfl, ?_, hown, hbw⟩
                  exact hinv.miss hv2.out hlt hm.out (.inl (by omega))
          · obtain rfl : i = ps.length := by omega
            have hfin := hinv.chk hl HV.out
            have HF := Lib.hid hfin; clear hfin
            by_cases hl0 : 0 ≤ l
            · go_wp2
              go_ret2
              rw [HF.out.1 hl0]
              exact ⟨rfl, hbw⟩
            · go_wp2
              go_ret2
              rw [HF.out.2 (by omega)]
              exact ⟨rfl, hbw⟩
end Go.Proofs.Ytgimddboflhpaaa
