/- The dependency reference's Check: what it returns. -/
import Derived.Test.YtgimddboflhpaaaRef
namespace Go.Proofs.Ytgimddboflhpaaa
set_option linter.unusedSimpArgs false
set_option linter.unusedVariables false
set_option linter.unusedSectionVars false
open Go.RowKit Tr

set_option maxHeartbeats 1000000 in
theorem r9cyclic_any (A : Option Addr) (c : Nat) (ps : List Int) (w : World) (hA : Ints w A ps) (hn : ps.length ≤ 4096) (hv : Valid ps) (i : Nat) (hi : i < ps.length) :
    Calls Try.prog 39 #[.slice A ps.length c, .int .i64 i] w fun e w' => e = .returned (.bool (cyc ps i)) ∧ w = w' := by
  go_enter Try.func39, Try.ntmps39
  go_wp2
  go_loopg [5, 9] ps.length (fun q x k wr => w = wr ∧ ∃ (m : Nat) (z : Int), q = ps.length - m ∧ m ≤ ps.length ∧ k = .int .i64 m ∧ x = .int .i64 z ∧ Hid (z = it ps m i) ∧ 0 ≤ z ∧ z < ps.length ∧ Hid (∀ j, j < m → it ps (j + 1) i ≠ i))
  case atStart => exact ⟨rfl, 0, i, rfl, Nat.zero_le _, rfl, rfl, rfl, by omega, by omega, fun j hj => by omega⟩
  case round =>
    obtain ⟨rfl, m, z, hq, hm, rfl, rfl, hz, h0, h1, hne⟩ := hrel
    have HQ := Lib.hid hq; clear hq
    by_cases hlt : m < ps.length
    · have hzl : z.toNat < ps.length := by omega
      obtain ⟨b, off, rfl, hc⟩ := hA.get hzl
      have hup : Hid (ps[z.toNat] = it ps (m + 1) i) := by
        show ps[z.toNat] = _
        rw [it_succ, ← hz.out, up_toNat h0 hzl]
      have hlo := hv z.toNat hzl
      by_cases hneg : ps[z.toNat] < 0
      · go_wp2
        go_ret
        refine ⟨ret_bool ?_, rfl⟩
        by_cases he : it ps (m + 1) i = i
        · have := hup.out; omega
        · exact (cyc_stop (k := m + 1) (by rw [← hup.out]; exact hneg) (fun j hj => by
            by_cases e : j = m
            · subst e; exact he
            · exact hne.out j (by omega))).symm
      · by_cases he : ps[z.toNat] = i
        · have hb : (ps[z.toNat] == (i : Int)) = true := by simp [he]
          have HE := Lib.hid he; clear he
          go_wp2
          go_ret
          exact ⟨ret_bool (cyc_of hlt (by rw [← hup.out]; exact HE.out)).symm, rfl⟩
        · have hb : (ps[z.toNat] == (i : Int)) = false := by simp [he]
          have HE := Lib.hid he; clear he
          go_wp2
          go_roundg (ps.length - (m + 1))
          case measure => have := HQ.out; omega
          case rel =>
            refine ⟨rfl, m + 1, ps[z.toNat], rfl, by omega, by go_num, rfl, hup, by omega, by omega, fun j hj => ?_⟩
            by_cases e : j = m
            · subst e; rw [← hup.out]; exact HE.out
            · exact hne.out j (by omega)
    · go_wp2
      go_ret
      exact ⟨ret_bool (cyc_end (fun j hj => hne.out j (by omega))).symm, rfl⟩

theorem r9fin {ps : List Int} {a b : Int} (h : chk ps = (a, b)) (w : World) : Ending.returned (.tuple #[.int .i64 a, .int .i64 b]) = .returned (.tuple #[.int .i64 (chk ps).1, .int .i64 (chk ps).2]) ∧ w = w := ⟨by rw [h], rfl⟩
set_option maxHeartbeats 1000000 in
theorem r9check_any (A : Option Addr) (c : Nat) (ps : List Int) (w : World) (hA : Ints w A ps) (hx : ps.length ≤ maxLen) :
    Calls Try.prog 35 #[.slice A ps.length c] w fun e w' => e = .returned (.tuple #[.int .i64 (chk ps).1, .int .i64 (chk ps).2]) ∧ w = w' := by
  unfold maxLen at hx
  by_cases hl : 4096 < ps.length
  · go_enter Try.func35, Try.ntmps35
    go_wp2
    go_ret2
    exact r9fin (chk_limit hl) _
  · have hl' : ps.length ≤ 4096 := by omega
    go_enter Try.func35, Try.ntmps35
    go_wp2
    go_loop [12] (fun k => ∃ n : Nat, n ≤ ps.length ∧ k = .int .i64 n ∧ Hid (∀ j, j < n → badB ps j = false)) (fun k => ps.length - (intOf k).toNat)
    case atStart => exact ⟨0, Nat.zero_le _, rfl, fun j hj => by omega⟩
    case round =>
      obtain ⟨n, hn, rfl, HB⟩ := hrel
      by_cases hlt : n < ps.length
      · obtain ⟨b, off, rfl, hc⟩ := hA.get hlt
        by_cases h1 : ps[n] < -1
        · go_wp2
          go_ret2
          have he := chk_range hl hlt HB.out (by rw [badB_get hlt]; simp [h1])
          exact r9fin he _
        · by_cases h2 : (ps.length : Int) ≤ ps[n]
          · go_wp2
            go_ret2
            have he := chk_range hl hlt HB.out (by rw [badB_get hlt]; simp [h2])
            exact r9fin he _
          · go_wp2
            go_round
            case rel =>
              refine ⟨n + 1, by omega, by go_num, fun j hj => ?_⟩
              by_cases e : j = n
              · subst e; rw [badB_get hlt]; simp only [Bool.or_eq_false_iff, decide_eq_false_iff_not]; omega
              · exact HB.out j (by omega)
            case measure => simp [intOf]; omega
      · have HV : Hid (∀ j, j < ps.length → badB ps j = false) := fun j hj => HB.out j (by omega)
        clear HB
        have hv2 : Hid (Valid ps) := valid_of_bad HV.out
        go_wp2
        go_loop [29] (fun k => ∃ n : Nat, n ≤ ps.length ∧ k = .int .i64 n ∧ Hid (∀ j, j < n → ¬ Anc ps j j)) (fun k => ps.length - (intOf k).toNat)
        case atStart => exact ⟨0, Nat.zero_le _, rfl, fun j hj => by omega⟩
        case round =>
          obtain ⟨i, hi, rfl, HC⟩ := hrel
          by_cases hlt : i < ps.length
          · by_cases hcy : cyc ps i = true
            · have hcall : ∀ w, Ints w A ps → Calls Try.prog 39 #[.slice A ps.length c, .int .i64 i] w fun e w' => e = .returned (.bool true) ∧ w = w' := by
                intro w h; have := r9cyclic_any A c ps w h hl' hv2.out i hlt; rwa [hcy] at this
              have HCA := Lib.hid hcall
              have HCY := Lib.hid hcy
              clear hcall hcy
              go_wp2_with (go_at_call 39; refine (HCA.out _ hA).mono ?_; rintro e w1 ⟨rfl, rfl⟩)
              go_ret2
              have he := chk_cycle hl HV.out hlt HC.out (Anc_of_cyc HCY.out)
              exact r9fin he _
            · have hcyf : cyc ps i = false := by simpa using hcy
              have hcall : ∀ w, Ints w A ps → Calls Try.prog 39 #[.slice A ps.length c, .int .i64 i] w fun e w' => e = .returned (.bool false) ∧ w = w' := by
                intro w h; have := r9cyclic_any A c ps w h hl' hv2.out i hlt; rwa [hcyf] at this
              have HCA := Lib.hid hcall
              have HCY := Lib.hid hcyf
              clear hcall hcy hcyf
              go_wp2_with (go_at_call 39; refine (HCA.out _ hA).mono ?_; rintro e w1 ⟨rfl, rfl⟩)
              go_round
              case rel =>
                refine ⟨i + 1, by omega, by go_num, fun j hj => ?_⟩
                by_cases e : j = i
                · subst e; rw [← cyc_iff hv2.out hlt, HCY.out]; simp
                · exact HC.out j (by omega)
              case measure => simp [intOf]; omega
          · have hac : Hid (Acyc ps) := fun j hj => HC.out j (by omega)
            have hc0 : Hid (chk ps = (0, 0)) := chk_ok hl HV.out hac.out
            go_wp2
            go_ret2
            exact r9fin hc0.out _

theorem r9valid_any (A : Option Addr) (c : Nat) (ps : List Int) (w : World) (hA : Ints w A ps) (hx : ps.length ≤ maxLen) :
    Calls Try.prog 19 #[.slice A ps.length c] w fun e w' => e = .returned (.bool ((chk ps).2 == 0)) ∧ w = w' := by
  go_enter Try.func19, Try.ntmps19
  go_wp2_with (go_at_call 35; refine (r9check_any A c ps _ hA hx).mono ?_; rintro e w1 ⟨rfl, rfl⟩)
  go_ret
  exact ⟨rfl, rfl⟩
end Go.Proofs.Ytgimddboflhpaaa
