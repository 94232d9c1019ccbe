/- The reference's Assign: what it returns. -/
import Derived.Test.YtgimddboflhpaaaAssign
namespace Go.Proofs.Ytgimddboflhpaaa
set_option linter.unusedSimpArgs false
set_option linter.unusedVariables false
set_option linter.unusedSectionVars false
open Go.RowKit Tr

theorem cyc_stop {ps : List Int} {i k : Nat} (hneg : it ps k i < 0) (h : ∀ j, j < k → it ps (j + 1) i ≠ i) : cyc ps i = false := by
  rw [Bool.eq_false_iff]
  intro hc
  obtain ⟨l, hl⟩ := Anc_of_cyc hc
  by_cases hlk : l < k
  · exact h l hlk hl
  · have := it_neg (ps := ps) (l + 1 - k) _ hneg
    rw [← it_add] at this
    have e : l + 1 - k + k = l + 1 := by omega
    rw [e, hl] at this
    omega
theorem cyc_end {ps : List Int} {i : Nat} (h : ∀ j, j < ps.length → it ps (j + 1) i ≠ i) : cyc ps i = false := by
  rw [Bool.eq_false_iff]
  intro hc
  unfold cyc at hc
  rw [List.any_eq_true] at hc
  obtain ⟨l, hl, he⟩ := hc
  exact h l (List.mem_range.1 hl) (by simpa using he)

set_option maxHeartbeats 1000000 in
theorem rcyclic_any (A : Option Addr) (c : Nat) (ps : List Int) (w : World) (hA : Ints w A ps) (hn : ps.length ≤ 4096) (hv : Valid ps) (i : Nat) (hi : i < ps.length) :
    Calls Try.prog 33 #[.slice A ps.length c, .int .i64 i] w fun e w' => e = .returned (.bool (cyc ps i)) ∧ w = w' := by
  go_enter Try.func33, Try.ntmps33
  go_wp2
  go_loopg [5, 9] ps.length (fun q x k wr => w = wr ∧ ∃ (m : Nat) (z : Int), q = ps.length - m ∧ m ≤ ps.length ∧ k = .int .i64 m ∧ x = .int .i64 z ∧ Hid (z = it ps m i) ∧ 0 ≤ z ∧ z < ps.length ∧ Hid (∀ j, j < m → it ps (j + 1) i ≠ i))
  case atStart => exact ⟨rfl, 0, i, rfl, Nat.zero_le _, rfl, rfl, rfl, by omega, by omega, fun j hj => by omega⟩
  case round =>
    obtain ⟨rfl, m, z, hq, hm, rfl, rfl, hz, h0, h1, hne⟩ := hrel
    have HQ := Lib.hid hq; clear hq
    by_cases hlt : m < ps.length
    · have hzl : z.toNat < ps.length := by omega
      obtain ⟨b, off, rfl, hc⟩ := hA.get hzl
      have hup : Hid (ps[z.toNat] = it ps (m + 1) i) := by
        show ps[z.toNat] = _
        rw [it_succ, ← hz.out, up_toNat h0 hzl]
      have hlo := hv z.toNat hzl
      by_cases hneg : ps[z.toNat] < 0
      · go_wp2
        go_ret
        refine ⟨ret_bool ?_, rfl⟩
        by_cases he : it ps (m + 1) i = i
        · have := hup.out; omega
        · exact (cyc_stop (k := m + 1) (by rw [← hup.out]; exact hneg) (fun j hj => by
            by_cases e : j = m
            · subst e; exact he
            · exact hne.out j (by omega))).symm
      · by_cases he : ps[z.toNat] = i
        · have hb : (ps[z.toNat] == (i : Int)) = true := by simp [he]
          have HE := Lib.hid he; clear he
          go_wp2
          go_ret
          exact ⟨ret_bool (cyc_of hlt (by rw [← hup.out]; exact HE.out)).symm, rfl⟩
        · have hb : (ps[z.toNat] == (i : Int)) = false := by simp [he]
          have HE := Lib.hid he; clear he
          go_wp2
          go_roundg (ps.length - (m + 1))
          case measure => have := HQ.out; omega
          case rel =>
            refine ⟨rfl, m + 1, ps[z.toNat], rfl, by omega, by go_num, rfl, hup, by omega, by omega, fun j hj => ?_⟩
            by_cases e : j = m
            · subst e; rw [← hup.out]; exact HE.out
            · exact hne.out j (by omega)
    · go_wp2
      go_ret
      exact ⟨ret_bool (cyc_end (fun j hj => hne.out j (by omega))).symm, rfl⟩
end Go.Proofs.Ytgimddboflhpaaa
