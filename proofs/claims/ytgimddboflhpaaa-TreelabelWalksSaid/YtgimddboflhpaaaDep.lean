/- The dependency package's Depth at a good forest. -/
import Derived.Test.YtgimddboflhpaaaWay
namespace Go.Proofs.Ytgimddboflhpaaa
set_option linter.unusedSimpArgs false
set_option linter.unusedVariables false
set_option linter.unusedSectionVars false
open Go.RowKit Tr

theorem tall_depth {ps : List Int} {ls : List Lab} (F : Facts ps ls) {i n : Nat} (hi : i < ps.length) (h : Tall ps i n) : (labAt ls i).2.2 = (n : Int) - 1 := by
  obtain ⟨k, r, hk, hr, hd⟩ := F.dep i hi
  have h1 : Tall ps i (k + 1) := by
    refine ⟨fun l hl => ?_, ?_⟩
    · by_cases h0 : it ps l (i : Int) < 0
      · have := it_neg_mono (show l ≤ k by omega) h0
        omega
      · omega
    · rw [it_succ, hk, hr]; omega
  rw [h.uniq h1, hd]; omega

set_option maxHeartbeats 400000 in
theorem depth_ok (A : Option Addr) (c : Nat) (ps : List Int) (i : Nat) (w : World) (hA : Ints w A ps) (hx : ps.length ≤ maxLen) (hc : chk ps = (0, 0)) (hi : i < ps.length) :
    Calls Try.prog 30 #[.slice A ps.length c, .int .i64 i] w fun e w' => ∃ n : Nat, e = .returned (.int .i64 ((n : Int) - 1)) ∧ Tall ps i n ∧ Below w.heap.size w w' := by
  obtain ⟨hl, hv, ha, -⟩ := chk_zero (show (chk ps).2 = 0 by rw [hc])
  have hx' := Lib.hid hx
  have HC := Lib.hid hc
  have HW : Hid (∀ w, Ints w A ps → Calls Try.prog 38 #[.slice A ps.length c, .int .i64 i] w fun e w' => ∃ n v, e = .returned v ∧ Tall ps i n ∧ w'.ownsRow w.heap.size 3 1 v n (ci (wayL ps i n)) ∧ Below w.heap.size w w') := fun w h => way_ok A c ps i w h hl hv ha hi
  unfold maxLen at hx
  have HT : Hid (∀ n, Tall ps i n → n ≤ ps.length) := by
    show ∀ n, Tall ps i n → n ≤ ps.length
    intro n hn
    obtain ⟨m, h1, h2⟩ := tall_of hv ha hi
    rw [hn.uniq h1]; exact h2
  clear hc hv ha
  go_enter Try.func30, Try.ntmps30
  go_wp2_with fail
  refine (usable_ok A c ps i w hA hx'.out HC.out hi).mono ?_
  rintro e w1 ⟨rfl, hb1⟩
  go_wp2_with fail
  refine (HW.out _ (hA.below hb1)).mono ?_
  rintro e w2 ⟨n, v, rfl, hn, hown, hb2⟩
  have hnl := HT.out n hn
  have hn' := Lib.hid hn
  obtain ⟨Ag, cg, rfl, hc1, hc2⟩ := own_form hown
  go_wp2
  go_ret
  exact ⟨n, by go_num, hn'.out, hb1.trans (hb2.mono hb1.size)⟩
end Go.Proofs.Ytgimddboflhpaaa
