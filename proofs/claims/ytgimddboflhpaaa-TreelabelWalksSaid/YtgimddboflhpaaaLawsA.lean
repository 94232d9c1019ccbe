/- The laws on Assign and Parents: each returns true and leaves all memory as it was. -/
import Derived.Test.YtgimddboflhpaaaAwake
import Derived.Test.YtgimddboflhpaaaOwn
namespace Go.Proofs.Ytgimddboflhpaaa
set_option linter.unusedSimpArgs false
set_option linter.unusedVariables false
set_option linter.unusedSectionVars false
open Go.RowKit Tr

/-- The law returns true; nothing that was there has turned. -/
def Holds (w : World) (e : Ending) (w' : World) : Prop := e = .returned (.bool true) ∧ Below w.heap.size w w'

set_option maxHeartbeats 1000000 in
theorem law_assigns (A : Option Addr) (c : Nat) (ps : List Int) (w : World) (hA : Ints w A ps) (hx : ps.length ≤ maxLen) :
    Calls Try.prog 3 #[.slice A ps.length c] w (Holds w) := by
  have hx' := Lib.hid hx
  unfold maxLen at hx
  by_cases hl : 60 < ps.length
  · go_enter Try.func3, Try.ntmps3
    go_wp2
    go_ret
    exact ⟨rfl, Below.refl _ _⟩
  · have hol : (outL ps).length ≤ maxLen := by
      unfold outL
      split
      · rename_i h
        obtain ⟨h1, hv, ha, _⟩ := chk_zero h
        rw [labels_length hv ha]; exact hx'.out
      · simp [maxLen]
    have HOL := Lib.hid hol
    have HEQ : Hid (∀ (A B : Option Addr) (c d : Nat) (w : World), Labs w A (outL ps) → Labs w B (outL ps) → Calls Try.prog 13 #[.slice A (outL ps).length c, .slice B (outL ps).length d] w fun e w' => e = .returned (.bool true) ∧ Below w.heap.size w w') := by
      intro A B c d w h1 h2
      refine (equal_any A B c d _ _ w h1 h2 hol hol).mono ?_
      rintro e w' ⟨rfl, hb⟩
      exact ⟨ret_bool (decide_eq_true rfl), hb⟩
    clear hol
    go_enter Try.func3, Try.ntmps3
    go_wp2_with fail
    refine (assign_any A c ps w hA hx'.out).mono ?_
    rintro e w1 ⟨v1, rfl, ⟨A1, c1, rfl, _, _, hL1⟩, hb1⟩
    have hA1 := hA.below hb1
    go_wp2_with fail
    refine (rassign_any A c ps w1 hA1 hx'.out).mono ?_
    rintro e w2 ⟨v2, rfl, ⟨A2, c2, rfl, _, _, hL2⟩, hb2⟩
    have hL1' : Labs w2 A1 (outL ps) := hL1.below hb2
    go_wp2_with fail
    refine (HEQ.out _ _ _ _ _ hL1' hL2).mono ?_
    rintro e w3 ⟨rfl, hb3⟩
    go_wp2_with fail
    refine (awake_any _).mono ?_
    rintro e w4 ⟨rfl, hb4⟩
    go_wp2
    go_ret
    exact ⟨rfl, hb1.trans ((hb2.mono hb1.size).trans ((hb3.mono (Nat.le_trans hb1.size hb2.size)).trans (hb4.mono (Nat.le_trans hb1.size (Nat.le_trans hb2.size hb3.size)))))⟩
end Go.Proofs.Ytgimddboflhpaaa
