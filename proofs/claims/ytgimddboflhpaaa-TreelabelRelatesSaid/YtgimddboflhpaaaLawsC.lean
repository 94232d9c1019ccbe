/- The law on sisters and the lowest common ancestor against the reference: it returns true and leaves all memory as it was. -/
import Derived.Test.YtgimddboflhpaaaLawsA
import Derived.Test.YtgimddboflhpaaaRefComm
namespace Go.Proofs.Ytgimddboflhpaaa
set_option linter.unusedSimpArgs false
set_option linter.unusedVariables false
set_option linter.unusedSectionVars false
open Go.RowKit Tr

theorem below4 {w w1 w2 : World} (h1 : Below w.heap.size w w1) (h2 : Below w1.heap.size w1 w2) : Below w.heap.size w w2 := h1.trans (h2.mono h1.size)

set_option maxHeartbeats 1000000 in
theorem law_relates (A : Option Addr) (c : Nat) (ls : List Lab) (i j : Int) (w : World) (hA : Labs w A ls) (hx : ls.length ≤ maxLen) :
    Calls Try.prog 8 #[.slice A ls.length c, .int .i64 i, .int .i64 j] w (Holds w) := by
  have hx' := Lib.hid hx
  unfold maxLen at hx
  by_cases hl : 25 < ls.length
  · go_enter Try.func8, Try.ntmps8
    go_wp2
    go_ret
    exact ⟨rfl, Below.refl _ _⟩
  · have hl6 : ls.length ≤ 65536 := by omega
    go_enter Try.func8, Try.ntmps8
    go_wp2_with fail
    refine (own_any A c ls w hA hl6).mono ?_
    rintro e w1 ⟨v1, rfl, ⟨A1, c1, rfl, _, _, hL1⟩, hb1⟩
    have hA1 := hA.below hb1
    go_wp2_with fail
    refine (sisters_any A c ls i j w1 hA1 hx'.out).mono ?_
    rintro e w2 ⟨hb2, s, rfl, hs⟩
    have hs' := Lib.hid hs; clear hs
    have hA2 := hA1.below hb2
    have hL2 : Labs w2 A1 ls := hL1.below hb2
    go_wp2_with fail
    refine (rsisters_any A1 c1 ls i j w2 hL2 hx'.out).mono ?_
    rintro e w3 ⟨hb3, s', rfl, hs3⟩
    obtain rfl : s' = s := by rw [Bool.eq_iff_iff, hs3, hs'.out]
    clear hs3
    have hA3 := hA2.below hb3
    have hL3 : Labs w3 A1 ls := hL2.below hb3
    go_wp2_with fail
    refine (common_any A c ls i j w3 hA3 hx'.out).mono ?_
    rintro e w4 ⟨hb4, k, rfl, hk⟩
    have hk' := Lib.hid hk; clear hk
    have hL4 : Labs w4 A1 ls := hL3.below hb4
    go_wp2_with fail
    refine (rcommon_any A1 c1 ls i j w4 hL4 hx'.out).mono ?_
    rintro e w5 ⟨hb5, k', rfl, hk5⟩
    obtain rfl : k' = k := hk5.uniq hk'.out
    clear hk5
    go_wp2_with fail
    refine (awake_any _).mono ?_
    rintro e w6 ⟨rfl, hb6⟩
    go_wp2
    go_ret
    exact ⟨rfl, below4 (below4 (below4 (below4 (below4 hb1 hb2) hb3) hb4) hb5) hb6⟩
end Go.Proofs.Ytgimddboflhpaaa
