/- The law on the lowest common ancestor of two nodes: it returns true and leaves all memory as it was. -/
import Derived.Test.YtgimddboflhpaaaLawsA
import Derived.Test.YtgimddboflhpaaaComm2
namespace Go.Proofs.Ytgimddboflhpaaa
set_option linter.unusedSimpArgs false
set_option linter.unusedVariables false
set_option linter.unusedSectionVars false
open Go.RowKit Tr

theorem below5 {w w1 w2 : World} (h1 : Below w.heap.size w w1) (h2 : Below w1.heap.size w1 w2) : Below w.heap.size w w2 := h1.trans (h2.mono h1.size)

theorem subD_iff {ps : List Int} {x j : Nat} : Sub ps x j ↔ ∃ l, it ps l j = (x : Int) := by
  constructor
  · rintro (h | ⟨k, hk⟩)
    · exact ⟨0, by rw [h]; rfl⟩
    · exact ⟨k + 1, hk⟩
  · rintro ⟨l, hl⟩
    cases l with
    | zero => left; have : (j : Int) = x := hl; omega
    | succ l => right; exact ⟨l, hl⟩
/-- The lowest common ancestor, said alike of both. -/
def IsLow (ps : List Int) (i j : Nat) (c : Int) : Prop :=
  (∃ x : Nat, c = x ∧ Sub ps x i ∧ Sub ps x j ∧ ∀ y : Nat, Sub ps y i → Sub ps y j → Sub ps y x) ∨ (c = -1 ∧ ∀ y : Nat, Sub ps y i → ¬ Sub ps y j)
theorem IsCom.low {ps : List Int} {i j : Nat} {c : Int} (h : IsCom ps i j c) : IsLow ps i j c := by
  rcases h with ⟨k, x, hk, rfl, hs, hn⟩ | ⟨rfl, hn⟩
  · refine .inl ⟨x, rfl, subD_iff.2 ⟨k, hk⟩, hs, fun y hy hy2 => ?_⟩
    obtain ⟨l, hl⟩ := subD_iff.1 hy
    by_cases hlk : l < k
    · exact absurd hy2 (hn l hlk y hl)
    · refine subD_iff.2 ⟨l - k, ?_⟩
      rw [← hk, ← it_add]
      have e : l - k + k = l := by omega
      rw [e, hl]
  · refine .inr ⟨rfl, fun y hy => ?_⟩
    obtain ⟨l, hl⟩ := subD_iff.1 hy
    exact hn l y hl
theorem IsLow.swap {ps : List Int} {i j : Nat} {c : Int} (h : IsLow ps i j c) : IsLow ps j i c := by
  rcases h with ⟨x, rfl, h1, h2, h3⟩ | ⟨rfl, h1⟩
  · exact .inl ⟨x, rfl, h2, h1, fun y a b => h3 y b a⟩
  · exact .inr ⟨rfl, fun y a b => h1 y b a⟩
theorem IsLow.uniq {ps : List Int} {ls : List Lab} (F : Facts ps ls) {i j : Nat} (hi : i < ps.length) {c d : Int} (h : IsLow ps i j c) (h' : IsLow ps i j d) : c = d := by
  rcases h with ⟨x, rfl, h1, h2, h3⟩ | ⟨rfl, h1⟩ <;> rcases h' with ⟨y, rfl, g1, g2, g3⟩ | ⟨rfl, g1⟩
  · have a := h3 y g1 g2
    have b := g3 x h1 h2
    rcases a with e | a
    · omega
    · rcases b with e | b
      · omega
      · exfalso
        have hx : x < ps.length := by
          rcases h1 with e | e
          · omega
          · exact e.lt F.v hi
        exact F.a x hx (b.trans a)
  · exact absurd h2 (g1 x h1)
  · exact absurd g2 (h1 y g1)
  · rfl
theorem IsLow.lt {ps : List Int} {ls : List Lab} (F : Facts ps ls) {i j : Nat} (hi : i < ps.length) {c : Int} (h : IsLow ps i j c) : -1 ≤ c ∧ c < ps.length := by
  rcases h with ⟨x, rfl, h1, _⟩ | ⟨rfl, _⟩
  · have hx : x < ps.length := by
      rcases h1 with e | e
      · omega
      · exact e.lt F.v hi
    omega
  · omega
theorem comP.low {ls : List Lab} {ps : List Int} (hF : IsF ls ps) {i j : Nat} {c : Int} (hr : InR ls.length i j) (h : comP ls i j c) : IsLow ps i j c := by
  rcases h with ⟨qs, h1, _, h3⟩ | ⟨h1, _⟩
  · obtain rfl := isF_uniq hF h1
    simpa using h3.low
  · exact absurd ⟨ps, hF, hr⟩ h1

/-- The call of Dominates at two labels of the forest, the answer known. -/
theorem dom_call (x y : Lab) (b : Bool) (h : Dom x y = b) : ∀ w, Calls Try.prog 20 #[.agg #[.int .i64 x.1, .int .i64 x.2.1, .int .i64 x.2.2], .agg #[.int .i64 y.1, .int .i64 y.2.1, .int .i64 y.2.2]] w fun e w' => e = .returned (.bool b) ∧ Below w.heap.size w w' := by
  intro w
  have := dominates_any x y w
  rw [h] at this
  exact this

set_option maxRecDepth 100000 in
set_option maxHeartbeats 1000000 in
theorem common_out (A : Option Addr) (c : Nat) (ps : List Int) (i j : Int) (w : World) (hx : ps.length ≤ maxLen)
    (HA : Hid (Calls Try.prog 11 #[.slice A ps.length c] w (fun e w' => ∃ Ag cg, e = .returned (.tuple #[.slice Ag ps.length cg, .int .i64 0, .int .i64 0]) ∧ Labs w' Ag (labels ps) ∧ Below w.heap.size w w')))
    (hrange : ¬ (ps.length ≤ 40 ∧ 0 ≤ i ∧ i < ps.length ∧ 0 ≤ j ∧ j < ps.length)) :
    Calls Try.prog 9 #[.slice A ps.length c, .int .i64 i, .int .i64 j] w (Holds w) := by
  have hcase : (40 < ps.length) ∨ (¬ 40 < ps.length ∧ i < 0) ∨ (¬ 40 < ps.length ∧ ¬ i < 0 ∧ (ps.length : Int) ≤ i) ∨ (¬ 40 < ps.length ∧ ¬ i < 0 ∧ ¬ (ps.length : Int) ≤ i ∧ j < 0) ∨ (¬ 40 < ps.length ∧ ¬ i < 0 ∧ ¬ (ps.length : Int) ≤ i ∧ ¬ j < 0 ∧ (ps.length : Int) ≤ j) := by omega
  clear hrange
  unfold maxLen at hx
  rcases hcase with h0 | ⟨h0, h1⟩ | ⟨h0, h1, h2⟩ | ⟨h0, h1, h2, h3⟩ | ⟨h0, h1, h2, h3, h4⟩
  all_goals
    go_enter Try.func9, Try.ntmps9
    go_wp2_with fail
    refine HA.out.mono ?_
    rintro e w1 ⟨Ag, cg, rfl, hL, hb1'⟩
    go_wp2
    go_ret
    exact ⟨rfl, hb1'⟩
set_option maxRecDepth 100000 in
set_option maxHeartbeats 1000000 in
theorem common_bad (A : Option Addr) (c : Nat) (ps : List Int) (i j : Int) (w : World) (hA : Ints w A ps) (hx : ps.length ≤ maxLen) (hc : (chk ps).2 ≠ 0) :
    Calls Try.prog 9 #[.slice A ps.length c, .int .i64 i, .int .i64 j] w (Holds w) := by
  have hx' := Lib.hid hx
  unfold maxLen at hx
  have hcb : ((chk ps).2 != 0) = true := by simpa using hc
  have HA : Hid (Calls Try.prog 11 #[.slice A ps.length c] w (fun e w' => e = .returned (.tuple #[.slice none 0 0, .int .i64 (chk ps).1, .int .i64 (chk ps).2]) ∧ Below w.heap.size w w')) := assign_bad A c ps w hA hx'.out hc
  clear hc
  by_cases h0 : 40 < ps.length
  all_goals
    go_enter Try.func9, Try.ntmps9
    go_wp2_with fail
    refine HA.out.mono ?_
    rintro e w1 ⟨rfl, hb1'⟩
    go_wp2
    go_ret
    exact ⟨rfl, hb1'⟩
end Go.Proofs.Ytgimddboflhpaaa
