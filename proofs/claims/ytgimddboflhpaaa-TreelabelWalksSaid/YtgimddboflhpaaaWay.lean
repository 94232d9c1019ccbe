/- The dependency package's walk up from a token: usable, way, Depth, at a good forest. -/
import Derived.Test.YtgimddboflhpaaaDepCheck
import Derived.Test.YtgimddboflhpaaaComm2
import Derived.Test.YtgimddboflhpaaaOwn
namespace Go.Proofs.Ytgimddboflhpaaa
set_option linter.unusedSimpArgs false
set_option linter.unusedVariables false
set_option linter.unusedSectionVars false
open Go.RowKit Tr

/-- The first n tokens of the way up from i. -/
def wayL (ps : List Int) (i : Nat) (n : Nat) : List Int := (List.range n).map fun k => it ps k i
theorem wayL_length (ps : List Int) (i n : Nat) : (wayL ps i n).length = n := by simp [wayL]
theorem wayL_succ (ps : List Int) (i n : Nat) : wayL ps i (n + 1) = wayL ps i n ++ [it ps n i] := by simp [wayL, List.range_succ]
theorem wayL_get {ps : List Int} {i n k : Nat} (h : k < n) : (wayL ps i n)[k]? = some (it ps k i) := by simp [wayL, h]
/-- How many tokens the way up holds. -/
def Tall (ps : List Int) (i n : Nat) : Prop := (∀ k, k < n → 0 ≤ it ps k i) ∧ it ps n i < 0
theorem it_neg_mono {ps : List Int} {i a b : Nat} (h : a ≤ b) (ha : it ps a (i : Int) < 0) : it ps b (i : Int) < 0 := by
  have e : b = (b - a) + a := by omega
  rw [e, it_add]
  exact it_neg _ _ ha
theorem way_short {ps : List Int} (hv : Valid ps) (ha : Acyc ps) {i n : Nat} (hi : i < ps.length) (h : 0 ≤ it ps n (i : Int)) : n < ps.length := by
  rcases Nat.lt_or_ge n ps.length with h1 | h1
  · exact h1
  · have := it_neg_mono h1 (it_out hv ha hi)
    omega
theorem Tall.uniq {ps : List Int} {i n m : Nat} (h : Tall ps i n) (h' : Tall ps i m) : n = m := by
  rcases Nat.lt_trichotomy n m with h1 | h1 | h1
  · have := h'.1 n h1; have := h.2; omega
  · exact h1
  · have := h.1 m h1; have := h'.2; omega
theorem tall_of {ps : List Int} (hv : Valid ps) (ha : Acyc ps) {i : Nat} (hi : i < ps.length) : ∃ n, Tall ps i n ∧ n ≤ ps.length := by
  have key : ∀ m : Nat, it ps m (i : Int) < 0 → ∃ n, Tall ps i n ∧ n ≤ m := by
    intro m
    induction m with
    | zero => intro h; exact ⟨0, ⟨fun k hk => absurd hk (Nat.not_lt_zero k), h⟩, Nat.le_refl _⟩
    | succ m ih =>
      intro h
      by_cases hm : it ps m (i : Int) < 0
      · obtain ⟨n, h1, h2⟩ := ih hm
        exact ⟨n, h1, by omega⟩
      · refine ⟨m + 1, ⟨fun k hk => ?_, h⟩, Nat.le_refl _⟩
        by_cases hk0 : it ps k (i : Int) < 0
        · exact absurd (it_neg_mono (by omega : k ≤ m) hk0) hm
        · omega
  exact key _ (it_out hv ha hi)

set_option maxHeartbeats 400000 in
theorem usable_ok (A : Option Addr) (c : Nat) (ps : List Int) (i : Nat) (w : World) (hA : Ints w A ps) (hx : ps.length ≤ maxLen) (hc : chk ps = (0, 0)) (hi : i < ps.length) :
    Calls Try.prog 37 #[.slice A ps.length c, .int .i64 i] w fun e w' => e = .returned (.bool true) ∧ Below w.heap.size w w' := by
  have hx' := Lib.hid hx
  have hc' := Lib.hid hc
  unfold maxLen at hx
  have h0 : (chk ps).2 = 0 := by rw [hc]
  have h1 : (chk ps).1 = 0 := by rw [hc]
  clear hc
  have t1 : decide ((0 : Int) ≤ i) = true := decide_eq_true (by omega)
  have t2 : decide ((i : Int) < ps.length) = true := decide_eq_true (by omega)
  go_enter Try.func37, Try.ntmps37
  go_wp2_with fail
  refine (dcheck_any A c ps w hA hx'.out).mono ?_
  rintro e w1 ⟨rfl, hb⟩
  rw [h0, h1]
  go_wp2
  go_ret
  exact ⟨rfl, hb⟩

set_option maxHeartbeats 1000000 in
theorem way_ok (A : Option Addr) (c : Nat) (ps : List Int) (i : Nat) (w : World) (hA : Ints w A ps) (hl : ps.length ≤ 4096) (hv : Valid ps) (ha : Acyc ps) (hi : i < ps.length) :
    Calls Try.prog 38 #[.slice A ps.length c, .int .i64 i] w fun e w' => ∃ n v, e = .returned v ∧ Tall ps i n ∧ w'.ownsRow w.heap.size 3 1 v n (ci (wayL ps i n)) ∧ Below w.heap.size w w' := by
  obtain ⟨i0, hi0, hz0, hz1, hz2⟩ := info_parts int_info3
  have HV := Lib.hid hv
  have HA := Lib.hid ha
  clear hv ha
  go_enter Try.func38, Try.ntmps38
  go_wp2
  go_loopg [1, 5] ps.length (fun q z v wr => ∃ n : Nat, q = ps.length - n ∧ n ≤ ps.length ∧ z = .int .i64 (it ps n i) ∧ Hid (∀ k, k < n → 0 ≤ it ps k i) ∧ wr.ownsRow w.heap.size 3 1 v n (ci (wayL ps i n)) ∧ Below w.heap.size w wr)
  case atStart => exact ⟨0, rfl, Nat.zero_le _, rfl, (fun k hk => absurd hk (Nat.not_lt_zero k) : ∀ k, k < 0 → 0 ≤ it ps k i), World.ownsRow_nil _ _ _ _, Below.refl _ _⟩
  case round =>
    obtain ⟨n, hq, hn, rfl, hpos, hown, hbw⟩ := hrel
    have HQ := Lib.hid hq; clear hq
    by_cases hneg : it ps n (i : Int) < 0
    · have t1 : decide ((0 : Int) ≤ it ps n (i : Int)) = false := decide_eq_false (by omega)
      go_wp2
      go_ret
      exact ⟨n, _, rfl, ⟨hpos.out, hneg⟩, hown, hbw⟩
    · obtain ⟨y, hy⟩ : ∃ y : Nat, it ps n (i : Int) = (y : Int) := ⟨(it ps n (i : Int)).toNat, by omega⟩
      have hnl : n < ps.length := way_short HV.out HA.out hi (by omega)
      have hyl : y < ps.length := by have := it_lt HV.out n (i : Int) (by omega); omega
      have hpos' : Hid (∀ k, k < n + 1 → 0 ≤ it ps k i) := by
        show ∀ k, k < n + 1 → 0 ≤ it ps k i
        intro k hk
        by_cases e : k = n
        · rw [e]; omega
        · exact hpos.out k (by omega)
      have hnx : Hid (it ps (n + 1) (i : Int) = ps[y]) := by show _ = _; rw [it_succ, hy, up_nat hyl]
      have hw1 : Hid (ci (wayL ps i (n + 1)) = ci (wayL ps i n) ++ [.int .i64 (y : Int)]) := by show _ = _; rw [wayL_succ, hy]; simp
      clear hneg hpos
      rw [hy]
      clear hy
      go_wp2_with (at_builtin; refine wpList_append_own _ rfl (.tmp 12) (.tmp 14) 22 rfl w.heap.size 3 i0 _ 1 8 Try.underlying22 hi0 hz0 hz1 hz2 rfl (by decide) _ n (ci (wayL ps i n)) rfl (hown.alloc _) ⟨wr.heap.size, 0, none⟩ 1 1 [.int .i64 (y : Int)] rfl rfl ?c1 (one_cells [(y : Int)]) ?c3 ?c4 ?c5 ?_)
      case c1 => exact new_cells _ _ _ _ rfl
      case c3 => unfold maxLen; omega
      case c4 => omega
      case c5 => rw [size1]; have := hbw.size; omega
      intro v' w' hown' hgrow _
      have hbw' : Below w.heap.size w w' := (hbw.alloc hbw.size _).grown hgrow (by rw [size1]; have := hbw.size; omega) (own_lt hown)
      clear hgrow
      have H : Hid (w'.ownsRow w.heap.size 3 1 v' (n + 1) (ci (wayL ps i (n + 1)))) := by
        show World.ownsRow _ _ _ _ _ _ _
        rw [hw1.out]; exact hown'
      clear hown'
      obtain ⟨b, off, rfl, h0⟩ := (hA.below hbw').get hyl
      go_wp2
      go_roundg (ps.length - (n + 1))
      case measure => have := HQ.out; omega
      case rel => exact ⟨n + 1, rfl, by omega, by rw [hnx.out], hpos', H.out, hbw'⟩
end Go.Proofs.Ytgimddboflhpaaa
