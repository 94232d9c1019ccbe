/- The law's conversion of labels: what it returns. -/
import Derived.Test.YtgimddboflhpaaaRows
import Derived.Test.YtgimddboflhpaaaLabs
import Derived.Deep.QuietTactic
import Derived.BigQuiet
namespace Go.Proofs.Ytgimddboflhpaaa
set_option linter.unusedSimpArgs false
set_option linter.unusedVariables false
set_option linter.unusedSectionVars false
open Go.RowKit Tr
theorem lab_info43 : (Try.prog.info? 43).map (fun i => (i.zero, i.size, i.bytes)) = some (some (.agg #[.int .i64 0, .int .i64 0, .int .i64 0]), 3, 24) := by kernel_rfl

theorem one_cells (l : List Int) : ∀ u ∈ ci l, u.oneCell' = true := ints_oneCell _ _
theorem c3_one (x : Lab) : ∀ u ∈ c3 x, u.oneCell' = true := by
  intro u hu
  simp at hu
  rcases hu with rfl | rfl | rfl <;> rfl

set_option maxHeartbeats 400000 in
theorem own_any (A : Option Addr) (c : Nat) (xs : List Lab) (w : World) (hA : Labs w A xs) (hx : xs.length ≤ 65536) :
    Calls Try.prog 17 #[.slice A xs.length c] w fun e w' => ∃ v, e = .returned v ∧ Sl w' v xs.length (cl xs) ∧ Below w.heap.size w w' := by
  obtain ⟨i0, hi0, hz0, hz1, hz2⟩ := info_parts lab_info43
  go_enter Try.func17, Try.ntmps17
  go_wp2
  go_loopw [3, 8] (fun v k wr => ∃ n : Nat, n ≤ xs.length ∧ k = .int .i64 n ∧ wr.ownsRow w.heap.size 43 3 v n (cl (xs.take n)) ∧ Below w.heap.size w wr) (fun _ k _ => xs.length - (intOf k).toNat)
  case atStart => exact ⟨0, Nat.zero_le _, rfl, World.ownsRow_nil _ _ _ _, Below.refl _ _⟩
  case round =>
    obtain ⟨n, hn, rfl, hown, hbw⟩ := hrel
    by_cases hlt : n < xs.length
    · obtain ⟨b, off, rfl, h0, h1, h2⟩ := (hA.below hbw).get hlt
      go_wp2_with (at_builtin; refine wpList_append_own _ rfl (.tmp 12) (.tmp 14) 27 rfl w.heap.size 43 i0 _ 3 24 Try.underlying27 hi0 hz0 hz1 hz2 rfl (by decide) _ n (cl (xs.take n)) rfl ((hown.alloc _).alloc _) ⟨wr.heap.size + 1, 0, none⟩ 1 1 (c3 xs[n]) rfl rfl ?c1 (c3_one _) ?c3 ?c4 ?c5 ?_)
      case c1 => exact new_cells _ _ _ _ (size1 _ _)
      case c3 => unfold maxLen; omega
      case c4 => omega
      case c5 => rw [size2]; have := hbw.size; omega
      intro v' w' hown' hgrow _
      have hbw' : Below w.heap.size w w' := ((hbw.alloc hbw.size _).alloc (by rw [size1]; have := hbw.size; omega) _).grown hgrow (by rw [size2]; have := hbw.size; omega) (own_lt hown)
      clear hgrow
      have H : Hid (w'.ownsRow w.heap.size 43 3 v' (n + 1) (cl (xs.take (n + 1)))) := by
        rw [List.take_succ_eq_append_getElem hlt, cl_append]; exact hown'
      clear hown'
      go_wp2
      go_roundw
      case rel => exact ⟨n + 1, by omega, by go_num, H.out, hbw'⟩
      case measure => simp [intOf]; omega
    · go_wp2
      go_ret
      obtain rfl : n = xs.length := by omega
      rw [List.take_length] at hown
      exact ⟨_, rfl, Sl.of_own hown, hbw⟩
end Go.Proofs.Ytgimddboflhpaaa
