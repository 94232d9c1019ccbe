/- Both Assigns: what they return. -/
import Derived.Test.YtgimddboflhpaaaRefWalk
namespace Go.Proofs.Ytgimddboflhpaaa
set_option linter.unusedSimpArgs false
set_option linter.unusedVariables false
set_option linter.unusedSectionVars false
open Go.RowKit Tr

/-- The labels that are returned. -/
def outL (ps : List Int) : List Lab := if (chk ps).2 = 0 then labels ps else []
def AssignRes (ps : List Int) (w : World) (e : Ending) (w' : World) : Prop :=
  ∃ v, e = .returned (.tuple #[v, .int .i64 (chk ps).1, .int .i64 (chk ps).2]) ∧ Sl w' v (outL ps).length (cl (outL ps)) ∧ Below w.heap.size w w'
theorem labels_length {ps : List Int} (hv : Valid ps) (ha : Acyc ps) : (labels ps).length = ps.length := by
  have := (good_final hv ha).len
  unfold labels
  rw [this]; simp [Tr.start]
theorem AssignRes.bad {ps : List Int} {w w' : World} (h : (chk ps).2 ≠ 0) (hb : Below w.heap.size w w') {a b : Int} (he : chk ps = (a, b)) : AssignRes ps w (.returned (.tuple #[.slice none 0 0, .int .i64 a, .int .i64 b])) w' := by
  refine ⟨_, by rw [he], ?_, hb⟩
  unfold outL
  rw [if_neg h]
  exact Sl.nil _
theorem AssignRes.ok {ps : List Int} {w w' : World} (h : chk ps = (0, 0)) (hb : Below w.heap.size w w') {v : Value} (hs : Sl w' v ps.length (cl (labels ps))) : AssignRes ps w (.returned (.tuple #[v, .int .i64 0, .int .i64 0])) w' := by
  obtain ⟨_, hv, ha, _⟩ := chk_zero (by rw [h])
  refine ⟨v, by rw [h], ?_, hb⟩
  unfold outL
  rw [if_pos (by rw [h]), labels_length hv ha]
  exact hs

theorem assign_any (A : Option Addr) (c : Nat) (ps : List Int) (w : World) (hA : Ints w A ps) (hx : ps.length ≤ maxLen) :
    Calls Try.prog 11 #[.slice A ps.length c] w (AssignRes ps w) := by
  by_cases hb : (chk ps).2 = 0
  · have hc0 : chk ps = (0, 0) := by
      obtain ⟨_, _, _, h1⟩ := chk_zero hb
      exact Prod.ext h1 hb
    refine (assign_ok A c ps w hA hc0).mono ?_
    rintro e w' ⟨v, rfl, hs, hbw⟩
    exact AssignRes.ok hc0 hbw hs
  · refine (assign_bad A c ps w hA hx hb).mono ?_
    rintro e w' ⟨rfl, hbw⟩
    exact AssignRes.bad hb hbw rfl

theorem lab_info43' : (Try.prog.info? 43).map (fun i => (i.zero, i.size, i.bytes)) = some (some (.agg #[.int .i64 0, .int .i64 0, .int .i64 0]), 3, 24) := by kernel_rfl

set_option maxHeartbeats 2000000 in
theorem rassign_any (A : Option Addr) (c : Nat) (ps : List Int) (w : World) (hA : Ints w A ps) (hx : ps.length ≤ maxLen) :
    Calls Try.prog 12 #[.slice A ps.length c] w (AssignRes ps w) := by
  unfold maxLen at hx
  by_cases hl : 4096 < ps.length
  · go_enter Try.func12, Try.ntmps12
    go_wp2
    go_ret3
    exact AssignRes.bad (by rw [chk_limit hl]; decide) (Below.refl _ _) (chk_limit hl)
  · have hl' : ps.length ≤ 4096 := by omega
    have mk2 := fun w => run_make_labs Try.underlying27 lab_info43' ps.length (by omega) w
    go_enter Try.func12, Try.ntmps12
    go_wp2
    go_loop [14] (fun k => ∃ n : Nat, n ≤ ps.length ∧ k = .int .i64 n ∧ Hid (∀ j, j < n → badB ps j = false)) (fun k => ps.length - (intOf k).toNat)
    case atStart => exact ⟨0, Nat.zero_le _, rfl, fun j hj => by omega⟩
    case round =>
      obtain ⟨n, hn, rfl, HB⟩ := hrel
      by_cases hlt : n < ps.length
      · obtain ⟨b, off, rfl, hc⟩ := hA.get hlt
        by_cases h1 : ps[n] < -1
        · go_wp2
          go_ret3
          have he := chk_range hl hlt HB.out (by rw [badB_get hlt]; simp [h1])
          exact AssignRes.bad (by rw [he]; simp) (Below.refl _ _) he
        · by_cases h2 : (ps.length : Int) ≤ ps[n]
          · go_wp2
            go_ret3
            have he := chk_range hl hlt HB.out (by rw [badB_get hlt]; simp [h2])
            exact AssignRes.bad (by rw [he]; simp) (Below.refl _ _) he
          · go_wp2
            go_round
            case rel =>
              refine ⟨n + 1, by omega, by go_num, fun j hj => ?_⟩
              by_cases e : j = n
              · subst e; rw [badB_get hlt]; simp only [Bool.or_eq_false_iff, decide_eq_false_iff_not]; omega
              · exact HB.out j (by omega)
            case measure => simp [intOf]; omega
      · have HV : Hid (∀ j, j < ps.length → badB ps j = false) := fun j hj => HB.out j (by omega)
        clear HB
        have hv2 : Hid (Valid ps) := valid_of_bad HV.out
        go_wp2
        go_loop [31] (fun k => ∃ n : Nat, n ≤ ps.length ∧ k = .int .i64 n ∧ Hid (∀ j, j < n → ¬ Anc ps j j)) (fun k => ps.length - (intOf k).toNat)
        case atStart => exact ⟨0, Nat.zero_le _, rfl, fun j hj => by omega⟩
        case round =>
          obtain ⟨i, hi, rfl, HC⟩ := hrel
          by_cases hlt : i < ps.length
          · by_cases hcy : cyc ps i = true
            · have hcall : ∀ w, Ints w A ps → Calls Try.prog 33 #[.slice A ps.length c, .int .i64 i] w fun e w' => e = .returned (.bool true) ∧ w = w' := by
                intro w h; have := rcyclic_any A c ps w h hl' hv2.out i hlt; rwa [hcy] at this
              have HCA := Lib.hid hcall
              have HCY := Lib.hid hcy
              clear hcall hcy
              go_wp2_with (go_at_call 33; refine (HCA.out _ hA).mono ?_; rintro e w1 ⟨rfl, rfl⟩)
              go_ret3
              have he := chk_cycle hl HV.out hlt HC.out (Anc_of_cyc HCY.out)
              exact AssignRes.bad (by rw [he]; simp) (Below.refl _ _) he
            · have hcyf : cyc ps i = false := by simpa using hcy
              have hcall : ∀ w, Ints w A ps → Calls Try.prog 33 #[.slice A ps.length c, .int .i64 i] w fun e w' => e = .returned (.bool false) ∧ w = w' := by
                intro w h; have := rcyclic_any A c ps w h hl' hv2.out i hlt; rwa [hcyf] at this
              have HCA := Lib.hid hcall
              have HCY := Lib.hid hcyf
              clear hcall hcy hcyf
              go_wp2_with (go_at_call 33; refine (HCA.out _ hA).mono ?_; rintro e w1 ⟨rfl, rfl⟩)
              go_round
              case rel =>
                refine ⟨i + 1, by omega, by go_num, fun j hj => ?_⟩
                by_cases e : j = i
                · subst e; rw [← cyc_iff hv2.out hlt, HCY.out]; simp
                · exact HC.out j (by omega)
              case measure => simp [intOf]; omega
          · have hac : Hid (Acyc ps) := fun j hj => HC.out j (by omega)
            have hc0 : Hid (chk ps = (0, 0)) := chk_ok hl HV.out hac.out
            have hlen := all_len_le hv2.out hac.out
            have hA2 : RdOut (two (w.heap.size + 1) w.heap.size) ((w.alloc (.cells (labs0 ps.length).toArray 43)).alloc (.cells #[.slice A ps.length c, .slice (some ⟨w.heap.size, 0, none⟩) ps.length ps.length, .int .i64 0, .int .i64 0] 61)) A (ci ps) := by
              intro j u hu
              obtain ⟨b, off, rfl, hcell⟩ := hA j u hu
              have hb := World.block_lt_of_cell? w _ hcell
              have hb' : b < w.heap.size := hb
              refine ⟨b, off, rfl, ?_, ?_⟩
              · rintro (e | e) <;> omega
              · exact (((Below.refl w.heap.size w).alloc (Nat.le_refl _) _).alloc (by rw [size1]; omega) _).cell (p := ⟨b, off + j, none⟩) hb' |>.trans hcell
            have hrk : Rk ((w.alloc (.cells (labs0 ps.length).toArray 43)).alloc (.cells #[.slice A ps.length c, .slice (some ⟨w.heap.size, 0, none⟩) ps.length ps.length, .int .i64 0, .int .i64 0] 61)) (w.heap.size + 1) w.heap.size ps.length c A ps (Tr.start ps.length) := by
              refine ⟨?_, ?_, hA2, by simp [Tr.start], by omega⟩
              · have := Own.new (w.alloc (.cells (labs0 ps.length).toArray 43)) 61 [.slice A ps.length c, .slice (some ⟨w.heap.size, 0, none⟩) ps.length ps.length, .int .i64 0, .int .i64 0]
                rw [size1] at this
                exact this
              · exact (Own.new w 43 (labs0 ps.length)).alloc _
            have hbw : Below w.heap.size w ((w.alloc (.cells (labs0 ps.length).toArray 43)).alloc (.cells #[.slice A ps.length c, .slice (some ⟨w.heap.size, 0, none⟩) ps.length ps.length, .int .i64 0, .int .i64 0] 61)) :=
              ((Below.refl w.heap.size w).alloc (Nat.le_refl _) _).alloc (by rw [size1]; omega) _
            clear hA2
            go_upto_region 16 with (fail)
            generalize ((w.alloc (.cells (labs0 ps.length).toArray 43)).alloc (.cells #[.slice A ps.length c, .slice (some ⟨w.heap.size, 0, none⟩) ps.length ps.length, .int .i64 0, .int .i64 0] 61)) = w2 at hrk hbw ⊢
            go_wp2_with fail
            refine ((rwalk_any ps _ _ c A hl' ps.length) (-1) 0 _ _ (roots_ok hv2.out hac.out |>.1 · · |>.1) hrk (Int.le_refl 0) (by show (0 : Int) + _ ≤ _; omega) (Int.le_refl 0) (by show (0 : Int) + _ ≤ _; omega) (by decide) (by omega)).mono ?_
            rintro e w3 ⟨rfl, hw3, hc3⟩
            have q1 : w3.cell? ⟨w.heap.size + 1, 1, none⟩ = some (.slice (some ⟨w.heap.size, 0, none⟩) ps.length ps.length) := by rw [hw3.me.cell]; rfl
            go_wp2
            go_ret3
            refine AssignRes.ok hc0.out ?_ ⟨_, _, rfl, Nat.le_refl _, by unfold maxLen; omega, hw3.la.rd0⟩
            refine hbw.trans (hc3.below ?_ hbw.size)
            intro k hk
            rintro (rfl | rfl) <;> omega
end Go.Proofs.Ytgimddboflhpaaa
