/- Parts of the proof: Az, Av. No condition of its own. -/
import Derived.Test.YtffldjghdcfpiaaGreatDoorAy
import Derived.Test.YtffldjghdcfpiaaGreatDoorNt
import Derived.Lib.OthersKept
import Derived.Laws.RangeString
set_option linter.unusedSimpArgs false
set_option linter.unusedVariables false
set_option linter.unusedSectionVars false
set_option maxRecDepth 100000
set_option maxHeartbeats 4000000
namespace Go.Proofs.YtffldjghdcfpiaaGreatDoor
open Go.RowKit Dg

theorem unescape_one (s : ByteArray) (hs : s.size = 1) (x : UInt8) (hx : s[0]'(by omega) = x) (hc : x.toNat ≠ 38) : RetV 105 #[.string s] (.tuple #[.string s, .int .i64 0, .int .i64 0]) := by
  intro w; obtain ⟨i0, hi0, hz0, hz1, hz2⟩ := info_parts byte_info; have t1 : (((s[0]'(by omega)).toNat : Int) == 38) = false := beq_eq_false_iff_ne.2 (by rw [hx]; omega); have t2 : ((s[0]'(by omega)).toNat == 38) = false := beq_eq_false_iff_ne.2 (by rw [hx]; omega); have t3 : (((s[0]'(by omega)).toNat : Int) != 38) = true := by rw [bne, t1]; rfl
  have h63 : 0 + 1 ≤ maxLen := by unfold maxLen; omega
  have hown := World.ownsRow_nil w w.heap.size 5 1; have HOW := Lib.hid hown; have HX := Lib.hid hx; clear hown hx hc; have d1 : decide ((0 : Int) < (s.size : Int)) = true := decide_eq_true (by omega); have d2 : decide (0 < s.size) = true := decide_eq_true (by omega); have d3 : decide ((1 : Int) < (s.size : Int)) = false := decide_eq_false (by omega); have d4 : decide (1 < s.size) = false := decide_eq_false (by omega); have d5 : 0 < s.size := by omega
  go_enter Tryz.func105, Tryz.ntmps105
  go_wp2_with fail
  refine wp_loop_rounds 2 ?_; rw [rounds_succ]
  go_wp2_with (at_builtin; refine wpList_append_own_at _ rfl (.tmp 17) (.tmp 21) 157 rfl w.heap.size 5 i0 _ 1 1 Tryz.underlying157 hi0 hz0 hz1 hz2 rfl (by decide) _ 0 [] rfl (HOW.out.alloc _) ⟨w.heap.size, 0, none⟩ 1 1 [.int .u8 ((s[0]'d5).toNat : Int)] rfl rfl (new_cells _ _ _ _ rfl) (by simp [Value.oneCell']) h63 (by omega) (by rw [size1]; omega) ?_)
  intro v' w' hown' hgrow _ hat; have hbw : Below w.heap.size w w' := ((Below.refl w.heap.size w).alloc (Nat.le_refl _) _).grown hgrow (by rw [size1]; omega) (own_lt HOW.out); obtain ⟨g, cap, rfl, -, -⟩ := hown'.form (by decide); have hl : s.data.toList.length = 1 := by rw [← hs]; simp
  have hback : (convert 157 9 (.slice (some ⟨g, 0, none⟩) 1 cap)).run Tryz.prog w' = .ok (.string s) w' := by
    have h := run_convert_bytes_back (P := Tryz.prog) w' 157 9 5 ⟨g, 0, none⟩ cap s.data.toList Tryz.underlying157 Tryz.underlying5 Tryz.underlying9 (by
      intro j hj; have hj0 : j = 0 := by omega
      subst hj0; rw [Addr.add_lit, Nat.zero_add, hown'.cellAt 0 (by decide)]
      rfl)
    rw [hl] at h; exact h
  clear hgrow hat hl
  go_wp2_with fail
  rw [rounds_succ]
  go_wp2
  go_ret3
  exact ⟨rfl, hbw⟩
open Go.RowKit Dg

theorem validValue_one (s : ByteArray) (hs : s.size = 1) (x : UInt8) (hx : s[0]'(by omega) = x) (h1 : 32 ≤ x.toNat) (h2 : x.toNat < 127) (hv : RetV 129 #[.string s] (.bool true)) : RetV 115 #[.string s] (.int .i64 0) := by
  intro w; have HV := Lib.hid hv; have HX := Lib.hid hx; have t1 : decide (((s[0]'(by omega)).toNat : Int) ≤ 31) = false := decide_eq_false (by rw [hx]; omega); have t2 : decide ((s[0]'(by omega)).toNat ≤ 31) = false := decide_eq_false (by rw [hx]; omega); have t3 : (((s[0]'(by omega)).toNat : Int) == 127) = false := beq_eq_false_iff_ne.2 (by rw [hx]; omega); have t4 : ((s[0]'(by omega)).toNat == 127) = false := beq_eq_false_iff_ne.2 (by rw [hx]; omega); have HA : Hid ((s[0]'(by omega)).toNat < 128) := by show _ < 128; rw [hx]; omega
  clear hv hx h1 h2; have d1 : decide ((s.size : Int) > 120) = false := decide_eq_false (by omega); have d2 : decide ((120 : Int) < (s.size : Int)) = false := decide_eq_false (by omega); have d3 : decide (120 < s.size) = false := decide_eq_false (by omega)
  go_enter Tryz.func115, Tryz.ntmps115
  go_wp2_with fail
  refine (HV.out _).mono ?_; rintro e w1 ⟨rfl, hb1⟩
  go_wp2_with fail
  have d5 : 0 < s.size := by omega
  have hit : (w1.iter s 0).heap[w1.heap.size]? = some (.stringIter s 0) := World.iter_heap w1 s 0; have hb2 : Below w1.heap.size w1 (w1.iter s 0) := (Below.refl _ w1).alloc (Nat.le_refl _) _; generalize w1.iter s 0 = w2 at hit hb2 ⊢; have hbw := below6 hb1 hb2; clear hb2; have hnx : ∀ ty, (Instr.next (.pointer (some ⟨w1.heap.size, 0, none⟩)) true ty).run Tryz.prog w2 = _ := fun ty => Lib.run_next_ascii_at w2 w1.heap.size s 0 ty hit d5 HA.out; have hit2 := Lib.iterAt_heap w2 w1.heap.size s 0 (0 + 1) hit; have hb3 := Lib.below_iterAt hbw (k := w1.heap.size) hb1.size s (0 + 1); refine wp_loop_rounds 2 ?_; rw [rounds_succ]
  go_wp2
  generalize hw3 : w2.iterAt w1.heap.size s (0 + 1) = w3 at hit2 hb3 ⊢; have hnx2 : ∀ ty, (Instr.next (.pointer (some ⟨w1.heap.size, 0, none⟩)) true ty).run Tryz.prog w3 = _ := fun ty => Lib.run_next_end_at w3 w1.heap.size s (0 + 1) ty hit2 (by omega); clear hnx; rw [rounds_succ]
  go_wp2
  go_ret
  exact ⟨rfl, hb3⟩
end Go.Proofs.YtffldjghdcfpiaaGreatDoor
