/- The program's power, times, Log. -/
import Derived.Test.YtopfcfbiaadfeaaDoorPw
import Derived.Test.YtopfcfbiaadfeaaDoorLg
import Derived.Test.YtopfcfbiaadfeaaDoorIf
import Derived.Tactics2
import Derived.Defers
import Derived.Recover
import Derived.Laws.Pointers
namespace Go.Proofs.YtopfcfbiaadfeaaDoor
set_option linter.unusedSimpArgs false
set_option linter.unusedVariables false
set_option linter.unusedSectionVars false
open Go.RowKit Dg

set_option maxRecDepth 100000 in
set_option maxHeartbeats 1000000 in
theorem power_any (m k : Nat) (w : World) (hm : OkN m) (hk : k ≤ 8) (hp : OkN (m ^ (2 ^ k))) :
    Calls Tryd.prog 81 #[.string (S m), .int .i64 (k : Int)] w fun e w' => ∃ v, e = .returned v ∧ NatV w' v (m ^ (2 ^ k)) ∧ Below w.heap.size w w' := by
  have hk2 : 2 ^ k ≤ 256 := Nat.le_trans (Nat.pow_le_pow_right (by decide) hk) (by decide)
  have HP := fun w => Lib.hid (natpow_any m (2 ^ k) w hm (by omega))
  have HS := fun w => Lib.hid (parse_S (m ^ (2 ^ k)) w hp)
  have HOK := Lib.hid hp
  generalize m ^ (2 ^ k) = P at *
  generalize S m = sm at *
  clear hm hp
  have hkI : (k : Int) ≤ 8 := by omega
  have hkI0 : (0 : Int) ≤ (k : Int) := by omega
  go_enter Tryd.func81, Tryd.ntmps81
  have zw : wrap64 ((2 : Int) ^ k) = ((2 ^ k : Nat) : Int) := by
    have e : (2 : Int) ^ k = ((2 ^ k : Nat) : Int) := by simp
    rw [e]
    have h9 : ∀ K : Nat, K ≤ 256 → wrap64 (K : Int) = K := fun K h => by unfold wrap64; omega
    exact h9 _ hk2
  have ZW := Lib.hid zw
  clear zw
  go_wp2_with fail
  rw [ZW.out]
  refine (HP _).out.mono ?_
  rintro e w1 ⟨htx, hb1⟩
  have he := htx.ok HOK.out
  subst he
  clear htx
  go_wp2_with fail
  refine (HS _).out.mono ?_
  rintro e w2 ⟨v, rfl, hv, hb2⟩
  go_wp2
  go_ret
  exact ⟨v, rfl, hv, below6 hb1 hb2⟩
theorem cmpR_of {x y : Rat} {a b : Nat} (h1 : x < y ↔ a < b) (h2 : x = y ↔ a = b) : cmpR x y = cmpI a b := by
  unfold cmpR cmpI
  simp only [h1, h2]
theorem cmpR_swap (x y : Rat) : cmpR x y = -cmpR y x := by
  unfold cmpR
  rcases Rat.le_iff_lt_or_eq.1 (show min x y ≤ max x y by grind) with h | h
  all_goals
    by_cases h1 : x < y
    · rw [if_pos h1, if_neg (by grind), if_neg (by grind)]
    · by_cases h2 : x = y
      · rw [if_neg h1, if_pos h2, if_neg (by grind), if_pos h2.symm]; rfl
      · rw [if_neg h1, if_neg h2, if_pos (by grind)]; rfl
set_option maxRecDepth 100000 in
theorem times_any {v1 v2 : Value} {P Q : Nat} (n : Int) (w : World) (h1 : NatV w v1 P) (h2 : NatV w v2 Q) (hQ : 0 < Q) (hn1 : -1000000 ≤ n) (hn2 : n ≤ 1000000) (l1 : (dw P).length ≤ 100000) (l2 : (dw Q).length ≤ 100000) :
    Calls Tryd.prog 82 #[v1, v2, .int .i64 n] w fun e w' => e = .returned (.int .i64 (cmpR (p2 n) (rat false P Q))) ∧ Below w.heap.size w w' := by
  by_cases hn : n < 0
  · obtain ⟨j, rfl⟩ : ∃ j : Nat, n = -(j : Int) := ⟨(-n).toNat, by omega⟩
    have HR := Lib.hid (cmpR_of (times_neg hQ j (P := P)).1 (times_neg hQ j (P := P)).2)
    have HS := Lib.hid (shift_any (n := j) w h1 (by omega) (by omega))
    have H2 := Lib.hid h2
    have z1 : IntKind.i64.wrap (-(-(j : Int))) = (j : Int) := by rw [Int.neg_neg]; exact IntWalk.i64_in _ (by omega)
    have z2 : -(-(j : Int)) = (j : Int) := Int.neg_neg _
    clear h1 h2 hQ
    go_enter Tryd.func82, Tryd.ntmps82
    go_wp2_with fail
    refine HS.out.mono ?_
    rintro e w1 ⟨v3, rfl, hv3, hb1⟩
    go_wp2_with fail
    refine (cmp_any _ (H2.out.below hb1) hv3).mono ?_
    rintro e w2 ⟨rfl, hb2⟩
    go_wp2
    go_ret
    exact ⟨ret_int HR.out.symm, below6 hb1 hb2⟩
  · obtain ⟨j, rfl⟩ : ∃ j : Nat, n = (j : Int) := ⟨n.toNat, by omega⟩
    have HR := Lib.hid (cmpR_of (times_pos hQ j (P := P)).1 (times_pos hQ j (P := P)).2)
    have HS := Lib.hid (shift_any (n := j) w h2 (by omega) (by omega))
    have H1 := Lib.hid h1
    clear h1 h2 hQ
    go_enter Tryd.func82, Tryd.ntmps82
    go_wp2_with fail
    refine HS.out.mono ?_
    rintro e w1 ⟨v3, rfl, hv3, hb1⟩
    go_wp2_with fail
    refine (cmp_any _ hv3 (H1.out.below hb1)).mono ?_
    rintro e w2 ⟨rfl, hb2⟩
    go_wp2
    go_ret
    exact ⟨ret_int HR.out.symm, below6 hb1 hb2⟩
/-- The deferred closure finds nothing to recover. -/
theorem log_catch (a b c : Option Addr) (w : World) :
    CallsD Tryd.prog 80 #[.pointer a, .pointer b, .pointer c] .returning w fun e u' w' => e = .returned (.tuple #[]) ∧ u' = .returning ∧ w' = w := by
  have hta : ∀ w : World, (Instr.typeAssert Value.nilIface 20 30 true).run Tryd.prog w = .ok (.tuple #[.int .i64 0, .bool false]) w := fun _ => by kernel_rfl
  refine callsD_of_wpS Tryd.func80 rfl fun c₀ cs hu => ?_
  apply wpS_seq
  apply wpS_region
  simp [wpOpsS, go_sem, recoverD, hu, hta, Tryd.ntmps80, Exit.thenS]
  apply wpS_seq
  apply wpS_region
  simp [wpOpsS, go_sem, Exit.thenS]
  refine wpS_cond (t := false) (by simp [Act.eval, Array.replicate]) ?_
  simp only [Bool.false_eq_true, if_false]
  refine wpS_of_wp (wp_skip ?_)
  cases c₀
  simp_all [bodyPostS, results, Tryd.results80]
end Go.Proofs.YtopfcfbiaadfeaaDoor
