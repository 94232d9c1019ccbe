/- Parts of the proof: As. No condition of its own. -/
import Derived.Test.YtffldjghdcfpiaaGreatDoorAw
set_option linter.unusedSimpArgs false
set_option linter.unusedVariables false
set_option linter.unusedSectionVars false
set_option maxRecDepth 100000
set_option maxHeartbeats 4000000
namespace Go.Proofs.YtffldjghdcfpiaaGreatDoor
open Go.RowKit Dg

open Go in
theorem run_copy_zero {P : Program} (w : World) (dT sT ty elem : TypeId) (d a : Option Addr) (dLen dCap sLen sCap : Nat) (hu : P.underlying dT = some (.slice elem)) (hs : ((P.info? elem).map (·.size)).isSome = true) (hn : Nat.min sLen dLen = 0) :
    (Builtin.copy_ #[dT, sT] ty #[.slice d dLen dCap, .slice a sLen sCap]).run P w = .ok (.int .i64 0) w := by
  cases hq : P.info? elem with
  | none => simp [hq] at hs
  | some i =>
    have hl : ∀ (x : Addr), (loadCells x 0).run P w = .ok #[] w := fun x => by simpa using run_loadCells_list (P := P) w x [] (by simp)
    cases d <;> cases a <;> simp [Builtin.copy_, run_underlying hu, Builtin.lenOf, Builtin.firstCells, sizeOf, typeInfo, hq, hn, storeCells, hl, goInt]
theorem sorted_nil : RetV 128 #[.slice none 0 0] (.slice none 0 0) := by
  intro w
  go_enter Tryz.func128, Tryz.ntmps128
  go_wp2_with fail
  refine wp_loop_rounds 1 ?_; rw [rounds_succ]
  go_wp2
  go_ret
  exact ⟨rfl, Below.refl _ _⟩
theorem pair_info : (Tryz.prog.info? 170).map (fun i => (i.zero, i.size, i.bytes)) = some (some (.agg #[.string ⟨#[]⟩, .string ⟨#[]⟩]), 2, 32) := by kernel_rfl
theorem sorted_one (g cap : Nat) (a b : ByteArray) (w : World) (hr : Rd w (some ⟨g, 0, none⟩) [.string a, .string b]) :
    Calls Tryz.prog 128 #[.slice (some ⟨g, 0, none⟩) 1 cap] w fun e w' => ∃ v, e = .returned v ∧ w'.ownsRow w.heap.size 170 2 v 1 [.string a, .string b] ∧ Below w.heap.size w w' := by
  obtain ⟨i0, hi0, hz0, hz1, hz2⟩ := info_parts pair_info; have h63 : 0 + 1 ≤ maxLen := by unfold maxLen; omega
  have p0 : w.cell? ⟨g, 0, none⟩ = some (.string a) := by
    obtain ⟨b9, off9, e9, h9⟩ := hr 0 _ rfl
    injection e9 with e9; injection e9 with e1 e2; subst e1 e2; exact h9
  have p1 : w.cell? ⟨g, 1, none⟩ = some (.string b) := by
    obtain ⟨b9, off9, e9, h9⟩ := hr 1 _ rfl
    injection e9 with e9; injection e9 with e1 e2; subst e1 e2; exact h9
  clear hr
  go_enter Tryz.func128, Tryz.ntmps128
  go_wp2_with fail
  refine wp_loop_rounds 2 ?_; rw [rounds_succ]
  go_wp2_with fail
  obtain ⟨o_p, hbw⟩ := new1 w [.string a, .string b] 170; generalize (w.alloc (.cells #[.string a, .string b] 170)) = wb at o_p hbw ⊢; clear p0 p1; refine wp_loop_rounds 1 ?_; rw [rounds_succ]
  go_upto_region 6 with (fail)
  refine wp_reg_abs [some 15, some 16, some 17, some 18, some 19, some 20, some 21, some 22, some 23, some 24, some 25, some 26, some 27] [?v1_0, ?v1_1, ?v1_2, ?v1_3, ?v1_4, ?v1_5, ?v1_6, ?v1_7, ?v1_8, ?v1_9, ?v1_10, ?v1_11, ?v1_12] rfl (by kernel_rfl) rfl rfl ⟨?s1_0, ?s1_1, ?s1_2, ?s1_3, ?s1_4, ?s1_5, ?s1_6, ?s1_7, ?s1_8, ?s1_9, ?s1_10, ?s1_11, ?s1_12, trivial⟩ ?p1
  case s1_0 =>
    intro t9 w9 hT9 hV9 hO9 K9 hK9; have o9_6 := hO9 6 _ (by kernel_rfl) rfl; clear hV9 hO9; go_simp; exact hK9 _ (Grow.refl _)
  case s1_1 =>
    intro t9 w9 hT9 hV9 hO9 K9 hK9; have p9_0 : t9[15]? = some ?v1_0 := hV9 0 15 rfl rfl (of_decide_eq_true (by kernel_rfl)); clear hV9 hO9; go_simp; exact hK9 _ (Grow.refl _)
  case s1_2 =>
    intro t9 w9 hT9 hV9 hO9 K9 hK9; have p9_1 : t9[16]? = some ?v1_1 := hV9 1 16 rfl rfl (of_decide_eq_true (by kernel_rfl)); clear hV9 hO9; go_simp; exact hK9 _ (Grow.refl _)
  case s1_3 =>
    intro t9 w9 hT9 hV9 hO9 K9 hK9; have p9_2 : t9[17]? = some ?v1_2 := hV9 2 17 rfl rfl (of_decide_eq_true (by kernel_rfl)); have o9_5 := hO9 5 _ (by kernel_rfl) rfl; clear hV9 hO9; go_simp; exact hK9 _ (Grow.refl _)
  case s1_4 =>
    intro t9 w9 hT9 hV9 hO9 K9 hK9; have p9_2 : t9[17]? = some ?v1_2 := hV9 2 17 rfl rfl (of_decide_eq_true (by kernel_rfl)); have p9_3 : t9[18]? = some ?v1_3 := hV9 3 18 rfl rfl (of_decide_eq_true (by kernel_rfl)); clear hV9 hO9; go_simp; exact hK9 _ (Grow.refl _)
  case s1_5 =>
    intro t9 w9 hT9 hV9 hO9 K9 hK9; have p9_2 : t9[17]? = some ?v1_2 := hV9 2 17 rfl rfl (of_decide_eq_true (by kernel_rfl)); have o9_3 := hO9 3 _ (by kernel_rfl) rfl; clear hV9 hO9; go_simp; exact hK9 _ (Grow.refl _)
  case s1_6 =>
    intro t9 w9 hT9 hV9 hO9 K9 hK9; have p9_2 : t9[17]? = some ?v1_2 := hV9 2 17 rfl rfl (of_decide_eq_true (by kernel_rfl)); have o9_6 := hO9 6 _ (by kernel_rfl) rfl; clear hV9 hO9; go_simp; exact hK9 _ (Grow.refl _)
  case s1_7 =>
    intro t9 w9 hT9 hV9 hO9 K9 hK9; have p9_2 : t9[17]? = some ?v1_2 := hV9 2 17 rfl rfl (of_decide_eq_true (by kernel_rfl)); have p9_6 : t9[21]? = some ?v1_6 := hV9 6 21 rfl rfl (of_decide_eq_true (by kernel_rfl)); clear hV9 hO9; go_simp; exact hK9 _ (Grow.refl _)
  case s1_8 =>
    intro t9 w9 hT9 hV9 hO9 K9 hK9; have p9_2 : t9[17]? = some ?v1_2 := hV9 2 17 rfl rfl (of_decide_eq_true (by kernel_rfl)); have p9_5 : t9[20]? = some ?v1_5 := hV9 5 20 rfl rfl (of_decide_eq_true (by kernel_rfl)); have p9_7 : t9[22]? = some ?v1_7 := hV9 7 22 rfl rfl (of_decide_eq_true (by kernel_rfl)); clear hV9 hO9; go_simp; exact hK9 _ (Grow.refl _)
  case s1_9 =>
    intro t9 w9 hT9 hV9 hO9 K9 hK9; have p9_2 : t9[17]? = some ?v1_2 := hV9 2 17 rfl rfl (of_decide_eq_true (by kernel_rfl)); have p9_8 : t9[23]? = some ?v1_8 := hV9 8 23 rfl rfl (of_decide_eq_true (by kernel_rfl)); clear hV9 hO9; go_simp; exact hK9 _ (Grow.refl _)
  case s1_10 =>
    intro t9 w9 hT9 hV9 hO9 K9 hK9; have p9_2 : t9[17]? = some ?v1_2 := hV9 2 17 rfl rfl (of_decide_eq_true (by kernel_rfl)); have p9_9 : t9[24]? = some ?v1_9 := hV9 9 24 rfl rfl (of_decide_eq_true (by kernel_rfl)); clear hV9 hO9; go_simp; exact hK9 _ (Grow.refl _)
  case s1_11 =>
    intro t9 w9 hT9 hV9 hO9 K9 hK9; have p9_2 : t9[17]? = some ?v1_2 := hV9 2 17 rfl rfl (of_decide_eq_true (by kernel_rfl)); have p9_4 : t9[19]? = some ?v1_4 := hV9 4 19 rfl rfl (of_decide_eq_true (by kernel_rfl)); have p9_10 : t9[25]? = some ?v1_10 := hV9 10 25 rfl rfl (of_decide_eq_true (by kernel_rfl)); clear hV9 hO9; go_simp; exact hK9 _ (Grow.refl _)
  case s1_12 =>
    intro t9 w9 hT9 hV9 hO9 K9 hK9; have p9_2 : t9[17]? = some ?v1_2 := hV9 2 17 rfl rfl (of_decide_eq_true (by kernel_rfl)); have p9_11 : t9[26]? = some ?v1_11 := hV9 11 26 rfl rfl (of_decide_eq_true (by kernel_rfl)); clear hV9 hO9; go_simp; exact hK9 _ (Grow.refl _)
  intro w9 hb9
  simp only [putAll, Act.put, List.setIfInBounds_toArray, List.set_cons_succ, List.set_cons_zero, List.getD_cons_succ, List.getD_cons_zero, Nat.reduceAdd, Nat.zero_add]
  replace o_p := o_p.below hb9 o_p.lt; replace hbw := below6 hbw hb9; clear hb9; have hown := World.ownsRow_nil w9 w.heap.size 170 2; have HOW := Lib.hid hown; clear hown; have hszw := hbw.size
  go_wp2_with (at_builtin; refine wpList_append_own_at _ rfl (.tmp 30) (.tmp 32) 79 rfl w.heap.size 170 i0 _ 2 32 Tryz.underlying79 hi0 hz0 hz1 hz2 rfl (by decide) _ 0 [] rfl (HOW.out.alloc _) ⟨w9.heap.size, 0, none⟩ 1 1 [.string ⟨#[]⟩, .string ⟨#[]⟩] rfl rfl (new_cells _ _ _ _ rfl) (by simp [Value.oneCell']) h63 (by omega) (by rw [size1]; omega) ?_)
  intro v' w' hown' hgrow _ hat; have hbw' : Below w.heap.size w w' := (hbw.alloc hbw.size _).grown hgrow (by rw [size1]; omega) (own_lt HOW.out); have o_p' : Own w' w.heap.size 170 [.string a, .string b] := (hgrow.block _ (by rw [size1]; have := o_p.lt; omega) (by intro e; cases e)).trans (o_p.alloc _); obtain ⟨g2, cap2, rfl, hg2, hg3⟩ := hown'.form (by decide); have hne : g2 ≠ w.heap.size := by
    rcases hat with e | e
    · cases e
    · have e2 : g2 = w9.heap.size + 1 := by injection e
      have := o_p.lt
      omega
  clear hgrow hat o_p hbw HOW hszw; have hcap : 1 ≤ cap2 := by
    obtain ⟨A9, c9, e9, h9, -⟩ := own_form hown'
    injection e9 with _ _ e9
    subst e9; exact h9
  have hcp : ∀ (d : Option Addr) (c : Nat) (W : World), (Builtin.copy_ #[79, 79] 3 #[.slice d 0 c, .slice (some ⟨g2, 0, none⟩) 1 cap2]).run Tryz.prog W = .ok (.int .i64 0) W := fun d c W =>
    run_copy_zero W _ _ _ 170 d _ 0 c 1 cap2 Tryz.underlying79 (by rw [hi0]; rfl) (by decide)
  have hz1' : IntKind.i64.wrap 1 = 1 := by decide
  go_upto_region 9 with (fail)
  refine wp_reg_abs [some 34, some 35, some 36, some 37, some 38, some 39, some 40, some 41] [?v2_0, ?v2_1, ?v2_2, ?v2_3, ?v2_4, ?v2_5, ?v2_6, ?v2_7] rfl (by kernel_rfl) rfl rfl ⟨?s2_0, ?s2_1, ?s2_2, ?s2_3, ?s2_4, ?s2_5, ?s2_6, ?s2_7, trivial⟩ ?p2
  case s2_0 =>
    intro t9 w9 hT9 hV9 hO9 K9 hK9; have o9_3 := hO9 3 _ (by kernel_rfl) rfl; clear hV9 hO9; go_simp; exact hK9 _ (Grow.refl _)
  case s2_1 =>
    intro t9 w9 hT9 hV9 hO9 K9 hK9; have o9_6 := hO9 6 _ (by kernel_rfl) rfl; clear hV9 hO9; go_simp; exact hK9 _ (Grow.refl _)
  case s2_2 =>
    intro t9 w9 hT9 hV9 hO9 K9 hK9; have p9_1 : t9[35]? = some ?v2_1 := hV9 1 35 rfl rfl (of_decide_eq_true (by kernel_rfl)); clear hV9 hO9; go_simp; exact hK9 _ (Grow.refl _)
  case s2_3 =>
    intro t9 w9 hT9 hV9 hO9 K9 hK9; have p9_0 : t9[34]? = some ?v2_0 := hV9 0 34 rfl rfl (of_decide_eq_true (by kernel_rfl)); have p9_2 : t9[36]? = some ?v2_2 := hV9 2 36 rfl rfl (of_decide_eq_true (by kernel_rfl)); clear hV9 hO9; go_simp; exact hK9 _ (Grow.refl _)
  case s2_4 =>
    intro t9 w9 hT9 hV9 hO9 K9 hK9; have o9_3 := hO9 3 _ (by kernel_rfl) rfl; clear hV9 hO9; go_simp; exact hK9 _ (Grow.refl _)
  case s2_5 =>
    intro t9 w9 hT9 hV9 hO9 K9 hK9; have o9_6 := hO9 6 _ (by kernel_rfl) rfl; clear hV9 hO9; go_simp; exact hK9 _ (Grow.refl _)
  case s2_6 =>
    intro t9 w9 hT9 hV9 hO9 K9 hK9; have p9_4 : t9[38]? = some ?v2_4 := hV9 4 38 rfl rfl (of_decide_eq_true (by kernel_rfl)); have p9_5 : t9[39]? = some ?v2_5 := hV9 5 39 rfl rfl (of_decide_eq_true (by kernel_rfl)); clear hV9 hO9; go_simp; exact hK9 _ (Grow.refl _)
  case s2_7 =>
    intro t9 w9 hT9 hV9 hO9 K9 hK9; have p9_3 : t9[37]? = some ?v2_3 := hV9 3 37 rfl rfl (of_decide_eq_true (by kernel_rfl)); have p9_6 : t9[40]? = some ?v2_6 := hV9 6 40 rfl rfl (of_decide_eq_true (by kernel_rfl)); clear hV9 hO9; go_simp; exact hK9 _ (Grow.refl _)
  intro w9 hb9
  simp only [putAll, Act.put, List.setIfInBounds_toArray, List.set_cons_succ, List.set_cons_zero, List.getD_cons_succ, List.getD_cons_zero, Nat.reduceAdd, Nat.zero_add]
  generalize (if cap2 = 1 then some (⟨g2, 0, none⟩ : Addr) else some ⟨g2, 2, none⟩) = dv; replace hbw' := below6 hbw' hb9; replace o_p' := o_p'.below hb9 o_p'.lt; have hown9 := own_below1 hown' hb9; clear hb9 hown'; have pp0 : w9.cell? ⟨w.heap.size, 0, none⟩ = some (.string a) := o_p'.cell 0; have pp1 : w9.cell? ⟨w.heap.size, 1, none⟩ = some (.string b) := o_p'.cell 1; have c0 : w9.cell? ⟨g2, 0, none⟩ = some (.string ⟨#[]⟩) := hown9.cellAt 0 (by decide); have c1 : w9.cell? ⟨g2, 1, none⟩ = some (.string ⟨#[]⟩) := hown9.cellAt 1 (by decide); have fz0 := hown9.frozenAt 0; have fz1 := hown9.frozenAt 1; have s2 := ((hown9.stored 0 (.string a)).1.stored 1 (.string b)).1; have hb9 := (hbw'.setCell (p := ⟨g2, 0, none⟩) hg2 (.string a)).setCell (p := ⟨g2, 1, none⟩) hg2 (.string b)
  go_wp2_with fail
  generalize ((w9.setCell ⟨g2, 0, none⟩ (.string a)).setCell ⟨g2, 1, none⟩ (.string b)) = wz at s2 hb9 ⊢; rw [rounds_succ]
  go_wp2
  go_ret
  exact ⟨_, rfl, s2, hb9⟩
end Go.Proofs.YtffldjghdcfpiaaGreatDoor
