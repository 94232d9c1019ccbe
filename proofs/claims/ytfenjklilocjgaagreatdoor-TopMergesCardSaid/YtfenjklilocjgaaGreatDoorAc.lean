/- Parts of the proof: Ac. No condition of its own. -/
import Derived.Test.YtfenjklilocjgaaGreatDoorAi
set_option linter.unusedSimpArgs false
set_option linter.unusedVariables false
set_option linter.unusedSectionVars false
namespace Go.Proofs.YtfenjklilocjgaaGreatDoor
set_option linter.unusedSimpArgs false
set_option linter.unusedVariables false
set_option linter.unusedSectionVars false
open Go.RowKit Dg

theorem Rd.c9 {w : World} {b : Nat} {xs : List Value} (h : Rd w (some ⟨b, 0, none⟩) xs) (j : Nat) {u : Value} (hu : xs[j]? = some u) : w.cell? ⟨b, j, none⟩ = some u := by
  obtain ⟨b9, off9, e9, h9⟩ := h j u hu
  injection e9 with e9
  injection e9 with e1 e2
  subst e1 e2
  simpa using h9
theorem mk_int1 (W : World) : (Instr.makeSlice 27 (.int .i64 1) (.int .i64 1)).run Tryz.prog W = .ok (.slice (some ⟨W.heap.size, 0, none⟩) 1 1) (W.alloc (.cells #[.int .i64 0] 3)) := run_make_ints (e := 3) Tryz.underlying27 (by kernel_rfl) 1 (by decide) W
theorem mk_int0 (W : World) : (Instr.makeSlice 27 (.int .i64 0) (.int .i64 0)).run Tryz.prog W = .ok (.slice (some ⟨W.heap.size, 0, none⟩) 0 0) (W.alloc (.cells #[] 3)) := run_make_ints (e := 3) Tryz.underlying27 (by kernel_rfl) 0 (by decide) W
theorem mk_bool0 (W : World) : (Instr.makeSlice 141 (.int .i64 0) (.int .i64 0)).run Tryz.prog W = .ok (.slice (some ⟨W.heap.size, 0, none⟩) 0 0) (W.alloc (.cells #[] 4)) := by
  obtain ⟨i0, hi0, hz0, hz1, hz2⟩ := info_parts (show (Tryz.prog.info? 4).map (fun i => (i.zero, i.size, i.bytes)) = some (some (.bool false), 1, 1) by kernel_rfl)
  have hr := run_make (P := Tryz.prog) W 141 4 i0 _ Tryz.underlying141 hi0 hz0 .i64 .i64 0 0 (by omega) (by omega) (by rw [hz2]; omega) (by omega)
  rw [hz1] at hr
  have e0 : madeCells (Value.bool false).cells (Int.toNat 0 * 1) = #[] := madeCells_one _ 0
  rw [e0] at hr
  exact hr
theorem low_word : Low ⟨#[119, 111, 114, 100]⟩ 0 4 := by
  intro j h3 h1 h2
  have : j = 0 ∨ j = 1 ∨ j = 2 ∨ j = 3 := by omega
  rcases this with rfl | rfl | rfl | rfl <;> decide +revert
theorem vn_word : RetV 81 #[.string ⟨#[119, 111, 114, 100]⟩] (.bool true) := validName_low _ (by decide) (by decide) low_word
theorem low_s : Low ⟨#[115]⟩ 0 1 := by
  intro j h3 h1 h2
  have : j = 0 := by omega
  rcases this with rfl <;> decide +revert
theorem vn_s : RetV 81 #[.string ⟨#[115]⟩] (.bool true) := validName_low _ (by decide) (by decide) low_s
theorem vn_t : RetV 81 #[.string ⟨#[116]⟩] (.bool true) := validName_low _ (by decide) (by decide) low_t
set_option maxRecDepth 100000 in
set_option maxHeartbeats 1000000 in
theorem attrs_ok (tA xA rA : Option Addr) (tn tC xn xC rn rC ga ca : Nat) (hca : 1 ≤ ca) (w : World) (hr : Rd w (some ⟨ga, 0, none⟩) [.string ⟨#[119, 111, 114, 100]⟩, .bool false]) : Calls Tryz.prog 43 #[.agg #[.slice (some ⟨ga, 0, none⟩) 1 ca, .slice tA tn tC, .slice xA xn xC, .slice rA rn rC, .slice none 0 0, .slice none 0 0, .slice none 0 0]] w fun e w' => e = .returned (.tuple #[.int .i64 0, .int .i64 0]) ∧ Below w.heap.size w w' := by
  obtain ⟨o_c, hbw⟩ := new1 w [.slice (some ⟨ga, 0, none⟩) 1 ca, .slice tA tn tC, .slice xA xn xC, .slice rA rn rC, .slice none 0 0, .slice none 0 0, .slice none 0 0] 30
  replace hr := hr.below hbw
  go_enter Tryz.func43, Tryz.ntmps43
  go_upto_region 1 with (fail)
  generalize (w.alloc (.cells #[.slice (some ⟨ga, 0, none⟩) 1 ca, .slice tA tn tC, .slice xA xn xC, .slice rA rn rC, .slice none 0 0, .slice none 0 0, .slice none 0 0] 30)) = wb at o_c hbw hr ⊢
  have qc_0 : wb.cell? ⟨w.heap.size, 0, none⟩ = some (.slice (some ⟨ga, 0, none⟩) 1 ca) := o_c.cell 0
  have qc_1 : wb.cell? ⟨w.heap.size, 1, none⟩ = some (.slice tA tn tC) := o_c.cell 1
  have qc_2 : wb.cell? ⟨w.heap.size, 2, none⟩ = some (.slice xA xn xC) := o_c.cell 2
  have qc_3 : wb.cell? ⟨w.heap.size, 3, none⟩ = some (.slice rA rn rC) := o_c.cell 3
  have qc_4 : wb.cell? ⟨w.heap.size, 4, none⟩ = some (.slice none 0 0) := o_c.cell 4
  have qc_5 : wb.cell? ⟨w.heap.size, 5, none⟩ = some (.slice none 0 0) := o_c.cell 5
  have qc_6 : wb.cell? ⟨w.heap.size, 6, none⟩ = some (.slice none 0 0) := o_c.cell 6
  go_wp2_with fail
  clear qc_0 qc_1 qc_2 qc_3 qc_4 qc_5 qc_6
  refine wp_loop_rounds 2 ?_
  rw [rounds_succ]
  have r0 : wb.cell? ⟨ga, 0, none⟩ = some (.string ⟨#[119, 111, 114, 100]⟩) := hr.c9 0 rfl
  have r1 : wb.cell? ⟨ga, 1, none⟩ = some (.bool false) := hr.c9 1 rfl
  obtain ⟨o_a, hz1⟩ := new1 wb [.string ⟨#[119, 111, 114, 100]⟩, .bool false] 64
  replace o_c := o_c.alloc (.cells #[.string ⟨#[119, 111, 114, 100]⟩, .bool false] 64)
  replace hr := hr.below hz1
  replace hbw := below6 hbw hz1
  clear hz1
  go_upto_region 8 with (fail)
  generalize (wb.alloc (.cells #[.string ⟨#[119, 111, 114, 100]⟩, .bool false] 64)) = wa2 at o_c o_a hbw hr ⊢
  generalize wb.heap.size = g2 at o_a ⊢
  clear r0 r1
  have qa_0 : wa2.cell? ⟨g2, 0, none⟩ = some (.string ⟨#[119, 111, 114, 100]⟩) := o_a.cell 0
  have qa_1 : wa2.cell? ⟨g2, 1, none⟩ = some (.bool false) := o_a.cell 1
  go_wp2_with fail
  refine (vn_word _).mono ?_
  rintro e w3 ⟨rfl, hb3⟩
  replace o_c := o_c.below hb3 o_c.lt
  replace o_a := o_a.below hb3 o_a.lt
  replace hr := hr.below hb3
  replace hbw := below6 hbw hb3
  clear hb3
  clear qa_0 qa_1
  have qc_0 : w3.cell? ⟨w.heap.size, 0, none⟩ = some (.slice (some ⟨ga, 0, none⟩) 1 ca) := o_c.cell 0
  have qc_1 : w3.cell? ⟨w.heap.size, 1, none⟩ = some (.slice tA tn tC) := o_c.cell 1
  have qc_2 : w3.cell? ⟨w.heap.size, 2, none⟩ = some (.slice xA xn xC) := o_c.cell 2
  have qc_3 : w3.cell? ⟨w.heap.size, 3, none⟩ = some (.slice rA rn rC) := o_c.cell 3
  have qc_4 : w3.cell? ⟨w.heap.size, 4, none⟩ = some (.slice none 0 0) := o_c.cell 4
  have qc_5 : w3.cell? ⟨w.heap.size, 5, none⟩ = some (.slice none 0 0) := o_c.cell 5
  have qc_6 : w3.cell? ⟨w.heap.size, 6, none⟩ = some (.slice none 0 0) := o_c.cell 6
  go_wp2_with fail
  clear qc_0 qc_1 qc_2 qc_3 qc_4 qc_5 qc_6
  refine wp_loop_rounds 1 ?_
  rw [rounds_succ]
  go_wp2_with fail
  rw [rounds_succ]
  go_wp2
  go_ret2
  exact ⟨rfl, hbw⟩
set_option maxRecDepth 100000 in
set_option maxHeartbeats 1000000 in
theorem nodes_ok (tA xA rA : Option Addr) (tn tC xn xC rn rC ga ca : Nat) : RetV 47 #[.agg #[.slice (some ⟨ga, 0, none⟩) 1 ca, .slice tA tn tC, .slice xA xn xC, .slice rA rn rC, .slice none 0 0, .slice none 0 0, .slice none 0 0]] (.tuple #[.int .i64 0, .int .i64 0]) := by
  intro w
  obtain ⟨o_c, hbw⟩ := new1 w [.slice (some ⟨ga, 0, none⟩) 1 ca, .slice tA tn tC, .slice xA xn xC, .slice rA rn rC, .slice none 0 0, .slice none 0 0, .slice none 0 0] 30
  go_enter Tryz.func47, Tryz.ntmps47
  go_upto_region 1 with (fail)
  generalize (w.alloc (.cells #[.slice (some ⟨ga, 0, none⟩) 1 ca, .slice tA tn tC, .slice xA xn xC, .slice rA rn rC, .slice none 0 0, .slice none 0 0, .slice none 0 0] 30)) = wb at o_c hbw ⊢
  have hw1 : IntKind.i64.wrap (0 + 1) = 1 := by decide
  have mk := mk_int1
  have qc_0 : wb.cell? ⟨w.heap.size, 0, none⟩ = some (.slice (some ⟨ga, 0, none⟩) 1 ca) := o_c.cell 0
  have qc_1 : wb.cell? ⟨w.heap.size, 1, none⟩ = some (.slice tA tn tC) := o_c.cell 1
  have qc_2 : wb.cell? ⟨w.heap.size, 2, none⟩ = some (.slice xA xn xC) := o_c.cell 2
  have qc_3 : wb.cell? ⟨w.heap.size, 3, none⟩ = some (.slice rA rn rC) := o_c.cell 3
  have qc_4 : wb.cell? ⟨w.heap.size, 4, none⟩ = some (.slice none 0 0) := o_c.cell 4
  have qc_5 : wb.cell? ⟨w.heap.size, 5, none⟩ = some (.slice none 0 0) := o_c.cell 5
  have qc_6 : wb.cell? ⟨w.heap.size, 6, none⟩ = some (.slice none 0 0) := o_c.cell 6
  go_upto_region 3 with (fail)
  obtain ⟨o_e, hz1⟩ := new1 wb [.int .i64 0] 3
  replace o_c := o_c.alloc (.cells #[.int .i64 0] 3)
  replace hbw := below6 hbw hz1
  clear hz1
  go_upto_region 4 with (fail)
  generalize (wb.alloc (.cells #[.int .i64 0] 3)) = wa2 at o_c o_e hbw ⊢
  generalize wb.heap.size = g2 at o_e ⊢
  have qc_0 : wa2.cell? ⟨w.heap.size, 0, none⟩ = some (.slice (some ⟨ga, 0, none⟩) 1 ca) := o_c.cell 0
  have qc_1 : wa2.cell? ⟨w.heap.size, 1, none⟩ = some (.slice tA tn tC) := o_c.cell 1
  have qc_2 : wa2.cell? ⟨w.heap.size, 2, none⟩ = some (.slice xA xn xC) := o_c.cell 2
  have qc_3 : wa2.cell? ⟨w.heap.size, 3, none⟩ = some (.slice rA rn rC) := o_c.cell 3
  have qc_4 : wa2.cell? ⟨w.heap.size, 4, none⟩ = some (.slice none 0 0) := o_c.cell 4
  have qc_5 : wa2.cell? ⟨w.heap.size, 5, none⟩ = some (.slice none 0 0) := o_c.cell 5
  have qc_6 : wa2.cell? ⟨w.heap.size, 6, none⟩ = some (.slice none 0 0) := o_c.cell 6
  obtain ⟨o_d, hz3⟩ := new1 wa2 [.int .i64 0] 3
  replace o_c := o_c.alloc (.cells #[.int .i64 0] 3)
  replace o_e := o_e.alloc (.cells #[.int .i64 0] 3)
  replace hbw := below6 hbw hz3
  clear hz3
  go_upto_region 5 with (fail)
  generalize (wa2.alloc (.cells #[.int .i64 0] 3)) = wa4 at o_c o_e o_d hbw ⊢
  generalize wa2.heap.size = g4 at o_d ⊢
  have qc_0 : wa4.cell? ⟨w.heap.size, 0, none⟩ = some (.slice (some ⟨ga, 0, none⟩) 1 ca) := o_c.cell 0
  have qc_1 : wa4.cell? ⟨w.heap.size, 1, none⟩ = some (.slice tA tn tC) := o_c.cell 1
  have qc_2 : wa4.cell? ⟨w.heap.size, 2, none⟩ = some (.slice xA xn xC) := o_c.cell 2
  have qc_3 : wa4.cell? ⟨w.heap.size, 3, none⟩ = some (.slice rA rn rC) := o_c.cell 3
  have qc_4 : wa4.cell? ⟨w.heap.size, 4, none⟩ = some (.slice none 0 0) := o_c.cell 4
  have qc_5 : wa4.cell? ⟨w.heap.size, 5, none⟩ = some (.slice none 0 0) := o_c.cell 5
  have qc_6 : wa4.cell? ⟨w.heap.size, 6, none⟩ = some (.slice none 0 0) := o_c.cell 6
  clear mk
  go_wp2_with fail
  refine wp_loop_rounds 1 ?_
  rw [rounds_succ]
  go_wp2
  go_ret2
  exact ⟨rfl, hbw⟩
set_option maxRecDepth 100000 in
set_option maxHeartbeats 1000000 in
theorem cycles_nil (w : World) : Calls Tryz.prog 89 #[.slice none 0 0] w fun e w' => e = .returned (.slice (some ⟨w.heap.size, 0, none⟩) 0 0) ∧ Below w.heap.size w w' := by
  have mk0 := mk_int0
  have mkb := mk_bool0
  go_enter Tryz.func89, Tryz.ntmps89
  go_wp2_with fail
  refine wp_loop_rounds 1 ?_
  rw [rounds_succ]
  go_wp2
  go_ret
  exact ⟨rfl, (((Below.refl _ w).alloc (Nat.le_refl _) _).alloc (by rw [size1]; omega) _)⟩
set_option maxRecDepth 100000 in
set_option maxHeartbeats 1000000 in
theorem heads_ok (tA xA rA : Option Addr) (tn tC xn xC rn rC ga ca : Nat) : RetV 48 #[.agg #[.slice (some ⟨ga, 0, none⟩) 1 ca, .slice tA tn tC, .slice xA xn xC, .slice rA rn rC, .slice none 0 0, .slice none 0 0, .slice none 0 0]] (.tuple #[.int .i64 0, .int .i64 0]) := by
  intro w
  obtain ⟨o_c, hbw⟩ := new1 w [.slice (some ⟨ga, 0, none⟩) 1 ca, .slice tA tn tC, .slice xA xn xC, .slice rA rn rC, .slice none 0 0, .slice none 0 0, .slice none 0 0] 30
  go_enter Tryz.func48, Tryz.ntmps48
  go_upto_region 1 with (fail)
  generalize (w.alloc (.cells #[.slice (some ⟨ga, 0, none⟩) 1 ca, .slice tA tn tC, .slice xA xn xC, .slice rA rn rC, .slice none 0 0, .slice none 0 0, .slice none 0 0] 30)) = wb at o_c hbw ⊢
  have qc_0 : wb.cell? ⟨w.heap.size, 0, none⟩ = some (.slice (some ⟨ga, 0, none⟩) 1 ca) := o_c.cell 0
  have qc_1 : wb.cell? ⟨w.heap.size, 1, none⟩ = some (.slice tA tn tC) := o_c.cell 1
  have qc_2 : wb.cell? ⟨w.heap.size, 2, none⟩ = some (.slice xA xn xC) := o_c.cell 2
  have qc_3 : wb.cell? ⟨w.heap.size, 3, none⟩ = some (.slice rA rn rC) := o_c.cell 3
  have qc_4 : wb.cell? ⟨w.heap.size, 4, none⟩ = some (.slice none 0 0) := o_c.cell 4
  have qc_5 : wb.cell? ⟨w.heap.size, 5, none⟩ = some (.slice none 0 0) := o_c.cell 5
  have qc_6 : wb.cell? ⟨w.heap.size, 6, none⟩ = some (.slice none 0 0) := o_c.cell 6
  go_wp2_with fail
  clear qc_0 qc_1 qc_2 qc_3 qc_4 qc_5 qc_6
  refine (cycles_nil _).mono ?_
  rintro e w1 ⟨rfl, hb1⟩
  replace o_c := o_c.below hb1 o_c.lt
  replace hbw := below6 hbw hb1
  clear hb1
  have qc_0 : w1.cell? ⟨w.heap.size, 0, none⟩ = some (.slice (some ⟨ga, 0, none⟩) 1 ca) := o_c.cell 0
  have qc_1 : w1.cell? ⟨w.heap.size, 1, none⟩ = some (.slice tA tn tC) := o_c.cell 1
  have qc_2 : w1.cell? ⟨w.heap.size, 2, none⟩ = some (.slice xA xn xC) := o_c.cell 2
  have qc_3 : w1.cell? ⟨w.heap.size, 3, none⟩ = some (.slice rA rn rC) := o_c.cell 3
  have qc_4 : w1.cell? ⟨w.heap.size, 4, none⟩ = some (.slice none 0 0) := o_c.cell 4
  have qc_5 : w1.cell? ⟨w.heap.size, 5, none⟩ = some (.slice none 0 0) := o_c.cell 5
  have qc_6 : w1.cell? ⟨w.heap.size, 6, none⟩ = some (.slice none 0 0) := o_c.cell 6
  go_wp2_with fail
  clear qc_0 qc_1 qc_2 qc_3 qc_4 qc_5 qc_6
  refine wp_loop_rounds 1 ?_
  rw [rounds_succ]
  go_wp2
  go_ret2
  exact ⟨rfl, hbw⟩
theorem cerr_yes (n s : ByteArray) (hs : OneL s) : RetV 82 #[.agg #[.string n, .bool false], .string s] (.int .i64 0) := by
  intro w
  have HV := Lib.hid hs.value
  clear hs
  obtain ⟨o_c, hbw⟩ := new1 w [.string n, .bool false] 64
  go_enter Tryz.func82, Tryz.ntmps82
  go_upto_region 1 with (fail)
  generalize (w.alloc (.cells #[.string n, .bool false] 64)) = wb at o_c hbw ⊢
  have qc_0 : wb.cell? ⟨w.heap.size, 0, none⟩ = some (.string n) := o_c.cell 0
  have qc_1 : wb.cell? ⟨w.heap.size, 1, none⟩ = some (.bool false) := o_c.cell 1
  go_wp2_with fail
  clear qc_0 qc_1
  refine (HV.out _).mono ?_
  rintro e w1 ⟨rfl, hb1⟩
  replace o_c := o_c.below hb1 o_c.lt
  replace hbw := below6 hbw hb1
  clear hb1
  go_wp2
  go_ret
  exact ⟨rfl, hbw⟩
theorem perr_nil : RetV 84 #[.slice none 0 0] (.int .i64 0) := by
  intro w
  go_enter Tryz.func84, Tryz.ntmps84
  go_wp2_with fail
  refine wp_loop_rounds 1 ?_
  rw [rounds_succ]
  go_wp2
  go_ret
  exact ⟨rfl, Below.refl _ _⟩
set_option maxRecDepth 100000 in
set_option maxHeartbeats 1000000 in
theorem tokens_nil (xA rA : Option Addr) (xn xC rn rC ga ca : Nat) : RetV 44 #[.agg #[.slice (some ⟨ga, 0, none⟩) 1 ca, .slice none 0 0, .slice xA xn xC, .slice rA rn rC, .slice none 0 0, .slice none 0 0, .slice none 0 0]] (.tuple #[.int .i64 0, .int .i64 0]) := by
  intro w
  obtain ⟨o_c, hbw⟩ := new1 w [.slice (some ⟨ga, 0, none⟩) 1 ca, .slice none 0 0, .slice xA xn xC, .slice rA rn rC, .slice none 0 0, .slice none 0 0, .slice none 0 0] 30
  go_enter Tryz.func44, Tryz.ntmps44
  go_upto_region 1 with (fail)
  generalize (w.alloc (.cells #[.slice (some ⟨ga, 0, none⟩) 1 ca, .slice none 0 0, .slice xA xn xC, .slice rA rn rC, .slice none 0 0, .slice none 0 0, .slice none 0 0] 30)) = wb at o_c hbw ⊢
  have qc_0 : wb.cell? ⟨w.heap.size, 0, none⟩ = some (.slice (some ⟨ga, 0, none⟩) 1 ca) := o_c.cell 0
  have qc_1 : wb.cell? ⟨w.heap.size, 1, none⟩ = some (.slice none 0 0) := o_c.cell 1
  have qc_2 : wb.cell? ⟨w.heap.size, 2, none⟩ = some (.slice xA xn xC) := o_c.cell 2
  have qc_3 : wb.cell? ⟨w.heap.size, 3, none⟩ = some (.slice rA rn rC) := o_c.cell 3
  have qc_4 : wb.cell? ⟨w.heap.size, 4, none⟩ = some (.slice none 0 0) := o_c.cell 4
  have qc_5 : wb.cell? ⟨w.heap.size, 5, none⟩ = some (.slice none 0 0) := o_c.cell 5
  have qc_6 : wb.cell? ⟨w.heap.size, 6, none⟩ = some (.slice none 0 0) := o_c.cell 6
  go_wp2_with fail
  clear qc_0 qc_1 qc_2 qc_3 qc_4 qc_5 qc_6
  refine wp_loop_rounds 1 ?_
  rw [rounds_succ]
  go_wp2
  go_ret2
  exact ⟨rfl, hbw⟩
set_option maxRecDepth 100000 in
set_option maxHeartbeats 1000000 in
theorem tokens_two (xA rA : Option Addr) (xn xC rn rC ga ca gt ct g1 c1 g2 c2 : Nat) (hca : 1 ≤ ca) (hct : 2 ≤ ct) (hc1 : 1 ≤ c1) (hc2 : 1 ≤ c2) (s1 s2 : ByteArray) (w : World) (hr : Rd w (some ⟨ga, 0, none⟩) [.string ⟨#[119, 111, 114, 100]⟩, .bool false]) (ht : Rd w (some ⟨gt, 0, none⟩) [.slice (some ⟨g1, 0, none⟩) 1 c1, .slice (some ⟨g2, 0, none⟩) 1 c2]) (h1 : Rd w (some ⟨g1, 0, none⟩) [.string s1]) (h2 : Rd w (some ⟨g2, 0, none⟩) [.string s2]) (e1 : OneL s1) (e2 : OneL s2) :
    Calls Tryz.prog 44 #[.agg #[.slice (some ⟨ga, 0, none⟩) 1 ca, .slice (some ⟨gt, 0, none⟩) 2 ct, .slice xA xn xC, .slice rA rn rC, .slice none 0 0, .slice none 0 0, .slice none 0 0]] w fun e w' => e = .returned (.tuple #[.int .i64 0, .int .i64 0]) ∧ Below w.heap.size w w' := by
  have HE1 := Lib.hid (cerr_yes ⟨#[119, 111, 114, 100]⟩ s1 e1)
  have HE2 := Lib.hid (cerr_yes ⟨#[119, 111, 114, 100]⟩ s2 e2)
  clear e1 e2
  obtain ⟨o_c, hbw⟩ := new1 w [.slice (some ⟨ga, 0, none⟩) 1 ca, .slice (some ⟨gt, 0, none⟩) 2 ct, .slice xA xn xC, .slice rA rn rC, .slice none 0 0, .slice none 0 0, .slice none 0 0] 30
  replace hr := hr.below hbw
  replace ht := ht.below hbw
  replace h1 := h1.below hbw
  replace h2 := h2.below hbw
  go_enter Tryz.func44, Tryz.ntmps44
  go_upto_region 1 with (fail)
  generalize (w.alloc (.cells #[.slice (some ⟨ga, 0, none⟩) 1 ca, .slice (some ⟨gt, 0, none⟩) 2 ct, .slice xA xn xC, .slice rA rn rC, .slice none 0 0, .slice none 0 0, .slice none 0 0] 30)) = wb at o_c hbw hr ht h1 h2 ⊢
  have qc_0 : wb.cell? ⟨w.heap.size, 0, none⟩ = some (.slice (some ⟨ga, 0, none⟩) 1 ca) := o_c.cell 0
  have qc_1 : wb.cell? ⟨w.heap.size, 1, none⟩ = some (.slice (some ⟨gt, 0, none⟩) 2 ct) := o_c.cell 1
  have qc_2 : wb.cell? ⟨w.heap.size, 2, none⟩ = some (.slice xA xn xC) := o_c.cell 2
  have qc_3 : wb.cell? ⟨w.heap.size, 3, none⟩ = some (.slice rA rn rC) := o_c.cell 3
  have qc_4 : wb.cell? ⟨w.heap.size, 4, none⟩ = some (.slice none 0 0) := o_c.cell 4
  have qc_5 : wb.cell? ⟨w.heap.size, 5, none⟩ = some (.slice none 0 0) := o_c.cell 5
  have qc_6 : wb.cell? ⟨w.heap.size, 6, none⟩ = some (.slice none 0 0) := o_c.cell 6
  go_wp2_with fail
  clear qc_0 qc_1 qc_2 qc_3 qc_4 qc_5 qc_6
  refine wp_loop_rounds 3 ?_
  rw [rounds_succ]
  have x0 : wb.cell? ⟨gt, 0, none⟩ = some (.slice (some ⟨g1, 0, none⟩) 1 c1) := ht.c9 0 rfl
  have x1 : wb.cell? ⟨gt, 1, none⟩ = some (.slice (some ⟨g2, 0, none⟩) 1 c2) := ht.c9 1 rfl
  have y0 : wb.cell? ⟨g1, 0, none⟩ = some (.string s1) := h1.c9 0 rfl
  have qc_0 : wb.cell? ⟨w.heap.size, 0, none⟩ = some (.slice (some ⟨ga, 0, none⟩) 1 ca) := o_c.cell 0
  have qc_1 : wb.cell? ⟨w.heap.size, 1, none⟩ = some (.slice (some ⟨gt, 0, none⟩) 2 ct) := o_c.cell 1
  have qc_2 : wb.cell? ⟨w.heap.size, 2, none⟩ = some (.slice xA xn xC) := o_c.cell 2
  have qc_3 : wb.cell? ⟨w.heap.size, 3, none⟩ = some (.slice rA rn rC) := o_c.cell 3
  have qc_4 : wb.cell? ⟨w.heap.size, 4, none⟩ = some (.slice none 0 0) := o_c.cell 4
  have qc_5 : wb.cell? ⟨w.heap.size, 5, none⟩ = some (.slice none 0 0) := o_c.cell 5
  have qc_6 : wb.cell? ⟨w.heap.size, 6, none⟩ = some (.slice none 0 0) := o_c.cell 6
  go_wp2_with fail
  clear qc_0 qc_1 qc_2 qc_3 qc_4 qc_5 qc_6
  refine wp_loop_rounds 2 ?_
  rw [rounds_succ]
  clear x0 x1 y0
  have y0 : wb.cell? ⟨g1, 0, none⟩ = some (.string s1) := h1.c9 0 rfl
  have r0 : wb.cell? ⟨ga, 0, none⟩ = some (.string ⟨#[119, 111, 114, 100]⟩) := hr.c9 0 rfl
  have r1 : wb.cell? ⟨ga, 1, none⟩ = some (.bool false) := hr.c9 1 rfl
  have qc_0 : wb.cell? ⟨w.heap.size, 0, none⟩ = some (.slice (some ⟨ga, 0, none⟩) 1 ca) := o_c.cell 0
  have qc_1 : wb.cell? ⟨w.heap.size, 1, none⟩ = some (.slice (some ⟨gt, 0, none⟩) 2 ct) := o_c.cell 1
  have qc_2 : wb.cell? ⟨w.heap.size, 2, none⟩ = some (.slice xA xn xC) := o_c.cell 2
  have qc_3 : wb.cell? ⟨w.heap.size, 3, none⟩ = some (.slice rA rn rC) := o_c.cell 3
  have qc_4 : wb.cell? ⟨w.heap.size, 4, none⟩ = some (.slice none 0 0) := o_c.cell 4
  have qc_5 : wb.cell? ⟨w.heap.size, 5, none⟩ = some (.slice none 0 0) := o_c.cell 5
  have qc_6 : wb.cell? ⟨w.heap.size, 6, none⟩ = some (.slice none 0 0) := o_c.cell 6
  go_wp2_with fail
  clear qc_0 qc_1 qc_2 qc_3 qc_4 qc_5 qc_6
  refine (HE1.out _).mono ?_
  rintro e w1 ⟨rfl, hb1⟩
  replace o_c := o_c.below hb1 o_c.lt
  replace hr := hr.below hb1
  replace ht := ht.below hb1
  replace h1 := h1.below hb1
  replace h2 := h2.below hb1
  replace hbw := below6 hbw hb1
  clear hb1
  clear y0 r0 r1
  go_wp2_with fail
  rw [rounds_succ]
  go_wp2_with fail
  rw [rounds_succ]
  have x0 : w1.cell? ⟨gt, 0, none⟩ = some (.slice (some ⟨g1, 0, none⟩) 1 c1) := ht.c9 0 rfl
  have x1 : w1.cell? ⟨gt, 1, none⟩ = some (.slice (some ⟨g2, 0, none⟩) 1 c2) := ht.c9 1 rfl
  have y0 : w1.cell? ⟨g2, 0, none⟩ = some (.string s2) := h2.c9 0 rfl
  have qc_0 : w1.cell? ⟨w.heap.size, 0, none⟩ = some (.slice (some ⟨ga, 0, none⟩) 1 ca) := o_c.cell 0
  have qc_1 : w1.cell? ⟨w.heap.size, 1, none⟩ = some (.slice (some ⟨gt, 0, none⟩) 2 ct) := o_c.cell 1
  have qc_2 : w1.cell? ⟨w.heap.size, 2, none⟩ = some (.slice xA xn xC) := o_c.cell 2
  have qc_3 : w1.cell? ⟨w.heap.size, 3, none⟩ = some (.slice rA rn rC) := o_c.cell 3
  have qc_4 : w1.cell? ⟨w.heap.size, 4, none⟩ = some (.slice none 0 0) := o_c.cell 4
  have qc_5 : w1.cell? ⟨w.heap.size, 5, none⟩ = some (.slice none 0 0) := o_c.cell 5
  have qc_6 : w1.cell? ⟨w.heap.size, 6, none⟩ = some (.slice none 0 0) := o_c.cell 6
  go_wp2_with fail
  clear qc_0 qc_1 qc_2 qc_3 qc_4 qc_5 qc_6
  refine wp_loop_rounds 2 ?_
  rw [rounds_succ]
  clear x0 x1 y0
  have y0 : w1.cell? ⟨g2, 0, none⟩ = some (.string s2) := h2.c9 0 rfl
  have r0 : w1.cell? ⟨ga, 0, none⟩ = some (.string ⟨#[119, 111, 114, 100]⟩) := hr.c9 0 rfl
  have r1 : w1.cell? ⟨ga, 1, none⟩ = some (.bool false) := hr.c9 1 rfl
  have qc_0 : w1.cell? ⟨w.heap.size, 0, none⟩ = some (.slice (some ⟨ga, 0, none⟩) 1 ca) := o_c.cell 0
  have qc_1 : w1.cell? ⟨w.heap.size, 1, none⟩ = some (.slice (some ⟨gt, 0, none⟩) 2 ct) := o_c.cell 1
  have qc_2 : w1.cell? ⟨w.heap.size, 2, none⟩ = some (.slice xA xn xC) := o_c.cell 2
  have qc_3 : w1.cell? ⟨w.heap.size, 3, none⟩ = some (.slice rA rn rC) := o_c.cell 3
  have qc_4 : w1.cell? ⟨w.heap.size, 4, none⟩ = some (.slice none 0 0) := o_c.cell 4
  have qc_5 : w1.cell? ⟨w.heap.size, 5, none⟩ = some (.slice none 0 0) := o_c.cell 5
  have qc_6 : w1.cell? ⟨w.heap.size, 6, none⟩ = some (.slice none 0 0) := o_c.cell 6
  go_wp2_with fail
  clear qc_0 qc_1 qc_2 qc_3 qc_4 qc_5 qc_6
  refine (HE2.out _).mono ?_
  rintro e w2 ⟨rfl, hb2⟩
  replace o_c := o_c.below hb2 o_c.lt
  replace hr := hr.below hb2
  replace ht := ht.below hb2
  replace h1 := h1.below hb2
  replace h2 := h2.below hb2
  replace hbw := below6 hbw hb2
  clear hb2
  clear y0 r0 r1
  go_wp2_with fail
  rw [rounds_succ]
  go_wp2_with fail
  rw [rounds_succ]
  go_wp2
  go_ret2
  exact ⟨rfl, hbw⟩
set_option maxRecDepth 100000 in
set_option maxHeartbeats 1000000 in
theorem textAt_0 (aA tA rA : Option Addr) (an aC tn tC rn rC gx cx : Nat) (hcx : 1 ≤ cx) (w : World) (hx : Rd w (some ⟨gx, 0, none⟩) [.string ⟨#[116]⟩, .int .i64 0, .int .i64 2, .slice none 0 0]) : Calls Tryz.prog 90 #[.agg #[.slice aA an aC, .slice tA tn tC, .slice (some ⟨gx, 0, none⟩) 1 cx, .slice rA rn rC, .slice none 0 0, .slice none 0 0, .slice none 0 0], .int .i64 0] w fun e w' => e = .returned (.int .i64 0) ∧ Below w.heap.size w w' := by
  obtain ⟨o_c, hbw⟩ := new1 w [.slice aA an aC, .slice tA tn tC, .slice (some ⟨gx, 0, none⟩) 1 cx, .slice rA rn rC, .slice none 0 0, .slice none 0 0, .slice none 0 0] 30
  replace hx := hx.below hbw
  go_enter Tryz.func90, Tryz.ntmps90
  go_upto_region 1 with (fail)
  generalize (w.alloc (.cells #[.slice aA an aC, .slice tA tn tC, .slice (some ⟨gx, 0, none⟩) 1 cx, .slice rA rn rC, .slice none 0 0, .slice none 0 0, .slice none 0 0] 30)) = wb at o_c hbw hx ⊢
  have qc_0 : wb.cell? ⟨w.heap.size, 0, none⟩ = some (.slice aA an aC) := o_c.cell 0
  have qc_1 : wb.cell? ⟨w.heap.size, 1, none⟩ = some (.slice tA tn tC) := o_c.cell 1
  have qc_2 : wb.cell? ⟨w.heap.size, 2, none⟩ = some (.slice (some ⟨gx, 0, none⟩) 1 cx) := o_c.cell 2
  have qc_3 : wb.cell? ⟨w.heap.size, 3, none⟩ = some (.slice rA rn rC) := o_c.cell 3
  have qc_4 : wb.cell? ⟨w.heap.size, 4, none⟩ = some (.slice none 0 0) := o_c.cell 4
  have qc_5 : wb.cell? ⟨w.heap.size, 5, none⟩ = some (.slice none 0 0) := o_c.cell 5
  have qc_6 : wb.cell? ⟨w.heap.size, 6, none⟩ = some (.slice none 0 0) := o_c.cell 6
  go_wp2_with fail
  clear qc_0 qc_1 qc_2 qc_3 qc_4 qc_5 qc_6
  refine wp_loop_rounds 2 ?_
  rw [rounds_succ]
  have x0 : wb.cell? ⟨gx, 0, none⟩ = some (.string ⟨#[116]⟩) := hx.c9 0 rfl
  have x1 : wb.cell? ⟨gx, 1, none⟩ = some (.int .i64 0) := hx.c9 1 rfl
  have x2 : wb.cell? ⟨gx, 2, none⟩ = some (.int .i64 2) := hx.c9 2 rfl
  have x3 : wb.cell? ⟨gx, 3, none⟩ = some (.slice none 0 0) := hx.c9 3 rfl
  obtain ⟨o_a, hz1⟩ := new1 wb [.string ⟨#[116]⟩, .int .i64 0, .int .i64 2, .slice none 0 0] 71
  replace o_c := o_c.alloc (.cells #[.string ⟨#[116]⟩, .int .i64 0, .int .i64 2, .slice none 0 0] 71)
  replace hx := hx.below hz1
  replace hbw := below6 hbw hz1
  clear hz1
  go_upto_region 4 with (fail)
  generalize (wb.alloc (.cells #[.string ⟨#[116]⟩, .int .i64 0, .int .i64 2, .slice none 0 0] 71)) = wa2 at o_c o_a hbw hx ⊢
  generalize wb.heap.size = g2 at o_a ⊢
  clear x0 x1 x2 x3
  have qa_0 : wa2.cell? ⟨g2, 0, none⟩ = some (.string ⟨#[116]⟩) := o_a.cell 0
  have qa_1 : wa2.cell? ⟨g2, 1, none⟩ = some (.int .i64 0) := o_a.cell 1
  have qa_2 : wa2.cell? ⟨g2, 2, none⟩ = some (.int .i64 2) := o_a.cell 2
  have qa_3 : wa2.cell? ⟨g2, 3, none⟩ = some (.slice none 0 0) := o_a.cell 3
  go_wp2
  go_ret
  exact ⟨rfl, hbw⟩
set_option maxRecDepth 100000 in
set_option maxHeartbeats 1000000 in
theorem inText_01 (aA tA rA : Option Addr) (an aC tn tC rn rC gx cx : Nat) (hcx : 1 ≤ cx) (w : World) (hx : Rd w (some ⟨gx, 0, none⟩) [.string ⟨#[116]⟩, .int .i64 0, .int .i64 2, .slice none 0 0]) : Calls Tryz.prog 85 #[.agg #[.slice aA an aC, .slice tA tn tC, .slice (some ⟨gx, 0, none⟩) 1 cx, .slice rA rn rC, .slice none 0 0, .slice none 0 0, .slice none 0 0], .int .i64 0, .int .i64 1] w fun e w' => e = .returned (.bool true) ∧ Below w.heap.size w w' := by
  obtain ⟨o_c, hbw⟩ := new1 w [.slice aA an aC, .slice tA tn tC, .slice (some ⟨gx, 0, none⟩) 1 cx, .slice rA rn rC, .slice none 0 0, .slice none 0 0, .slice none 0 0] 30
  replace hx := hx.below hbw
  go_enter Tryz.func85, Tryz.ntmps85
  go_upto_region 1 with (fail)
  generalize (w.alloc (.cells #[.slice aA an aC, .slice tA tn tC, .slice (some ⟨gx, 0, none⟩) 1 cx, .slice rA rn rC, .slice none 0 0, .slice none 0 0, .slice none 0 0] 30)) = wb at o_c hbw hx ⊢
  have qc_0 : wb.cell? ⟨w.heap.size, 0, none⟩ = some (.slice aA an aC) := o_c.cell 0
  have qc_1 : wb.cell? ⟨w.heap.size, 1, none⟩ = some (.slice tA tn tC) := o_c.cell 1
  have qc_2 : wb.cell? ⟨w.heap.size, 2, none⟩ = some (.slice (some ⟨gx, 0, none⟩) 1 cx) := o_c.cell 2
  have qc_3 : wb.cell? ⟨w.heap.size, 3, none⟩ = some (.slice rA rn rC) := o_c.cell 3
  have qc_4 : wb.cell? ⟨w.heap.size, 4, none⟩ = some (.slice none 0 0) := o_c.cell 4
  have qc_5 : wb.cell? ⟨w.heap.size, 5, none⟩ = some (.slice none 0 0) := o_c.cell 5
  have qc_6 : wb.cell? ⟨w.heap.size, 6, none⟩ = some (.slice none 0 0) := o_c.cell 6
  go_wp2_with fail
  clear qc_0 qc_1 qc_2 qc_3 qc_4 qc_5 qc_6
  refine (textAt_0 aA tA rA an aC tn tC rn rC gx cx hcx _ hx).mono ?_
  rintro e w1 ⟨rfl, hb1⟩
  replace o_c := o_c.below hb1 o_c.lt
  replace hx := hx.below hb1
  replace hbw := below6 hbw hb1
  clear hb1
  have x0 : w1.cell? ⟨gx, 0, none⟩ = some (.string ⟨#[116]⟩) := hx.c9 0 rfl
  have x1 : w1.cell? ⟨gx, 1, none⟩ = some (.int .i64 0) := hx.c9 1 rfl
  have x2 : w1.cell? ⟨gx, 2, none⟩ = some (.int .i64 2) := hx.c9 2 rfl
  have x3 : w1.cell? ⟨gx, 3, none⟩ = some (.slice none 0 0) := hx.c9 3 rfl
  have qc_0 : w1.cell? ⟨w.heap.size, 0, none⟩ = some (.slice aA an aC) := o_c.cell 0
  have qc_1 : w1.cell? ⟨w.heap.size, 1, none⟩ = some (.slice tA tn tC) := o_c.cell 1
  have qc_2 : w1.cell? ⟨w.heap.size, 2, none⟩ = some (.slice (some ⟨gx, 0, none⟩) 1 cx) := o_c.cell 2
  have qc_3 : w1.cell? ⟨w.heap.size, 3, none⟩ = some (.slice rA rn rC) := o_c.cell 3
  have qc_4 : w1.cell? ⟨w.heap.size, 4, none⟩ = some (.slice none 0 0) := o_c.cell 4
  have qc_5 : w1.cell? ⟨w.heap.size, 5, none⟩ = some (.slice none 0 0) := o_c.cell 5
  have qc_6 : w1.cell? ⟨w.heap.size, 6, none⟩ = some (.slice none 0 0) := o_c.cell 6
  go_wp2
  go_ret
  exact ⟨rfl, hbw⟩
set_option maxRecDepth 100000 in
set_option maxHeartbeats 1000000 in
theorem findText_0 (aA tA rA : Option Addr) (an aC tn tC rn rC gx cx : Nat) (hcx : 1 ≤ cx) (w : World) (hx : Rd w (some ⟨gx, 0, none⟩) [.string ⟨#[116]⟩, .int .i64 0, .int .i64 2, .slice none 0 0]) : Calls Tryz.prog 83 #[.agg #[.slice aA an aC, .slice tA tn tC, .slice (some ⟨gx, 0, none⟩) 1 cx, .slice rA rn rC, .slice none 0 0, .slice none 0 0, .slice none 0 0], .string ⟨#[116]⟩] w fun e w' => e = .returned (.int .i64 0) ∧ Below w.heap.size w w' := by
  obtain ⟨o_c, hbw⟩ := new1 w [.slice aA an aC, .slice tA tn tC, .slice (some ⟨gx, 0, none⟩) 1 cx, .slice rA rn rC, .slice none 0 0, .slice none 0 0, .slice none 0 0] 30
  replace hx := hx.below hbw
  go_enter Tryz.func83, Tryz.ntmps83
  go_upto_region 1 with (fail)
  generalize (w.alloc (.cells #[.slice aA an aC, .slice tA tn tC, .slice (some ⟨gx, 0, none⟩) 1 cx, .slice rA rn rC, .slice none 0 0, .slice none 0 0, .slice none 0 0] 30)) = wb at o_c hbw hx ⊢
  have qc_0 : wb.cell? ⟨w.heap.size, 0, none⟩ = some (.slice aA an aC) := o_c.cell 0
  have qc_1 : wb.cell? ⟨w.heap.size, 1, none⟩ = some (.slice tA tn tC) := o_c.cell 1
  have qc_2 : wb.cell? ⟨w.heap.size, 2, none⟩ = some (.slice (some ⟨gx, 0, none⟩) 1 cx) := o_c.cell 2
  have qc_3 : wb.cell? ⟨w.heap.size, 3, none⟩ = some (.slice rA rn rC) := o_c.cell 3
  have qc_4 : wb.cell? ⟨w.heap.size, 4, none⟩ = some (.slice none 0 0) := o_c.cell 4
  have qc_5 : wb.cell? ⟨w.heap.size, 5, none⟩ = some (.slice none 0 0) := o_c.cell 5
  have qc_6 : wb.cell? ⟨w.heap.size, 6, none⟩ = some (.slice none 0 0) := o_c.cell 6
  go_wp2_with fail
  clear qc_0 qc_1 qc_2 qc_3 qc_4 qc_5 qc_6
  refine wp_loop_rounds 2 ?_
  rw [rounds_succ]
  have x0 : wb.cell? ⟨gx, 0, none⟩ = some (.string ⟨#[116]⟩) := hx.c9 0 rfl
  have x1 : wb.cell? ⟨gx, 1, none⟩ = some (.int .i64 0) := hx.c9 1 rfl
  have x2 : wb.cell? ⟨gx, 2, none⟩ = some (.int .i64 2) := hx.c9 2 rfl
  have x3 : wb.cell? ⟨gx, 3, none⟩ = some (.slice none 0 0) := hx.c9 3 rfl
  obtain ⟨o_a, hz1⟩ := new1 wb [.string ⟨#[116]⟩, .int .i64 0, .int .i64 2, .slice none 0 0] 71
  replace o_c := o_c.alloc (.cells #[.string ⟨#[116]⟩, .int .i64 0, .int .i64 2, .slice none 0 0] 71)
  replace hx := hx.below hz1
  replace hbw := below6 hbw hz1
  clear hz1
  go_upto_region 4 with (fail)
  generalize (wb.alloc (.cells #[.string ⟨#[116]⟩, .int .i64 0, .int .i64 2, .slice none 0 0] 71)) = wa2 at o_c o_a hbw hx ⊢
  generalize wb.heap.size = g2 at o_a ⊢
  clear x0 x1 x2 x3
  have qa_0 : wa2.cell? ⟨g2, 0, none⟩ = some (.string ⟨#[116]⟩) := o_a.cell 0
  have qa_1 : wa2.cell? ⟨g2, 1, none⟩ = some (.int .i64 0) := o_a.cell 1
  have qa_2 : wa2.cell? ⟨g2, 2, none⟩ = some (.int .i64 2) := o_a.cell 2
  have qa_3 : wa2.cell? ⟨g2, 3, none⟩ = some (.slice none 0 0) := o_a.cell 3
  go_wp2
  go_ret
  exact ⟨rfl, hbw⟩
end Go.Proofs.YtfenjklilocjgaaGreatDoor
