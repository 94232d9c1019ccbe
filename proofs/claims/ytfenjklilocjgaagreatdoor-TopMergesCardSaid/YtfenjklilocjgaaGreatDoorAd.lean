/- Parts of the proof: Ad. No condition of its own. -/
import Derived.Test.YtfenjklilocjgaaGreatDoorAc
set_option linter.unusedSimpArgs false
set_option linter.unusedVariables false
set_option linter.unusedSectionVars false
namespace Go.Proofs.YtfenjklilocjgaaGreatDoor
set_option linter.unusedSimpArgs false
set_option linter.unusedVariables false
set_option linter.unusedSectionVars false
open Go.RowKit Dg

set_option maxRecDepth 100000 in
set_option maxHeartbeats 1000000 in
theorem texts_nil (aA rA : Option Addr) (an aC rn rC : Nat) : RetV 45 #[.agg #[.slice aA an aC, .slice none 0 0, .slice none 0 0, .slice rA rn rC, .slice none 0 0, .slice none 0 0, .slice none 0 0]] (.tuple #[.int .i64 0, .int .i64 0]) := by
  intro w
  obtain ⟨o_c, hbw⟩ := new1 w [.slice aA an aC, .slice none 0 0, .slice none 0 0, .slice rA rn rC, .slice none 0 0, .slice none 0 0, .slice none 0 0] 30
  go_enter Tryz.func45, Tryz.ntmps45
  go_upto_region 1 with (fail)
  generalize (w.alloc (.cells #[.slice aA an aC, .slice none 0 0, .slice none 0 0, .slice rA rn rC, .slice none 0 0, .slice none 0 0, .slice none 0 0] 30)) = wb at o_c hbw ⊢
  have qc_0 : wb.cell? ⟨w.heap.size, 0, none⟩ = some (.slice aA an aC) := o_c.cell 0
  have qc_1 : wb.cell? ⟨w.heap.size, 1, none⟩ = some (.slice none 0 0) := o_c.cell 1
  have qc_2 : wb.cell? ⟨w.heap.size, 2, none⟩ = some (.slice none 0 0) := o_c.cell 2
  have qc_3 : wb.cell? ⟨w.heap.size, 3, none⟩ = some (.slice rA rn rC) := o_c.cell 3
  have qc_4 : wb.cell? ⟨w.heap.size, 4, none⟩ = some (.slice none 0 0) := o_c.cell 4
  have qc_5 : wb.cell? ⟨w.heap.size, 5, none⟩ = some (.slice none 0 0) := o_c.cell 5
  have qc_6 : wb.cell? ⟨w.heap.size, 6, none⟩ = some (.slice none 0 0) := o_c.cell 6
  go_wp2_with fail
  clear qc_0 qc_1 qc_2 qc_3 qc_4 qc_5 qc_6
  refine wp_loop_rounds 1 ?_
  rw [rounds_succ]
  go_wp2
  go_ret2
  exact ⟨rfl, hbw⟩
set_option maxRecDepth 100000 in
set_option maxHeartbeats 1000000 in
theorem texts_one (aA tA rA : Option Addr) (an aC tC rn rC gx cx : Nat) (hcx : 1 ≤ cx) (w : World) (hx : Rd w (some ⟨gx, 0, none⟩) [.string ⟨#[116]⟩, .int .i64 0, .int .i64 2, .slice none 0 0]) : Calls Tryz.prog 45 #[.agg #[.slice aA an aC, .slice tA 2 tC, .slice (some ⟨gx, 0, none⟩) 1 cx, .slice rA rn rC, .slice none 0 0, .slice none 0 0, .slice none 0 0]] w fun e w' => e = .returned (.tuple #[.int .i64 0, .int .i64 0]) ∧ Below w.heap.size w w' := by
  obtain ⟨o_c, hbw⟩ := new1 w [.slice aA an aC, .slice tA 2 tC, .slice (some ⟨gx, 0, none⟩) 1 cx, .slice rA rn rC, .slice none 0 0, .slice none 0 0, .slice none 0 0] 30
  replace hx := hx.below hbw
  go_enter Tryz.func45, Tryz.ntmps45
  go_upto_region 1 with (fail)
  generalize (w.alloc (.cells #[.slice aA an aC, .slice tA 2 tC, .slice (some ⟨gx, 0, none⟩) 1 cx, .slice rA rn rC, .slice none 0 0, .slice none 0 0, .slice none 0 0] 30)) = wb at o_c hbw hx ⊢
  have qc_0 : wb.cell? ⟨w.heap.size, 0, none⟩ = some (.slice aA an aC) := o_c.cell 0
  have qc_1 : wb.cell? ⟨w.heap.size, 1, none⟩ = some (.slice tA 2 tC) := o_c.cell 1
  have qc_2 : wb.cell? ⟨w.heap.size, 2, none⟩ = some (.slice (some ⟨gx, 0, none⟩) 1 cx) := o_c.cell 2
  have qc_3 : wb.cell? ⟨w.heap.size, 3, none⟩ = some (.slice rA rn rC) := o_c.cell 3
  have qc_4 : wb.cell? ⟨w.heap.size, 4, none⟩ = some (.slice none 0 0) := o_c.cell 4
  have qc_5 : wb.cell? ⟨w.heap.size, 5, none⟩ = some (.slice none 0 0) := o_c.cell 5
  have qc_6 : wb.cell? ⟨w.heap.size, 6, none⟩ = some (.slice none 0 0) := o_c.cell 6
  go_wp2_with fail
  clear qc_0 qc_1 qc_2 qc_3 qc_4 qc_5 qc_6
  refine wp_loop_rounds 2 ?_
  rw [rounds_succ]
  have x0 : wb.cell? ⟨gx, 0, none⟩ = some (.string ⟨#[116]⟩) := hx.c9 0 rfl
  have x1 : wb.cell? ⟨gx, 1, none⟩ = some (.int .i64 0) := hx.c9 1 rfl
  have x2 : wb.cell? ⟨gx, 2, none⟩ = some (.int .i64 2) := hx.c9 2 rfl
  have x3 : wb.cell? ⟨gx, 3, none⟩ = some (.slice none 0 0) := hx.c9 3 rfl
  obtain ⟨o_a, hz1⟩ := new1 wb [.string ⟨#[116]⟩, .int .i64 0, .int .i64 2, .slice none 0 0] 71
  replace o_c := o_c.alloc (.cells #[.string ⟨#[116]⟩, .int .i64 0, .int .i64 2, .slice none 0 0] 71)
  replace hx := hx.below hz1
  replace hbw := below6 hbw hz1
  clear hz1
  go_upto_region 9 with (fail)
  generalize (wb.alloc (.cells #[.string ⟨#[116]⟩, .int .i64 0, .int .i64 2, .slice none 0 0] 71)) = wa2 at o_c o_a hbw hx ⊢
  generalize wb.heap.size = g2 at o_a ⊢
  clear x0 x1 x2 x3
  have qa_0 : wa2.cell? ⟨g2, 0, none⟩ = some (.string ⟨#[116]⟩) := o_a.cell 0
  have qa_1 : wa2.cell? ⟨g2, 1, none⟩ = some (.int .i64 0) := o_a.cell 1
  have qa_2 : wa2.cell? ⟨g2, 2, none⟩ = some (.int .i64 2) := o_a.cell 2
  have qa_3 : wa2.cell? ⟨g2, 3, none⟩ = some (.slice none 0 0) := o_a.cell 3
  go_wp2_with fail
  clear qa_0 qa_1 qa_2 qa_3
  refine (vn_t _).mono ?_
  rintro e w3 ⟨rfl, hb3⟩
  replace o_c := o_c.below hb3 o_c.lt
  replace o_a := o_a.below hb3 o_a.lt
  replace hx := hx.below hb3
  replace hbw := below6 hbw hb3
  clear hb3
  have qa_0 : w3.cell? ⟨g2, 0, none⟩ = some (.string ⟨#[116]⟩) := o_a.cell 0
  have qa_1 : w3.cell? ⟨g2, 1, none⟩ = some (.int .i64 0) := o_a.cell 1
  have qa_2 : w3.cell? ⟨g2, 2, none⟩ = some (.int .i64 2) := o_a.cell 2
  have qa_3 : w3.cell? ⟨g2, 3, none⟩ = some (.slice none 0 0) := o_a.cell 3
  have qc_0 : w3.cell? ⟨w.heap.size, 0, none⟩ = some (.slice aA an aC) := o_c.cell 0
  have qc_1 : w3.cell? ⟨w.heap.size, 1, none⟩ = some (.slice tA 2 tC) := o_c.cell 1
  have qc_2 : w3.cell? ⟨w.heap.size, 2, none⟩ = some (.slice (some ⟨gx, 0, none⟩) 1 cx) := o_c.cell 2
  have qc_3 : w3.cell? ⟨w.heap.size, 3, none⟩ = some (.slice rA rn rC) := o_c.cell 3
  have qc_4 : w3.cell? ⟨w.heap.size, 4, none⟩ = some (.slice none 0 0) := o_c.cell 4
  have qc_5 : w3.cell? ⟨w.heap.size, 5, none⟩ = some (.slice none 0 0) := o_c.cell 5
  have qc_6 : w3.cell? ⟨w.heap.size, 6, none⟩ = some (.slice none 0 0) := o_c.cell 6
  go_wp2_with fail
  clear qa_0 qa_1 qa_2 qa_3 qc_0 qc_1 qc_2 qc_3 qc_4 qc_5 qc_6
  refine (findText_0 aA tA rA an aC 2 tC rn rC gx cx hcx _ hx).mono ?_
  rintro e w4 ⟨rfl, hb4⟩
  replace o_c := o_c.below hb4 o_c.lt
  replace o_a := o_a.below hb4 o_a.lt
  replace hx := hx.below hb4
  replace hbw := below6 hbw hb4
  clear hb4
  have qa_0 : w4.cell? ⟨g2, 0, none⟩ = some (.string ⟨#[116]⟩) := o_a.cell 0
  have qa_1 : w4.cell? ⟨g2, 1, none⟩ = some (.int .i64 0) := o_a.cell 1
  have qa_2 : w4.cell? ⟨g2, 2, none⟩ = some (.int .i64 2) := o_a.cell 2
  have qa_3 : w4.cell? ⟨g2, 3, none⟩ = some (.slice none 0 0) := o_a.cell 3
  have qc_0 : w4.cell? ⟨w.heap.size, 0, none⟩ = some (.slice aA an aC) := o_c.cell 0
  have qc_1 : w4.cell? ⟨w.heap.size, 1, none⟩ = some (.slice tA 2 tC) := o_c.cell 1
  have qc_2 : w4.cell? ⟨w.heap.size, 2, none⟩ = some (.slice (some ⟨gx, 0, none⟩) 1 cx) := o_c.cell 2
  have qc_3 : w4.cell? ⟨w.heap.size, 3, none⟩ = some (.slice rA rn rC) := o_c.cell 3
  have qc_4 : w4.cell? ⟨w.heap.size, 4, none⟩ = some (.slice none 0 0) := o_c.cell 4
  have qc_5 : w4.cell? ⟨w.heap.size, 5, none⟩ = some (.slice none 0 0) := o_c.cell 5
  have qc_6 : w4.cell? ⟨w.heap.size, 6, none⟩ = some (.slice none 0 0) := o_c.cell 6
  go_wp2_with fail
  clear qa_0 qa_1 qa_2 qa_3 qc_0 qc_1 qc_2 qc_3 qc_4 qc_5 qc_6
  refine (perr_nil _).mono ?_
  rintro e w5 ⟨rfl, hb5⟩
  replace o_c := o_c.below hb5 o_c.lt
  replace o_a := o_a.below hb5 o_a.lt
  replace hx := hx.below hb5
  replace hbw := below6 hbw hb5
  clear hb5
  have qa_0 : w5.cell? ⟨g2, 0, none⟩ = some (.string ⟨#[116]⟩) := o_a.cell 0
  have qa_1 : w5.cell? ⟨g2, 1, none⟩ = some (.int .i64 0) := o_a.cell 1
  have qa_2 : w5.cell? ⟨g2, 2, none⟩ = some (.int .i64 2) := o_a.cell 2
  have qa_3 : w5.cell? ⟨g2, 3, none⟩ = some (.slice none 0 0) := o_a.cell 3
  have qc_0 : w5.cell? ⟨w.heap.size, 0, none⟩ = some (.slice aA an aC) := o_c.cell 0
  have qc_1 : w5.cell? ⟨w.heap.size, 1, none⟩ = some (.slice tA 2 tC) := o_c.cell 1
  have qc_2 : w5.cell? ⟨w.heap.size, 2, none⟩ = some (.slice (some ⟨gx, 0, none⟩) 1 cx) := o_c.cell 2
  have qc_3 : w5.cell? ⟨w.heap.size, 3, none⟩ = some (.slice rA rn rC) := o_c.cell 3
  have qc_4 : w5.cell? ⟨w.heap.size, 4, none⟩ = some (.slice none 0 0) := o_c.cell 4
  have qc_5 : w5.cell? ⟨w.heap.size, 5, none⟩ = some (.slice none 0 0) := o_c.cell 5
  have qc_6 : w5.cell? ⟨w.heap.size, 6, none⟩ = some (.slice none 0 0) := o_c.cell 6
  go_wp2_with fail
  clear qa_0 qa_1 qa_2 qa_3 qc_0 qc_1 qc_2 qc_3 qc_4 qc_5 qc_6
  rw [rounds_succ]
  go_wp2
  go_ret2
  exact ⟨rfl, hbw⟩
set_option maxRecDepth 100000 in
set_option maxHeartbeats 1000000 in
theorem regions_nil (aA tA xA : Option Addr) (an aC tn tC xn xC : Nat) : RetV 46 #[.agg #[.slice aA an aC, .slice tA tn tC, .slice xA xn xC, .slice none 0 0, .slice none 0 0, .slice none 0 0, .slice none 0 0]] (.tuple #[.int .i64 0, .int .i64 0]) := by
  intro w
  obtain ⟨o_c, hbw⟩ := new1 w [.slice aA an aC, .slice tA tn tC, .slice xA xn xC, .slice none 0 0, .slice none 0 0, .slice none 0 0, .slice none 0 0] 30
  go_enter Tryz.func46, Tryz.ntmps46
  go_upto_region 1 with (fail)
  generalize (w.alloc (.cells #[.slice aA an aC, .slice tA tn tC, .slice xA xn xC, .slice none 0 0, .slice none 0 0, .slice none 0 0, .slice none 0 0] 30)) = wb at o_c hbw ⊢
  have qc_0 : wb.cell? ⟨w.heap.size, 0, none⟩ = some (.slice aA an aC) := o_c.cell 0
  have qc_1 : wb.cell? ⟨w.heap.size, 1, none⟩ = some (.slice tA tn tC) := o_c.cell 1
  have qc_2 : wb.cell? ⟨w.heap.size, 2, none⟩ = some (.slice xA xn xC) := o_c.cell 2
  have qc_3 : wb.cell? ⟨w.heap.size, 3, none⟩ = some (.slice none 0 0) := o_c.cell 3
  have qc_4 : wb.cell? ⟨w.heap.size, 4, none⟩ = some (.slice none 0 0) := o_c.cell 4
  have qc_5 : wb.cell? ⟨w.heap.size, 5, none⟩ = some (.slice none 0 0) := o_c.cell 5
  have qc_6 : wb.cell? ⟨w.heap.size, 6, none⟩ = some (.slice none 0 0) := o_c.cell 6
  go_wp2_with fail
  clear qc_0 qc_1 qc_2 qc_3 qc_4 qc_5 qc_6
  refine wp_loop_rounds 1 ?_
  rw [rounds_succ]
  go_wp2
  go_ret2
  exact ⟨rfl, hbw⟩
set_option maxRecDepth 100000 in
set_option maxHeartbeats 1000000 in
theorem regions_one (aA tA : Option Addr) (an aC tn tC gx cx gr cr : Nat) (hcx : 1 ≤ cx) (hcr : 1 ≤ cr) (w : World) (hx : Rd w (some ⟨gx, 0, none⟩) [.string ⟨#[116]⟩, .int .i64 0, .int .i64 2, .slice none 0 0]) (hr : Rd w (some ⟨gr, 0, none⟩) [.string ⟨#[115]⟩, .int .i64 0, .int .i64 1, .slice none 0 0]) : Calls Tryz.prog 46 #[.agg #[.slice aA an aC, .slice tA tn tC, .slice (some ⟨gx, 0, none⟩) 1 cx, .slice (some ⟨gr, 0, none⟩) 1 cr, .slice none 0 0, .slice none 0 0, .slice none 0 0]] w fun e w' => e = .returned (.tuple #[.int .i64 0, .int .i64 0]) ∧ Below w.heap.size w w' := by
  obtain ⟨o_c, hbw⟩ := new1 w [.slice aA an aC, .slice tA tn tC, .slice (some ⟨gx, 0, none⟩) 1 cx, .slice (some ⟨gr, 0, none⟩) 1 cr, .slice none 0 0, .slice none 0 0, .slice none 0 0] 30
  replace hx := hx.below hbw
  replace hr := hr.below hbw
  go_enter Tryz.func46, Tryz.ntmps46
  go_upto_region 1 with (fail)
  generalize (w.alloc (.cells #[.slice aA an aC, .slice tA tn tC, .slice (some ⟨gx, 0, none⟩) 1 cx, .slice (some ⟨gr, 0, none⟩) 1 cr, .slice none 0 0, .slice none 0 0, .slice none 0 0] 30)) = wb at o_c hbw hx hr ⊢
  have qc_0 : wb.cell? ⟨w.heap.size, 0, none⟩ = some (.slice aA an aC) := o_c.cell 0
  have qc_1 : wb.cell? ⟨w.heap.size, 1, none⟩ = some (.slice tA tn tC) := o_c.cell 1
  have qc_2 : wb.cell? ⟨w.heap.size, 2, none⟩ = some (.slice (some ⟨gx, 0, none⟩) 1 cx) := o_c.cell 2
  have qc_3 : wb.cell? ⟨w.heap.size, 3, none⟩ = some (.slice (some ⟨gr, 0, none⟩) 1 cr) := o_c.cell 3
  have qc_4 : wb.cell? ⟨w.heap.size, 4, none⟩ = some (.slice none 0 0) := o_c.cell 4
  have qc_5 : wb.cell? ⟨w.heap.size, 5, none⟩ = some (.slice none 0 0) := o_c.cell 5
  have qc_6 : wb.cell? ⟨w.heap.size, 6, none⟩ = some (.slice none 0 0) := o_c.cell 6
  go_wp2_with fail
  clear qc_0 qc_1 qc_2 qc_3 qc_4 qc_5 qc_6
  refine wp_loop_rounds 2 ?_
  rw [rounds_succ]
  have x0 : wb.cell? ⟨gr, 0, none⟩ = some (.string ⟨#[115]⟩) := hr.c9 0 rfl
  have x1 : wb.cell? ⟨gr, 1, none⟩ = some (.int .i64 0) := hr.c9 1 rfl
  have x2 : wb.cell? ⟨gr, 2, none⟩ = some (.int .i64 1) := hr.c9 2 rfl
  have x3 : wb.cell? ⟨gr, 3, none⟩ = some (.slice none 0 0) := hr.c9 3 rfl
  obtain ⟨o_a, hz1⟩ := new1 wb [.string ⟨#[115]⟩, .int .i64 0, .int .i64 1, .slice none 0 0] 69
  replace o_c := o_c.alloc (.cells #[.string ⟨#[115]⟩, .int .i64 0, .int .i64 1, .slice none 0 0] 69)
  replace hx := hx.below hz1
  replace hr := hr.below hz1
  replace hbw := below6 hbw hz1
  clear hz1
  go_upto_region 7 with (fail)
  generalize (wb.alloc (.cells #[.string ⟨#[115]⟩, .int .i64 0, .int .i64 1, .slice none 0 0] 69)) = wa2 at o_c o_a hbw hx hr ⊢
  generalize wb.heap.size = g2 at o_a ⊢
  clear x0 x1 x2 x3
  have qa_0 : wa2.cell? ⟨g2, 0, none⟩ = some (.string ⟨#[115]⟩) := o_a.cell 0
  have qa_1 : wa2.cell? ⟨g2, 1, none⟩ = some (.int .i64 0) := o_a.cell 1
  have qa_2 : wa2.cell? ⟨g2, 2, none⟩ = some (.int .i64 1) := o_a.cell 2
  have qa_3 : wa2.cell? ⟨g2, 3, none⟩ = some (.slice none 0 0) := o_a.cell 3
  go_wp2_with fail
  clear qa_0 qa_1 qa_2 qa_3
  refine (vn_s _).mono ?_
  rintro e w3 ⟨rfl, hb3⟩
  replace o_c := o_c.below hb3 o_c.lt
  replace o_a := o_a.below hb3 o_a.lt
  replace hx := hx.below hb3
  replace hr := hr.below hb3
  replace hbw := below6 hbw hb3
  clear hb3
  have qa_0 : w3.cell? ⟨g2, 0, none⟩ = some (.string ⟨#[115]⟩) := o_a.cell 0
  have qa_1 : w3.cell? ⟨g2, 1, none⟩ = some (.int .i64 0) := o_a.cell 1
  have qa_2 : w3.cell? ⟨g2, 2, none⟩ = some (.int .i64 1) := o_a.cell 2
  have qa_3 : w3.cell? ⟨g2, 3, none⟩ = some (.slice none 0 0) := o_a.cell 3
  have qc_0 : w3.cell? ⟨w.heap.size, 0, none⟩ = some (.slice aA an aC) := o_c.cell 0
  have qc_1 : w3.cell? ⟨w.heap.size, 1, none⟩ = some (.slice tA tn tC) := o_c.cell 1
  have qc_2 : w3.cell? ⟨w.heap.size, 2, none⟩ = some (.slice (some ⟨gx, 0, none⟩) 1 cx) := o_c.cell 2
  have qc_3 : w3.cell? ⟨w.heap.size, 3, none⟩ = some (.slice (some ⟨gr, 0, none⟩) 1 cr) := o_c.cell 3
  have qc_4 : w3.cell? ⟨w.heap.size, 4, none⟩ = some (.slice none 0 0) := o_c.cell 4
  have qc_5 : w3.cell? ⟨w.heap.size, 5, none⟩ = some (.slice none 0 0) := o_c.cell 5
  have qc_6 : w3.cell? ⟨w.heap.size, 6, none⟩ = some (.slice none 0 0) := o_c.cell 6
  go_wp2_with fail
  clear qa_0 qa_1 qa_2 qa_3 qc_0 qc_1 qc_2 qc_3 qc_4 qc_5 qc_6
  refine (inText_01 aA tA (some ⟨gr, 0, none⟩) an aC tn tC 1 cr gx cx hcx _ hx).mono ?_
  rintro e w4 ⟨rfl, hb4⟩
  replace o_c := o_c.below hb4 o_c.lt
  replace o_a := o_a.below hb4 o_a.lt
  replace hx := hx.below hb4
  replace hr := hr.below hb4
  replace hbw := below6 hbw hb4
  clear hb4
  have qa_0 : w4.cell? ⟨g2, 0, none⟩ = some (.string ⟨#[115]⟩) := o_a.cell 0
  have qa_1 : w4.cell? ⟨g2, 1, none⟩ = some (.int .i64 0) := o_a.cell 1
  have qa_2 : w4.cell? ⟨g2, 2, none⟩ = some (.int .i64 1) := o_a.cell 2
  have qa_3 : w4.cell? ⟨g2, 3, none⟩ = some (.slice none 0 0) := o_a.cell 3
  go_wp2_with fail
  clear qa_0 qa_1 qa_2 qa_3
  refine (perr_nil _).mono ?_
  rintro e w5 ⟨rfl, hb5⟩
  replace o_c := o_c.below hb5 o_c.lt
  replace o_a := o_a.below hb5 o_a.lt
  replace hx := hx.below hb5
  replace hr := hr.below hb5
  replace hbw := below6 hbw hb5
  clear hb5
  go_upto_region 14 with (fail)
  refine wp_reg_f [some 47, some 48, some 49, some 50, some 51, some 52, some 53, some 54, some 55, some 56, some 57, some 58, some 59] [?v1_0, ?v1_1, ?v1_2, ?v1_3, ?v1_4, ?v1_5, ?v1_6, ?v1_7, ?v1_8, ?v1_9, ?v1_10, ?v1_11, ?v1_12] [[], [0], [1], [2], [2, 3], [2], [2, 5], [2, 4, 6], [2, 7], [2], [2, 8, 9], [2, 10], [2, 11]] [(1, _), (5, _), (6, _)] ⟨rfl, rfl, rfl, trivial⟩ rfl (by kernel_rfl) rfl rfl (by kernel_rfl) (by kernel_rfl) ⟨?s1_0, ?s1_1, ?s1_2, ?s1_3, ?s1_4, ?s1_5, ?s1_6, ?s1_7, ?s1_8, ?s1_9, ?s1_10, ?s1_11, ?s1_12, trivial⟩ ?p1
  all_goals try (intro t9 w9 hT9 K9 hK9; simp only [OV, FV, List.getD_cons_succ, List.getD_cons_zero, Option.getD_some]; intros)
  case s1_0 | s1_1 | s1_2 | s1_3 | s1_4 | s1_5 | s1_6 | s1_7 | s1_8 | s1_9 | s1_10 | s1_11 | s1_12 =>
    go_simp
    exact hK9 _ (Grow.refl _)
  intro w9 hb9
  simp only [putL, Act.put, List.setIfInBounds_toArray, List.set_cons_succ, List.set_cons_zero]
  replace o_c := o_c.below hb9 o_c.lt
  replace o_a := o_a.below hb9 o_a.lt
  replace hx := hx.below hb9
  replace hr := hr.below hb9
  replace hbw := below6 hbw hb9
  clear hb9
  go_wp2_with fail
  refine wp_loop_rounds 1 ?_
  rw [rounds_succ]
  go_wp2_with fail
  refine wp_loop_rounds 1 ?_
  rw [rounds_succ]
  go_upto_region 29 with (fail)
  have qa_0 : w9.cell? ⟨g2, 0, none⟩ = some (.string ⟨#[115]⟩) := o_a.cell 0
  have qa_1 : w9.cell? ⟨g2, 1, none⟩ = some (.int .i64 0) := o_a.cell 1
  have qa_2 : w9.cell? ⟨g2, 2, none⟩ = some (.int .i64 1) := o_a.cell 2
  have qa_3 : w9.cell? ⟨g2, 3, none⟩ = some (.slice none 0 0) := o_a.cell 3
  obtain ⟨i0, hi0, hz0, hz1, hz2⟩ := info_parts region_info
  have h63 : 0 + 1 ≤ maxLen := by unfold maxLen; omega
  have HOW := Lib.hid (World.ownsRow_nil w9 w9.heap.size 69 4)
  go_wp2_with (at_builtin; refine wpList_append_own_at _ rfl (.tmp 95) (.tmp 97) 25 rfl w9.heap.size 69 i0 _ 4 56 Tryz.underlying25 hi0 hz0 hz1 hz2 rfl (by decide) _ 0 [] rfl (HOW.out.alloc _) ⟨w9.heap.size, 0, none⟩ 1 1 [.string ⟨#[115]⟩, .int .i64 0, .int .i64 1, .slice none 0 0] rfl rfl (new_cells _ _ _ _ rfl) (by simp [Value.oneCell']) h63 (by omega) (by rw [size1]; omega) ?_)
  intro v' wf hown' hgrow _ hat
  have hbv : Below w9.heap.size w9 wf := ((Below.refl w9.heap.size w9).alloc (Nat.le_refl _) _).grown hgrow (by rw [size1]; omega) (own_lt (World.ownsRow_nil w9 w9.heap.size 69 4))
  replace o_c := o_c.below hbv o_c.lt
  replace hbw := below6 hbw hbv
  obtain ⟨gv, cv, rfl, -, -⟩ := hown'.form (by decide)
  clear hbv hgrow hat HOW hown' o_a hx hr qa_0 qa_1 qa_2 qa_3
  go_wp2_with fail
  rw [rounds_succ]
  go_wp2
  go_ret2
  exact ⟨rfl, hbw⟩
set_option maxRecDepth 100000 in
set_option maxHeartbeats 1000000 in
theorem validate_attrs (ga ca : Nat) (hca : 1 ≤ ca) (w : World) (hr : Rd w (some ⟨ga, 0, none⟩) [.string ⟨#[119, 111, 114, 100]⟩, .bool false]) : Calls Tryz.prog 23 #[.agg #[.slice (some ⟨ga, 0, none⟩) 1 ca, .slice none 0 0, .slice none 0 0, .slice none 0 0, .slice none 0 0, .slice none 0 0, .slice none 0 0]] w fun e w' => e = .returned (.tuple #[.int .i64 0, .int .i64 0, .int .i64 0]) ∧ Below w.heap.size w w' := by
  obtain ⟨o_c, hbw⟩ := new1 w [.slice (some ⟨ga, 0, none⟩) 1 ca, .slice none 0 0, .slice none 0 0, .slice none 0 0, .slice none 0 0, .slice none 0 0, .slice none 0 0] 30
  replace hr := hr.below hbw
  go_enter Tryz.func23, Tryz.ntmps23
  go_upto_region 1 with (fail)
  generalize (w.alloc (.cells #[.slice (some ⟨ga, 0, none⟩) 1 ca, .slice none 0 0, .slice none 0 0, .slice none 0 0, .slice none 0 0, .slice none 0 0, .slice none 0 0] 30)) = wb at o_c hbw hr ⊢
  obtain ⟨o_f, hz1⟩ := new1 wb [.func (.func 43) #[] #[], .func (.func 44) #[] #[], .func (.func 45) #[] #[], .func (.func 46) #[] #[], .func (.func 47) #[] #[], .func (.func 48) #[] #[]] 101
  replace o_c := o_c.alloc (.cells #[.func (.func 43) #[] #[], .func (.func 44) #[] #[], .func (.func 45) #[] #[], .func (.func 46) #[] #[], .func (.func 47) #[] #[], .func (.func 48) #[] #[]] 101)
  replace hr := hr.below hz1
  replace hbw := below6 hbw hz1
  clear hz1
  go_upto_region 2 with (fail)
  generalize (wb.alloc (.cells #[.func (.func 43) #[] #[], .func (.func 44) #[] #[], .func (.func 45) #[] #[], .func (.func 46) #[] #[], .func (.func 47) #[] #[], .func (.func 48) #[] #[]] 101)) = wa2 at o_c o_f hbw hr ⊢
  generalize wb.heap.size = g2 at o_f ⊢
  go_wp2_with fail
  refine wp_loop_rounds 7 ?_
  rw [rounds_succ]
  have qc_0 : wa2.cell? ⟨w.heap.size, 0, none⟩ = some (.slice (some ⟨ga, 0, none⟩) 1 ca) := o_c.cell 0
  have qc_1 : wa2.cell? ⟨w.heap.size, 1, none⟩ = some (.slice none 0 0) := o_c.cell 1
  have qc_2 : wa2.cell? ⟨w.heap.size, 2, none⟩ = some (.slice none 0 0) := o_c.cell 2
  have qc_3 : wa2.cell? ⟨w.heap.size, 3, none⟩ = some (.slice none 0 0) := o_c.cell 3
  have qc_4 : wa2.cell? ⟨w.heap.size, 4, none⟩ = some (.slice none 0 0) := o_c.cell 4
  have qc_5 : wa2.cell? ⟨w.heap.size, 5, none⟩ = some (.slice none 0 0) := o_c.cell 5
  have qc_6 : wa2.cell? ⟨w.heap.size, 6, none⟩ = some (.slice none 0 0) := o_c.cell 6
  have qf_0 : wa2.cell? ⟨g2, 0, none⟩ = some (.func (.func 43) #[] #[]) := o_f.cell 0
  have qf_1 : wa2.cell? ⟨g2, 1, none⟩ = some (.func (.func 44) #[] #[]) := o_f.cell 1
  have qf_2 : wa2.cell? ⟨g2, 2, none⟩ = some (.func (.func 45) #[] #[]) := o_f.cell 2
  have qf_3 : wa2.cell? ⟨g2, 3, none⟩ = some (.func (.func 46) #[] #[]) := o_f.cell 3
  have qf_4 : wa2.cell? ⟨g2, 4, none⟩ = some (.func (.func 47) #[] #[]) := o_f.cell 4
  have qf_5 : wa2.cell? ⟨g2, 5, none⟩ = some (.func (.func 48) #[] #[]) := o_f.cell 5
  go_wp2_with fail
  clear qc_0 qc_1 qc_2 qc_3 qc_4 qc_5 qc_6 qf_0 qf_1 qf_2 qf_3 qf_4 qf_5
  refine (attrs_ok none none none 0 0 0 0 0 0 ga ca hca _ hr).mono ?_
  rintro e w3 ⟨rfl, hb3⟩
  replace o_c := o_c.below hb3 o_c.lt
  replace o_f := o_f.below hb3 o_f.lt
  replace hr := hr.below hb3
  replace hbw := below6 hbw hb3
  clear hb3
  go_wp2_with fail
  rw [rounds_succ]
  have qc_0 : w3.cell? ⟨w.heap.size, 0, none⟩ = some (.slice (some ⟨ga, 0, none⟩) 1 ca) := o_c.cell 0
  have qc_1 : w3.cell? ⟨w.heap.size, 1, none⟩ = some (.slice none 0 0) := o_c.cell 1
  have qc_2 : w3.cell? ⟨w.heap.size, 2, none⟩ = some (.slice none 0 0) := o_c.cell 2
  have qc_3 : w3.cell? ⟨w.heap.size, 3, none⟩ = some (.slice none 0 0) := o_c.cell 3
  have qc_4 : w3.cell? ⟨w.heap.size, 4, none⟩ = some (.slice none 0 0) := o_c.cell 4
  have qc_5 : w3.cell? ⟨w.heap.size, 5, none⟩ = some (.slice none 0 0) := o_c.cell 5
  have qc_6 : w3.cell? ⟨w.heap.size, 6, none⟩ = some (.slice none 0 0) := o_c.cell 6
  have qf_0 : w3.cell? ⟨g2, 0, none⟩ = some (.func (.func 43) #[] #[]) := o_f.cell 0
  have qf_1 : w3.cell? ⟨g2, 1, none⟩ = some (.func (.func 44) #[] #[]) := o_f.cell 1
  have qf_2 : w3.cell? ⟨g2, 2, none⟩ = some (.func (.func 45) #[] #[]) := o_f.cell 2
  have qf_3 : w3.cell? ⟨g2, 3, none⟩ = some (.func (.func 46) #[] #[]) := o_f.cell 3
  have qf_4 : w3.cell? ⟨g2, 4, none⟩ = some (.func (.func 47) #[] #[]) := o_f.cell 4
  have qf_5 : w3.cell? ⟨g2, 5, none⟩ = some (.func (.func 48) #[] #[]) := o_f.cell 5
  go_wp2_with fail
  clear qc_0 qc_1 qc_2 qc_3 qc_4 qc_5 qc_6 qf_0 qf_1 qf_2 qf_3 qf_4 qf_5
  refine (tokens_nil none none 0 0 0 0 ga ca _).mono ?_
  rintro e w4 ⟨rfl, hb4⟩
  replace o_c := o_c.below hb4 o_c.lt
  replace o_f := o_f.below hb4 o_f.lt
  replace hr := hr.below hb4
  replace hbw := below6 hbw hb4
  clear hb4
  go_wp2_with fail
  rw [rounds_succ]
  have qc_0 : w4.cell? ⟨w.heap.size, 0, none⟩ = some (.slice (some ⟨ga, 0, none⟩) 1 ca) := o_c.cell 0
  have qc_1 : w4.cell? ⟨w.heap.size, 1, none⟩ = some (.slice none 0 0) := o_c.cell 1
  have qc_2 : w4.cell? ⟨w.heap.size, 2, none⟩ = some (.slice none 0 0) := o_c.cell 2
  have qc_3 : w4.cell? ⟨w.heap.size, 3, none⟩ = some (.slice none 0 0) := o_c.cell 3
  have qc_4 : w4.cell? ⟨w.heap.size, 4, none⟩ = some (.slice none 0 0) := o_c.cell 4
  have qc_5 : w4.cell? ⟨w.heap.size, 5, none⟩ = some (.slice none 0 0) := o_c.cell 5
  have qc_6 : w4.cell? ⟨w.heap.size, 6, none⟩ = some (.slice none 0 0) := o_c.cell 6
  have qf_0 : w4.cell? ⟨g2, 0, none⟩ = some (.func (.func 43) #[] #[]) := o_f.cell 0
  have qf_1 : w4.cell? ⟨g2, 1, none⟩ = some (.func (.func 44) #[] #[]) := o_f.cell 1
  have qf_2 : w4.cell? ⟨g2, 2, none⟩ = some (.func (.func 45) #[] #[]) := o_f.cell 2
  have qf_3 : w4.cell? ⟨g2, 3, none⟩ = some (.func (.func 46) #[] #[]) := o_f.cell 3
  have qf_4 : w4.cell? ⟨g2, 4, none⟩ = some (.func (.func 47) #[] #[]) := o_f.cell 4
  have qf_5 : w4.cell? ⟨g2, 5, none⟩ = some (.func (.func 48) #[] #[]) := o_f.cell 5
  go_wp2_with fail
  clear qc_0 qc_1 qc_2 qc_3 qc_4 qc_5 qc_6 qf_0 qf_1 qf_2 qf_3 qf_4 qf_5
  refine (texts_nil (some ⟨ga, 0, none⟩) none 1 ca 0 0 _).mono ?_
  rintro e w5 ⟨rfl, hb5⟩
  replace o_c := o_c.below hb5 o_c.lt
  replace o_f := o_f.below hb5 o_f.lt
  replace hr := hr.below hb5
  replace hbw := below6 hbw hb5
  clear hb5
  go_wp2_with fail
  rw [rounds_succ]
  have qc_0 : w5.cell? ⟨w.heap.size, 0, none⟩ = some (.slice (some ⟨ga, 0, none⟩) 1 ca) := o_c.cell 0
  have qc_1 : w5.cell? ⟨w.heap.size, 1, none⟩ = some (.slice none 0 0) := o_c.cell 1
  have qc_2 : w5.cell? ⟨w.heap.size, 2, none⟩ = some (.slice none 0 0) := o_c.cell 2
  have qc_3 : w5.cell? ⟨w.heap.size, 3, none⟩ = some (.slice none 0 0) := o_c.cell 3
  have qc_4 : w5.cell? ⟨w.heap.size, 4, none⟩ = some (.slice none 0 0) := o_c.cell 4
  have qc_5 : w5.cell? ⟨w.heap.size, 5, none⟩ = some (.slice none 0 0) := o_c.cell 5
  have qc_6 : w5.cell? ⟨w.heap.size, 6, none⟩ = some (.slice none 0 0) := o_c.cell 6
  have qf_0 : w5.cell? ⟨g2, 0, none⟩ = some (.func (.func 43) #[] #[]) := o_f.cell 0
  have qf_1 : w5.cell? ⟨g2, 1, none⟩ = some (.func (.func 44) #[] #[]) := o_f.cell 1
  have qf_2 : w5.cell? ⟨g2, 2, none⟩ = some (.func (.func 45) #[] #[]) := o_f.cell 2
  have qf_3 : w5.cell? ⟨g2, 3, none⟩ = some (.func (.func 46) #[] #[]) := o_f.cell 3
  have qf_4 : w5.cell? ⟨g2, 4, none⟩ = some (.func (.func 47) #[] #[]) := o_f.cell 4
  have qf_5 : w5.cell? ⟨g2, 5, none⟩ = some (.func (.func 48) #[] #[]) := o_f.cell 5
  go_wp2_with fail
  clear qc_0 qc_1 qc_2 qc_3 qc_4 qc_5 qc_6 qf_0 qf_1 qf_2 qf_3 qf_4 qf_5
  refine (regions_nil (some ⟨ga, 0, none⟩) none none 1 ca 0 0 0 0 _).mono ?_
  rintro e w6 ⟨rfl, hb6⟩
  replace o_c := o_c.below hb6 o_c.lt
  replace o_f := o_f.below hb6 o_f.lt
  replace hr := hr.below hb6
  replace hbw := below6 hbw hb6
  clear hb6
  go_wp2_with fail
  rw [rounds_succ]
  have qc_0 : w6.cell? ⟨w.heap.size, 0, none⟩ = some (.slice (some ⟨ga, 0, none⟩) 1 ca) := o_c.cell 0
  have qc_1 : w6.cell? ⟨w.heap.size, 1, none⟩ = some (.slice none 0 0) := o_c.cell 1
  have qc_2 : w6.cell? ⟨w.heap.size, 2, none⟩ = some (.slice none 0 0) := o_c.cell 2
  have qc_3 : w6.cell? ⟨w.heap.size, 3, none⟩ = some (.slice none 0 0) := o_c.cell 3
  have qc_4 : w6.cell? ⟨w.heap.size, 4, none⟩ = some (.slice none 0 0) := o_c.cell 4
  have qc_5 : w6.cell? ⟨w.heap.size, 5, none⟩ = some (.slice none 0 0) := o_c.cell 5
  have qc_6 : w6.cell? ⟨w.heap.size, 6, none⟩ = some (.slice none 0 0) := o_c.cell 6
  have qf_0 : w6.cell? ⟨g2, 0, none⟩ = some (.func (.func 43) #[] #[]) := o_f.cell 0
  have qf_1 : w6.cell? ⟨g2, 1, none⟩ = some (.func (.func 44) #[] #[]) := o_f.cell 1
  have qf_2 : w6.cell? ⟨g2, 2, none⟩ = some (.func (.func 45) #[] #[]) := o_f.cell 2
  have qf_3 : w6.cell? ⟨g2, 3, none⟩ = some (.func (.func 46) #[] #[]) := o_f.cell 3
  have qf_4 : w6.cell? ⟨g2, 4, none⟩ = some (.func (.func 47) #[] #[]) := o_f.cell 4
  have qf_5 : w6.cell? ⟨g2, 5, none⟩ = some (.func (.func 48) #[] #[]) := o_f.cell 5
  go_wp2_with fail
  clear qc_0 qc_1 qc_2 qc_3 qc_4 qc_5 qc_6 qf_0 qf_1 qf_2 qf_3 qf_4 qf_5
  refine (nodes_ok none none none 0 0 0 0 0 0 ga ca _).mono ?_
  rintro e w7 ⟨rfl, hb7⟩
  replace o_c := o_c.below hb7 o_c.lt
  replace o_f := o_f.below hb7 o_f.lt
  replace hr := hr.below hb7
  replace hbw := below6 hbw hb7
  clear hb7
  go_wp2_with fail
  rw [rounds_succ]
  have qc_0 : w7.cell? ⟨w.heap.size, 0, none⟩ = some (.slice (some ⟨ga, 0, none⟩) 1 ca) := o_c.cell 0
  have qc_1 : w7.cell? ⟨w.heap.size, 1, none⟩ = some (.slice none 0 0) := o_c.cell 1
  have qc_2 : w7.cell? ⟨w.heap.size, 2, none⟩ = some (.slice none 0 0) := o_c.cell 2
  have qc_3 : w7.cell? ⟨w.heap.size, 3, none⟩ = some (.slice none 0 0) := o_c.cell 3
  have qc_4 : w7.cell? ⟨w.heap.size, 4, none⟩ = some (.slice none 0 0) := o_c.cell 4
  have qc_5 : w7.cell? ⟨w.heap.size, 5, none⟩ = some (.slice none 0 0) := o_c.cell 5
  have qc_6 : w7.cell? ⟨w.heap.size, 6, none⟩ = some (.slice none 0 0) := o_c.cell 6
  have qf_0 : w7.cell? ⟨g2, 0, none⟩ = some (.func (.func 43) #[] #[]) := o_f.cell 0
  have qf_1 : w7.cell? ⟨g2, 1, none⟩ = some (.func (.func 44) #[] #[]) := o_f.cell 1
  have qf_2 : w7.cell? ⟨g2, 2, none⟩ = some (.func (.func 45) #[] #[]) := o_f.cell 2
  have qf_3 : w7.cell? ⟨g2, 3, none⟩ = some (.func (.func 46) #[] #[]) := o_f.cell 3
  have qf_4 : w7.cell? ⟨g2, 4, none⟩ = some (.func (.func 47) #[] #[]) := o_f.cell 4
  have qf_5 : w7.cell? ⟨g2, 5, none⟩ = some (.func (.func 48) #[] #[]) := o_f.cell 5
  go_wp2_with fail
  clear qc_0 qc_1 qc_2 qc_3 qc_4 qc_5 qc_6 qf_0 qf_1 qf_2 qf_3 qf_4 qf_5
  refine (heads_ok none none none 0 0 0 0 0 0 ga ca _).mono ?_
  rintro e w8 ⟨rfl, hb8⟩
  replace o_c := o_c.below hb8 o_c.lt
  replace o_f := o_f.below hb8 o_f.lt
  replace hr := hr.below hb8
  replace hbw := below6 hbw hb8
  clear hb8
  go_wp2_with fail
  rw [rounds_succ]
  go_wp2
  go_ret3
  exact ⟨rfl, hbw⟩
set_option maxRecDepth 100000 in
set_option maxHeartbeats 1000000 in
theorem validate_full (ga ca gt ct gx cx gr cr k1 c1 k2 c2 : Nat) (hca : 1 ≤ ca) (hct : 2 ≤ ct) (hcx : 1 ≤ cx) (hcr : 1 ≤ cr) (hc1 : 1 ≤ c1) (hc2 : 1 ≤ c2) (s1 s2 : ByteArray) (w : World) (hr : Rd w (some ⟨ga, 0, none⟩) [.string ⟨#[119, 111, 114, 100]⟩, .bool false]) (ht : Rd w (some ⟨gt, 0, none⟩) [.slice (some ⟨k1, 0, none⟩) 1 c1, .slice (some ⟨k2, 0, none⟩) 1 c2]) (h1 : Rd w (some ⟨k1, 0, none⟩) [.string s1]) (h2 : Rd w (some ⟨k2, 0, none⟩) [.string s2]) (e1 : OneL s1) (e2 : OneL s2) (hx : Rd w (some ⟨gx, 0, none⟩) [.string ⟨#[116]⟩, .int .i64 0, .int .i64 2, .slice none 0 0]) (hq : Rd w (some ⟨gr, 0, none⟩) [.string ⟨#[115]⟩, .int .i64 0, .int .i64 1, .slice none 0 0]) :
    Calls Tryz.prog 23 #[.agg #[.slice (some ⟨ga, 0, none⟩) 1 ca, .slice (some ⟨gt, 0, none⟩) 2 ct, .slice (some ⟨gx, 0, none⟩) 1 cx, .slice (some ⟨gr, 0, none⟩) 1 cr, .slice none 0 0, .slice none 0 0, .slice none 0 0]] w fun e w' => e = .returned (.tuple #[.int .i64 0, .int .i64 0, .int .i64 0]) ∧ Below w.heap.size w w' := by
  obtain ⟨o_c, hbw⟩ := new1 w [.slice (some ⟨ga, 0, none⟩) 1 ca, .slice (some ⟨gt, 0, none⟩) 2 ct, .slice (some ⟨gx, 0, none⟩) 1 cx, .slice (some ⟨gr, 0, none⟩) 1 cr, .slice none 0 0, .slice none 0 0, .slice none 0 0] 30
  replace hr := hr.below hbw
  replace ht := ht.below hbw
  replace h1 := h1.below hbw
  replace h2 := h2.below hbw
  replace hx := hx.below hbw
  replace hq := hq.below hbw
  go_enter Tryz.func23, Tryz.ntmps23
  go_upto_region 1 with (fail)
  generalize (w.alloc (.cells #[.slice (some ⟨ga, 0, none⟩) 1 ca, .slice (some ⟨gt, 0, none⟩) 2 ct, .slice (some ⟨gx, 0, none⟩) 1 cx, .slice (some ⟨gr, 0, none⟩) 1 cr, .slice none 0 0, .slice none 0 0, .slice none 0 0] 30)) = wb at o_c hbw hr ht h1 h2 hx hq ⊢
  obtain ⟨o_f, hz1⟩ := new1 wb [.func (.func 43) #[] #[], .func (.func 44) #[] #[], .func (.func 45) #[] #[], .func (.func 46) #[] #[], .func (.func 47) #[] #[], .func (.func 48) #[] #[]] 101
  replace o_c := o_c.alloc (.cells #[.func (.func 43) #[] #[], .func (.func 44) #[] #[], .func (.func 45) #[] #[], .func (.func 46) #[] #[], .func (.func 47) #[] #[], .func (.func 48) #[] #[]] 101)
  replace hr := hr.below hz1
  replace ht := ht.below hz1
  replace h1 := h1.below hz1
  replace h2 := h2.below hz1
  replace hx := hx.below hz1
  replace hq := hq.below hz1
  replace hbw := below6 hbw hz1
  clear hz1
  go_upto_region 2 with (fail)
  generalize (wb.alloc (.cells #[.func (.func 43) #[] #[], .func (.func 44) #[] #[], .func (.func 45) #[] #[], .func (.func 46) #[] #[], .func (.func 47) #[] #[], .func (.func 48) #[] #[]] 101)) = wa2 at o_c o_f hbw hr ht h1 h2 hx hq ⊢
  generalize wb.heap.size = g2 at o_f ⊢
  go_wp2_with fail
  refine wp_loop_rounds 7 ?_
  rw [rounds_succ]
  have qc_0 : wa2.cell? ⟨w.heap.size, 0, none⟩ = some (.slice (some ⟨ga, 0, none⟩) 1 ca) := o_c.cell 0
  have qc_1 : wa2.cell? ⟨w.heap.size, 1, none⟩ = some (.slice (some ⟨gt, 0, none⟩) 2 ct) := o_c.cell 1
  have qc_2 : wa2.cell? ⟨w.heap.size, 2, none⟩ = some (.slice (some ⟨gx, 0, none⟩) 1 cx) := o_c.cell 2
  have qc_3 : wa2.cell? ⟨w.heap.size, 3, none⟩ = some (.slice (some ⟨gr, 0, none⟩) 1 cr) := o_c.cell 3
  have qc_4 : wa2.cell? ⟨w.heap.size, 4, none⟩ = some (.slice none 0 0) := o_c.cell 4
  have qc_5 : wa2.cell? ⟨w.heap.size, 5, none⟩ = some (.slice none 0 0) := o_c.cell 5
  have qc_6 : wa2.cell? ⟨w.heap.size, 6, none⟩ = some (.slice none 0 0) := o_c.cell 6
  have qf_0 : wa2.cell? ⟨g2, 0, none⟩ = some (.func (.func 43) #[] #[]) := o_f.cell 0
  have qf_1 : wa2.cell? ⟨g2, 1, none⟩ = some (.func (.func 44) #[] #[]) := o_f.cell 1
  have qf_2 : wa2.cell? ⟨g2, 2, none⟩ = some (.func (.func 45) #[] #[]) := o_f.cell 2
  have qf_3 : wa2.cell? ⟨g2, 3, none⟩ = some (.func (.func 46) #[] #[]) := o_f.cell 3
  have qf_4 : wa2.cell? ⟨g2, 4, none⟩ = some (.func (.func 47) #[] #[]) := o_f.cell 4
  have qf_5 : wa2.cell? ⟨g2, 5, none⟩ = some (.func (.func 48) #[] #[]) := o_f.cell 5
  go_wp2_with fail
  clear qc_0 qc_1 qc_2 qc_3 qc_4 qc_5 qc_6 qf_0 qf_1 qf_2 qf_3 qf_4 qf_5
  refine (attrs_ok (some ⟨gt, 0, none⟩) (some ⟨gx, 0, none⟩) (some ⟨gr, 0, none⟩) 2 ct 1 cx 1 cr ga ca hca _ hr).mono ?_
  rintro e w3 ⟨rfl, hb3⟩
  replace o_c := o_c.below hb3 o_c.lt
  replace o_f := o_f.below hb3 o_f.lt
  replace hr := hr.below hb3
  replace ht := ht.below hb3
  replace h1 := h1.below hb3
  replace h2 := h2.below hb3
  replace hx := hx.below hb3
  replace hq := hq.below hb3
  replace hbw := below6 hbw hb3
  clear hb3
  go_wp2_with fail
  rw [rounds_succ]
  have qc_0 : w3.cell? ⟨w.heap.size, 0, none⟩ = some (.slice (some ⟨ga, 0, none⟩) 1 ca) := o_c.cell 0
  have qc_1 : w3.cell? ⟨w.heap.size, 1, none⟩ = some (.slice (some ⟨gt, 0, none⟩) 2 ct) := o_c.cell 1
  have qc_2 : w3.cell? ⟨w.heap.size, 2, none⟩ = some (.slice (some ⟨gx, 0, none⟩) 1 cx) := o_c.cell 2
  have qc_3 : w3.cell? ⟨w.heap.size, 3, none⟩ = some (.slice (some ⟨gr, 0, none⟩) 1 cr) := o_c.cell 3
  have qc_4 : w3.cell? ⟨w.heap.size, 4, none⟩ = some (.slice none 0 0) := o_c.cell 4
  have qc_5 : w3.cell? ⟨w.heap.size, 5, none⟩ = some (.slice none 0 0) := o_c.cell 5
  have qc_6 : w3.cell? ⟨w.heap.size, 6, none⟩ = some (.slice none 0 0) := o_c.cell 6
  have qf_0 : w3.cell? ⟨g2, 0, none⟩ = some (.func (.func 43) #[] #[]) := o_f.cell 0
  have qf_1 : w3.cell? ⟨g2, 1, none⟩ = some (.func (.func 44) #[] #[]) := o_f.cell 1
  have qf_2 : w3.cell? ⟨g2, 2, none⟩ = some (.func (.func 45) #[] #[]) := o_f.cell 2
  have qf_3 : w3.cell? ⟨g2, 3, none⟩ = some (.func (.func 46) #[] #[]) := o_f.cell 3
  have qf_4 : w3.cell? ⟨g2, 4, none⟩ = some (.func (.func 47) #[] #[]) := o_f.cell 4
  have qf_5 : w3.cell? ⟨g2, 5, none⟩ = some (.func (.func 48) #[] #[]) := o_f.cell 5
  go_wp2_with fail
  clear qc_0 qc_1 qc_2 qc_3 qc_4 qc_5 qc_6 qf_0 qf_1 qf_2 qf_3 qf_4 qf_5
  refine (tokens_two (some ⟨gx, 0, none⟩) (some ⟨gr, 0, none⟩) 1 cx 1 cr ga ca gt ct k1 c1 k2 c2 hca hct hc1 hc2 s1 s2 _ hr ht h1 h2 e1 e2).mono ?_
  rintro e w4 ⟨rfl, hb4⟩
  replace o_c := o_c.below hb4 o_c.lt
  replace o_f := o_f.below hb4 o_f.lt
  replace hr := hr.below hb4
  replace ht := ht.below hb4
  replace h1 := h1.below hb4
  replace h2 := h2.below hb4
  replace hx := hx.below hb4
  replace hq := hq.below hb4
  replace hbw := below6 hbw hb4
  clear hb4
  go_wp2_with fail
  rw [rounds_succ]
  have qc_0 : w4.cell? ⟨w.heap.size, 0, none⟩ = some (.slice (some ⟨ga, 0, none⟩) 1 ca) := o_c.cell 0
  have qc_1 : w4.cell? ⟨w.heap.size, 1, none⟩ = some (.slice (some ⟨gt, 0, none⟩) 2 ct) := o_c.cell 1
  have qc_2 : w4.cell? ⟨w.heap.size, 2, none⟩ = some (.slice (some ⟨gx, 0, none⟩) 1 cx) := o_c.cell 2
  have qc_3 : w4.cell? ⟨w.heap.size, 3, none⟩ = some (.slice (some ⟨gr, 0, none⟩) 1 cr) := o_c.cell 3
  have qc_4 : w4.cell? ⟨w.heap.size, 4, none⟩ = some (.slice none 0 0) := o_c.cell 4
  have qc_5 : w4.cell? ⟨w.heap.size, 5, none⟩ = some (.slice none 0 0) := o_c.cell 5
  have qc_6 : w4.cell? ⟨w.heap.size, 6, none⟩ = some (.slice none 0 0) := o_c.cell 6
  have qf_0 : w4.cell? ⟨g2, 0, none⟩ = some (.func (.func 43) #[] #[]) := o_f.cell 0
  have qf_1 : w4.cell? ⟨g2, 1, none⟩ = some (.func (.func 44) #[] #[]) := o_f.cell 1
  have qf_2 : w4.cell? ⟨g2, 2, none⟩ = some (.func (.func 45) #[] #[]) := o_f.cell 2
  have qf_3 : w4.cell? ⟨g2, 3, none⟩ = some (.func (.func 46) #[] #[]) := o_f.cell 3
  have qf_4 : w4.cell? ⟨g2, 4, none⟩ = some (.func (.func 47) #[] #[]) := o_f.cell 4
  have qf_5 : w4.cell? ⟨g2, 5, none⟩ = some (.func (.func 48) #[] #[]) := o_f.cell 5
  go_wp2_with fail
  clear qc_0 qc_1 qc_2 qc_3 qc_4 qc_5 qc_6 qf_0 qf_1 qf_2 qf_3 qf_4 qf_5
  refine (texts_one (some ⟨ga, 0, none⟩) (some ⟨gt, 0, none⟩) (some ⟨gr, 0, none⟩) 1 ca ct 1 cr gx cx hcx _ hx).mono ?_
  rintro e w5 ⟨rfl, hb5⟩
  replace o_c := o_c.below hb5 o_c.lt
  replace o_f := o_f.below hb5 o_f.lt
  replace hr := hr.below hb5
  replace ht := ht.below hb5
  replace h1 := h1.below hb5
  replace h2 := h2.below hb5
  replace hx := hx.below hb5
  replace hq := hq.below hb5
  replace hbw := below6 hbw hb5
  clear hb5
  go_wp2_with fail
  rw [rounds_succ]
  have qc_0 : w5.cell? ⟨w.heap.size, 0, none⟩ = some (.slice (some ⟨ga, 0, none⟩) 1 ca) := o_c.cell 0
  have qc_1 : w5.cell? ⟨w.heap.size, 1, none⟩ = some (.slice (some ⟨gt, 0, none⟩) 2 ct) := o_c.cell 1
  have qc_2 : w5.cell? ⟨w.heap.size, 2, none⟩ = some (.slice (some ⟨gx, 0, none⟩) 1 cx) := o_c.cell 2
  have qc_3 : w5.cell? ⟨w.heap.size, 3, none⟩ = some (.slice (some ⟨gr, 0, none⟩) 1 cr) := o_c.cell 3
  have qc_4 : w5.cell? ⟨w.heap.size, 4, none⟩ = some (.slice none 0 0) := o_c.cell 4
  have qc_5 : w5.cell? ⟨w.heap.size, 5, none⟩ = some (.slice none 0 0) := o_c.cell 5
  have qc_6 : w5.cell? ⟨w.heap.size, 6, none⟩ = some (.slice none 0 0) := o_c.cell 6
  have qf_0 : w5.cell? ⟨g2, 0, none⟩ = some (.func (.func 43) #[] #[]) := o_f.cell 0
  have qf_1 : w5.cell? ⟨g2, 1, none⟩ = some (.func (.func 44) #[] #[]) := o_f.cell 1
  have qf_2 : w5.cell? ⟨g2, 2, none⟩ = some (.func (.func 45) #[] #[]) := o_f.cell 2
  have qf_3 : w5.cell? ⟨g2, 3, none⟩ = some (.func (.func 46) #[] #[]) := o_f.cell 3
  have qf_4 : w5.cell? ⟨g2, 4, none⟩ = some (.func (.func 47) #[] #[]) := o_f.cell 4
  have qf_5 : w5.cell? ⟨g2, 5, none⟩ = some (.func (.func 48) #[] #[]) := o_f.cell 5
  go_wp2_with fail
  clear qc_0 qc_1 qc_2 qc_3 qc_4 qc_5 qc_6 qf_0 qf_1 qf_2 qf_3 qf_4 qf_5
  refine (regions_one (some ⟨ga, 0, none⟩) (some ⟨gt, 0, none⟩) 1 ca 2 ct gx cx gr cr hcx hcr _ hx hq).mono ?_
  rintro e w6 ⟨rfl, hb6⟩
  replace o_c := o_c.below hb6 o_c.lt
  replace o_f := o_f.below hb6 o_f.lt
  replace hr := hr.below hb6
  replace ht := ht.below hb6
  replace h1 := h1.below hb6
  replace h2 := h2.below hb6
  replace hx := hx.below hb6
  replace hq := hq.below hb6
  replace hbw := below6 hbw hb6
  clear hb6
  go_wp2_with fail
  rw [rounds_succ]
  have qc_0 : w6.cell? ⟨w.heap.size, 0, none⟩ = some (.slice (some ⟨ga, 0, none⟩) 1 ca) := o_c.cell 0
  have qc_1 : w6.cell? ⟨w.heap.size, 1, none⟩ = some (.slice (some ⟨gt, 0, none⟩) 2 ct) := o_c.cell 1
  have qc_2 : w6.cell? ⟨w.heap.size, 2, none⟩ = some (.slice (some ⟨gx, 0, none⟩) 1 cx) := o_c.cell 2
  have qc_3 : w6.cell? ⟨w.heap.size, 3, none⟩ = some (.slice (some ⟨gr, 0, none⟩) 1 cr) := o_c.cell 3
  have qc_4 : w6.cell? ⟨w.heap.size, 4, none⟩ = some (.slice none 0 0) := o_c.cell 4
  have qc_5 : w6.cell? ⟨w.heap.size, 5, none⟩ = some (.slice none 0 0) := o_c.cell 5
  have qc_6 : w6.cell? ⟨w.heap.size, 6, none⟩ = some (.slice none 0 0) := o_c.cell 6
  have qf_0 : w6.cell? ⟨g2, 0, none⟩ = some (.func (.func 43) #[] #[]) := o_f.cell 0
  have qf_1 : w6.cell? ⟨g2, 1, none⟩ = some (.func (.func 44) #[] #[]) := o_f.cell 1
  have qf_2 : w6.cell? ⟨g2, 2, none⟩ = some (.func (.func 45) #[] #[]) := o_f.cell 2
  have qf_3 : w6.cell? ⟨g2, 3, none⟩ = some (.func (.func 46) #[] #[]) := o_f.cell 3
  have qf_4 : w6.cell? ⟨g2, 4, none⟩ = some (.func (.func 47) #[] #[]) := o_f.cell 4
  have qf_5 : w6.cell? ⟨g2, 5, none⟩ = some (.func (.func 48) #[] #[]) := o_f.cell 5
  go_wp2_with fail
  clear qc_0 qc_1 qc_2 qc_3 qc_4 qc_5 qc_6 qf_0 qf_1 qf_2 qf_3 qf_4 qf_5
  refine (nodes_ok (some ⟨gt, 0, none⟩) (some ⟨gx, 0, none⟩) (some ⟨gr, 0, none⟩) 2 ct 1 cx 1 cr ga ca _).mono ?_
  rintro e w7 ⟨rfl, hb7⟩
  replace o_c := o_c.below hb7 o_c.lt
  replace o_f := o_f.below hb7 o_f.lt
  replace hr := hr.below hb7
  replace ht := ht.below hb7
  replace h1 := h1.below hb7
  replace h2 := h2.below hb7
  replace hx := hx.below hb7
  replace hq := hq.below hb7
  replace hbw := below6 hbw hb7
  clear hb7
  go_wp2_with fail
  rw [rounds_succ]
  have qc_0 : w7.cell? ⟨w.heap.size, 0, none⟩ = some (.slice (some ⟨ga, 0, none⟩) 1 ca) := o_c.cell 0
  have qc_1 : w7.cell? ⟨w.heap.size, 1, none⟩ = some (.slice (some ⟨gt, 0, none⟩) 2 ct) := o_c.cell 1
  have qc_2 : w7.cell? ⟨w.heap.size, 2, none⟩ = some (.slice (some ⟨gx, 0, none⟩) 1 cx) := o_c.cell 2
  have qc_3 : w7.cell? ⟨w.heap.size, 3, none⟩ = some (.slice (some ⟨gr, 0, none⟩) 1 cr) := o_c.cell 3
  have qc_4 : w7.cell? ⟨w.heap.size, 4, none⟩ = some (.slice none 0 0) := o_c.cell 4
  have qc_5 : w7.cell? ⟨w.heap.size, 5, none⟩ = some (.slice none 0 0) := o_c.cell 5
  have qc_6 : w7.cell? ⟨w.heap.size, 6, none⟩ = some (.slice none 0 0) := o_c.cell 6
  have qf_0 : w7.cell? ⟨g2, 0, none⟩ = some (.func (.func 43) #[] #[]) := o_f.cell 0
  have qf_1 : w7.cell? ⟨g2, 1, none⟩ = some (.func (.func 44) #[] #[]) := o_f.cell 1
  have qf_2 : w7.cell? ⟨g2, 2, none⟩ = some (.func (.func 45) #[] #[]) := o_f.cell 2
  have qf_3 : w7.cell? ⟨g2, 3, none⟩ = some (.func (.func 46) #[] #[]) := o_f.cell 3
  have qf_4 : w7.cell? ⟨g2, 4, none⟩ = some (.func (.func 47) #[] #[]) := o_f.cell 4
  have qf_5 : w7.cell? ⟨g2, 5, none⟩ = some (.func (.func 48) #[] #[]) := o_f.cell 5
  go_wp2_with fail
  clear qc_0 qc_1 qc_2 qc_3 qc_4 qc_5 qc_6 qf_0 qf_1 qf_2 qf_3 qf_4 qf_5
  refine (heads_ok (some ⟨gt, 0, none⟩) (some ⟨gx, 0, none⟩) (some ⟨gr, 0, none⟩) 2 ct 1 cx 1 cr ga ca _).mono ?_
  rintro e w8 ⟨rfl, hb8⟩
  replace o_c := o_c.below hb8 o_c.lt
  replace o_f := o_f.below hb8 o_f.lt
  replace hr := hr.below hb8
  replace ht := ht.below hb8
  replace h1 := h1.below hb8
  replace h2 := h2.below hb8
  replace hx := hx.below hb8
  replace hq := hq.below hb8
  replace hbw := below6 hbw hb8
  clear hb8
  go_wp2_with fail
  rw [rounds_succ]
  go_wp2
  go_ret3
  exact ⟨rfl, hbw⟩
end Go.Proofs.YtfenjklilocjgaaGreatDoor
