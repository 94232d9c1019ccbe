/- Parts of the proof: Awk. No condition of its own. -/
import Derived.Test.YtfenjklilocjgaaGreatDoorAb
set_option linter.unusedSimpArgs false
set_option linter.unusedVariables false
set_option linter.unusedSectionVars false
namespace Go.Proofs.YtfenjklilocjgaaGreatDoor
set_option linter.unusedSimpArgs false
set_option linter.unusedVariables false
set_option linter.unusedSectionVars false
open Go.RowKit Dg

set_option maxRecDepth 100000 in
set_option maxHeartbeats 1000000 in
theorem awake_yes (w : World) (hm : MLen w) : Calls Tryz.prog 10 #[] w fun e w' => e = .returned (.bool true) ∧ Below w.heap.size w w' := by
  obtain ⟨o_a, hba⟩ := new1 w [.string ⟨#[119, 111, 114, 100]⟩, .bool false] 64
  go_enter Tryz.func10, Tryz.ntmps10
  go_wp2_with fail
  refine (parse_doc _ rfl w.heap.size 1 (Nat.le_refl _) _ (Rd.of_cells fun j u hu => ?_) (hm.below hba)).mono ?_
  · rw [o_a.cell]; simpa using hu
  rintro e w1 ⟨cv, rfl, hdoc, hb⟩
  replace hba := hba.trans (hb.mono (by rw [size1]; omega))
  clear o_a hb hm
  obtain ⟨ga, ca, gt, ct, gx, cx, gr, cr, k1, c1, k2, c2, s1, s2, rfl, ⟨l1, l2, l3, l4, l5, l6⟩, r1, r2, r3, r4, e1, e2, r5, r6⟩ := hdoc
  obtain ⟨o_c, o_p, hbc⟩ := new2 w1 [.slice (some ⟨ga, 0, none⟩) 1 ca, .slice (some ⟨gt, 0, none⟩) 2 ct, .slice (some ⟨gx, 0, none⟩) 1 cx, .slice (some ⟨gr, 0, none⟩) 1 cr, .slice none 0 0, .slice none 0 0, .slice none 0 0] [.int .i64 0, .int .i64 0] 30 60
  replace hba := below6 hba hbc
  replace r1 := r1.below hbc
  replace r2 := r2.below hbc
  replace r3 := r3.below hbc
  replace r4 := r4.below hbc
  replace r5 := r5.below hbc
  replace r6 := r6.below hbc
  clear hbc
  go_upto_region 2 with (fail)
  generalize ((w1.alloc (.cells #[.slice (some ⟨ga, 0, none⟩) 1 ca, .slice (some ⟨gt, 0, none⟩) 2 ct, .slice (some ⟨gx, 0, none⟩) 1 cx, .slice (some ⟨gr, 0, none⟩) 1 cr, .slice none 0 0, .slice none 0 0, .slice none 0 0] 30)).alloc (.cells #[.int .i64 0, .int .i64 0] 60)) = w2 at o_c o_p hba r1 r2 r3 r4 r5 r6 ⊢
  generalize w1.heap.size = gc at o_c o_p ⊢
  have c0' : w2.cell? ⟨gc, 0, none⟩ = some (.slice (some ⟨ga, 0, none⟩) 1 ca) := o_c.cell 0
  have c1' : w2.cell? ⟨gc, 1, none⟩ = some (.slice (some ⟨gt, 0, none⟩) 2 ct) := o_c.cell 1
  have c2' : w2.cell? ⟨gc, 2, none⟩ = some (.slice (some ⟨gx, 0, none⟩) 1 cx) := o_c.cell 2
  have c3' : w2.cell? ⟨gc, 3, none⟩ = some (.slice (some ⟨gr, 0, none⟩) 1 cr) := o_c.cell 3
  have c4' : w2.cell? ⟨gc, 4, none⟩ = some (.slice none 0 0) := o_c.cell 4
  have c5' : w2.cell? ⟨gc, 5, none⟩ = some (.slice none 0 0) := o_c.cell 5
  have c6' : w2.cell? ⟨gc, 6, none⟩ = some (.slice none 0 0) := o_c.cell 6
  go_wp2_with fail
  refine (validate_full ga ca gt ct gx cx gr cr k1 c1 k2 c2 l1 l2 l3 l4 l5 l6 s1 s2 _ r1 r2 r3 r4 e1 e2 r5 r6).mono ?_
  rintro e w3 ⟨rfl, hb3⟩
  replace o_c := o_c.below hb3 o_c.lt
  replace o_p := o_p.below hb3 o_p.lt
  replace r6 := r6.below hb3
  replace hba := below6 hba hb3
  clear hb3 r1 r2 r3 r4 e1 e2 r5 c0' c1' c2' c3' c4' c5' c6'
  have c0' : w3.cell? ⟨gc, 0, none⟩ = some (.slice (some ⟨ga, 0, none⟩) 1 ca) := o_c.cell 0
  have c1' : w3.cell? ⟨gc, 1, none⟩ = some (.slice (some ⟨gt, 0, none⟩) 2 ct) := o_c.cell 1
  have c2' : w3.cell? ⟨gc, 2, none⟩ = some (.slice (some ⟨gx, 0, none⟩) 1 cx) := o_c.cell 2
  have c3' : w3.cell? ⟨gc, 3, none⟩ = some (.slice (some ⟨gr, 0, none⟩) 1 cr) := o_c.cell 3
  have c4' : w3.cell? ⟨gc, 4, none⟩ = some (.slice none 0 0) := o_c.cell 4
  have c5' : w3.cell? ⟨gc, 5, none⟩ = some (.slice none 0 0) := o_c.cell 5
  have c6' : w3.cell? ⟨gc, 6, none⟩ = some (.slice none 0 0) := o_c.cell 6
  have p0' : w3.cell? ⟨gc + 1, 0, none⟩ = some (.int .i64 0) := o_p.cell 0
  have p1' : w3.cell? ⟨gc + 1, 1, none⟩ = some (.int .i64 0) := o_p.cell 1
  have q2 : w3.cell? ⟨gr, 2, none⟩ = some (.int .i64 1) := r6.c9 2 rfl
  clear o_c o_p r6
  go_wp2
  go_ret
  exact ⟨rfl, hba⟩
end Go.Proofs.YtfenjklilocjgaaGreatDoor
