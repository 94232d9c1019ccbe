/- Parts of the proof: At. No condition of its own. -/
import Derived.Test.YtfenjklilocjgaaGreatDoorAr
set_option linter.unusedSimpArgs false
set_option linter.unusedVariables false
set_option linter.unusedSectionVars false
namespace Go.Proofs.YtfenjklilocjgaaGreatDoor
set_option linter.unusedSimpArgs false
set_option linter.unusedVariables false
set_option linter.unusedSectionVars false
open Go.RowKit Dg

/-- The cell that the library's searches read. -/
def MLen (w : World) : Prop := ∃ m : Int, w.cell? ⟨0, 0, none⟩ = some (.int .i64 m)
theorem MLen.below {w w' : World} (h : MLen w) (hb : Below w.heap.size w w') : MLen w' := by
  obtain ⟨m, hm⟩ := h
  exact ⟨m, below_cell hb hm⟩
theorem RS.appT {B g : Nat} {kb : Option Nat} {A T X R O : Value} {nt nx nr no : Nat} {ts xs rs os : List Value} {b : Bool} {w w1 w' : World} (h : RS kb B g A T X R O nt nx nr no ts xs rs os b w) {v va : Value} {s : ByteArray} (hs : OneL s) (hv : w.ownsRow B 9 1 v 1 [.string s])
    (hown : w1.ownsRow B 28 1 va (nt + 1) (ts ++ [v])) (hg : w.grownBy w1 T.ownBlock) (hva : va.ownBlock ≠ some g) (hw' : w' = w1.setCell ⟨g, 1, none⟩ va) : RS kb B g A va X R O (nt + 1) nx nr no (ts ++ [v]) xs rs os b w' := by
  subst hw'
  have hfr : Fr w g T.ownBlock w1 := (Fr.refl w g _).grown hg
  have hfr2 := hfr.set 1 va
  have hT := h.ne h.t (by decide)
  refine ⟨h.gB, ?_, h.keep hfr2 h.a (by decide) (row_ne h.t h.a (by decide)), ownsRow_setCell_other (a := ⟨g, 1, none⟩) hown hva va, h.keep hfr2 h.x (by decide) (row_ne h.t h.x (by decide)), h.keep hfr2 h.r (by decide) (row_ne h.t h.r (by decide)), h.keep hfr2 h.o (by decide) (row_ne h.t h.o (by decide)), h.ro, fun k9 e9 => hfr2.own (h.bx k9 e9) (own_ne9 (h.bx k9 e9) h.own (by decide)) (own_blk_ne h.t (h.bx k9 e9) (by decide)), fun y hy => ?_⟩
  · have h9 : Own w1 g 93 [A, T, X, R, .slice none 0 0, .slice none 0 0, .slice none 0 0, O, .bool b] := (hg.block g h.own.lt (fun x => hT x.symm)).trans h.own
    exact h9.set_ 1 va
  · rcases List.mem_append.1 hy with hy | hy
    · obtain ⟨q, h1, h2⟩ := h.tk y hy
      exact ⟨q, h1, h.keep hfr2 h2 (by decide) (row_ne h.t h2 (by decide))⟩
    · obtain rfl := List.mem_singleton.1 hy
      exact ⟨s, hs, h.keep hfr2 hv (by decide) (row_ne h.t hv (by decide))⟩
/-- A cell of a variable of another type is stored. -/
theorem RS.setV {B g : Nat} {kb : Option Nat} {A T X R O : Value} {nt nx nr no : Nat} {ts xs rs os : List Value} {b : Bool} {w : World} (h : RS kb B g A T X R O nt nx nr no ts xs rs os b w) {k : Nat} {cs : List Value} {Q : TypeId} (ho : Own w k Q cs) (hk : k ≠ g) (hq : ∀ j, kb = some j → j ≠ k) (q1 : 64 ≠ Q) (q2 : 28 ≠ Q) (q3 : 71 ≠ Q) (q4 : 69 ≠ Q) (q5 : 9 ≠ Q) (i : Nat) (v : Value) : RS kb B g A T X R O nt nx nr no ts xs rs os b (w.setCell ⟨k, i, none⟩ v) := by
  refine ⟨h.gB, h.own.far (p := ⟨k, i, none⟩) (Ne.symm hk) v, ownsRow_setCell_other (a := ⟨k, i, none⟩) h.a (own_blk_ne h.a ho q1) v, ownsRow_setCell_other (a := ⟨k, i, none⟩) h.t (own_blk_ne h.t ho q2) v, ownsRow_setCell_other (a := ⟨k, i, none⟩) h.x (own_blk_ne h.x ho q3) v, ownsRow_setCell_other (a := ⟨k, i, none⟩) h.r (own_blk_ne h.r ho q4) v, ownsRow_setCell_other (a := ⟨k, i, none⟩) h.o (own_blk_ne h.o ho q4) v, h.ro, fun k9 e9 => (h.bx k9 e9).far (p := ⟨k, i, none⟩) (hq k9 e9) v, fun y hy => ?_⟩
  obtain ⟨s, e1, e2⟩ := h.tk y hy
  exact ⟨s, e1, ownsRow_setCell_other (a := ⟨k, i, none⟩) e2 (own_blk_ne e2 ho q5) v⟩
theorem OneL.value {s : ByteArray} (h : OneL s) : RetV 127 #[.string s] (.int .i64 0) := by
  obtain ⟨h1, h2, h3⟩ := h
  exact vv_one s h1 (by omega) (by omega)
theorem OneL.plain {s : ByteArray} (h : OneL s) : RetV 117 #[.string s] (.tuple #[.string s, .int .i64 0, .int .i64 0]) := by
  obtain ⟨h1, h2, h3⟩ := h
  exact unescape_one s h1 _ rfl (by omega)
theorem verr_yes (n s : ByteArray) (hs : OneL s) : RetV 118 #[.agg #[.string n, .bool false], .string s] (.int .i64 0) := by
  intro w
  have HV := Lib.hid hs.value
  clear hs
  obtain ⟨o_c, hbw⟩ := new1 w [.string n, .bool false] 64
  go_enter Tryz.func118, Tryz.ntmps118
  go_upto_region 1 with (fail)
  generalize (w.alloc (.cells #[.string n, .bool false] 64)) = wb at o_c hbw ⊢
  have q1 : wb.cell? ⟨w.heap.size, 1, none⟩ = some (.bool false) := o_c.cell 1
  go_wp2_with fail
  refine (HV.out _).mono ?_
  rintro e w1 ⟨rfl, hb1⟩
  go_wp2
  go_ret
  exact ⟨rfl, below6 hbw hb1⟩
theorem str_info : (Tryz.prog.info? 9).map (fun i => (i.zero, i.size, i.bytes)) = some (some (.string ⟨#[]⟩), 1, 16) := by kernel_rfl
theorem strs_info : (Tryz.prog.info? 28).map (fun i => (i.zero, i.size, i.bytes)) = some (some (.slice none 0 0), 1, 24) := by kernel_rfl
set_option maxRecDepth 100000 in
set_option maxHeartbeats 1000000 in
theorem token_yes {B g : Nat} {kb : Option Nat} {A T X R O : Value} {nt nx nr no : Nat} {ts xs rs os : List Value} (s : ByteArray) (w : World) (h : RS kb B g A T X R O nt nx nr no ts xs rs os true w) (hn : nt ≤ 100) (hm : MLen w) (hs : OneL s) (hc1 : Lib.countB s ⟨#[9]⟩ = 0) (hc2 : Lib.splitB ⟨#[9]⟩ 0 0 s = [s]) :
    Calls Tryz.prog 73 #[.pointer (some ⟨g, 0, none⟩), .string s] w fun e w' => e = .returned (.agg #[.int .i64 0, .int .i64 0]) ∧ (∃ T' v, RS kb B g A T' X R O (nt + 1) nx nr no (ts ++ [v]) xs rs os true w') ∧ Below B w w' := by
  obtain ⟨i0, hi0, hz0, hz1, hz2⟩ := info_parts str_info
  obtain ⟨j0, hj0, hy0, hy1, hy2⟩ := info_parts strs_info
  obtain ⟨ga, ca, rfl, -, -⟩ := h.a.form (by decide)
  obtain ⟨AT, cT, rfl, -, -, -⟩ := Sl.of_own h.t
  have hB0 := h.size
  have hkb : ∀ j, kb = some j → j ≠ w.heap.size := fun j e => by have := (h.bx j e).lt; omega
  have HU := Lib.hid hs.plain
  have HE := Lib.hid (fun n => verr_yes n s hs)
  have HS := Lib.hid hs
  have hs1 : s.size = 1 := by obtain ⟨h9, -, -⟩ := hs; exact h9
  clear hs
  obtain ⟨o_r, hbw⟩ := new1 w [.int .i64 0, .int .i64 0] 97
  replace h := h.below hbw
  replace hm := hm.below hbw
  go_enter Tryz.func73, Tryz.ntmps73
  go_upto_region 1 with (fail)
  generalize (w.alloc (.cells #[.int .i64 0, .int .i64 0] 97)) = wb at o_r hbw h hm ⊢
  have p1 : wb.cell? ⟨g, 1, none⟩ = some (.slice AT nt cT) := h.own.cell 1
  have p8 : wb.cell? ⟨g, 8, none⟩ = some (.bool true) := h.own.cell 8
  have t1 : ((nt : Int) == 4096) = false := beq_eq_false_iff_ne.2 (by omega)
  have t2 : decide ((nt : Int) = 4096) = false := decide_eq_false (by omega)
  have t3 : (nt == 4096) = false := beq_eq_false_iff_ne.2 (by omega)
  obtain ⟨ml, hml⟩ := hm
  have hSp : Calls Tryz.prog 116 #[.string s, .string ⟨#[9]⟩] wb fun e w' => e = .returned (.slice (some ⟨wb.heap.size, 0, none⟩) 1 1) ∧ w' = wb.alloc (.cells #[.string s] 9) := by
    have h9 := Tryz.strings_Split s ⟨#[9]⟩ ml wb (by omega) hml (by decide)
    rw [hc1, hc2] at h9
    exact h9
  clear hc1 hc2
  obtain ⟨o_p, hbp⟩ := new1 wb [.string s] 9
  have hbB : Below B w (wb.alloc (.cells #[.string s] 9)) := (hbw.mono hB0).trans (hbp.mono (by have := hbw.size; omega))
  go_wp2_with fail
  refine hSp.mono ?_
  rintro e w1 ⟨rfl, rfl⟩
  clear p1 p8 t1 t2 t3 hml hSp hbw
  replace h := h.below hbp
  replace o_r := o_r.below hbp o_r.lt
  clear hbp
  generalize wb.heap.size = gp at o_p ⊢
  generalize (wb.alloc (.cells #[.string s] 9)) = wc at o_p o_r h hbB ⊢
  have pp : wc.cell? ⟨gp, 0, none⟩ = some (.string s) := o_p.cell 0
  have p0 : wc.cell? ⟨g, 0, none⟩ = some (.slice (some ⟨ga, 0, none⟩) 1 ca) := h.own.cell 0
  go_wp2_with fail
  refine wp_loop_rounds 2 ?_
  rw [rounds_succ]
  go_wp2_with fail
  refine (HU.out _).mono ?_
  rintro e wd ⟨rfl, hbd⟩
  replace hbB := hbB.trans (hbd.mono h.size)
  replace h := h.below hbd
  replace o_r := o_r.below hbd o_r.lt
  clear hbd pp p0 o_p
  have p0 : wd.cell? ⟨g, 0, none⟩ = some (.slice (some ⟨ga, 0, none⟩) 1 ca) := h.own.cell 0
  have a0 : wd.cell? ⟨ga, 0, none⟩ = some (.string ⟨#[119, 111, 114, 100]⟩) := h.a.cellAt 0 (by decide)
  have a1 : wd.cell? ⟨ga, 1, none⟩ = some (.bool false) := h.a.cellAt 1 (by decide)
  have hw0 : IntKind.i64.wrap 0 = 0 := by decide
  go_wp2_with fail
  refine (HE.out _ _).mono ?_
  rintro e we ⟨rfl, hbe⟩
  replace hbB := hbB.trans (hbe.mono h.size)
  replace h := h.below hbe
  replace o_r := o_r.below hbe o_r.lt
  clear hbe p0 a0 a1
  have h63 : 0 + 1 ≤ maxLen := by unfold maxLen; omega
  have HOW := Lib.hid (World.ownsRow_nil we B 9 1)
  have hBs := h.size
  go_wp2_with (at_builtin; refine wpList_append_own_at _ rfl (.tmp 76) (.tmp 78) 28 rfl B 9 i0 _ 1 16 Tryz.underlying28 hi0 hz0 hz1 hz2 rfl (by decide) _ 0 [] rfl (HOW.out.alloc _) ⟨we.heap.size, 0, none⟩ 1 1 [.string s] rfl rfl (new_cells _ _ _ _ rfl) (by simp [Value.oneCell']) h63 (by omega) (by rw [size1]; omega) ?_)
  intro v' wf hown' hgrow _ hat
  have hbv : Below we.heap.size we wf := ((Below.refl we.heap.size we).alloc (Nat.le_refl _) _).grown hgrow (by rw [size1]; omega) (own_lt (World.ownsRow_nil we we.heap.size 9 1))
  replace hbB := hbB.trans (hbv.mono hBs)
  replace h := h.below hbv
  replace o_r := o_r.below hbv o_r.lt
  obtain ⟨gv, cv, rfl, -, -⟩ := hown'.form (by decide)
  clear hbv hgrow hat HOW
  go_wp2_with fail
  have p0 : wf.cell? ⟨g, 0, none⟩ = some (.slice (some ⟨ga, 0, none⟩) 1 ca) := h.own.cell 0
  have p1 : wf.cell? ⟨g, 1, none⟩ = some (.slice AT nt cT) := h.own.cell 1
  have h64 : nt + 1 ≤ maxLen := by unfold maxLen; omega
  have hBf := h.size
  have hlt := h.own.lt
  have HT := Lib.hid h.t
  rw [rounds_succ]
  go_wp2_with (at_builtin; refine wpList_append_own_at _ rfl (.tmp 103) (.tmp 105) 23 rfl B 28 j0 _ 1 24 Tryz.underlying23 hj0 hy0 hy1 hy2 rfl (by decide) _ nt ts rfl (HT.out.alloc _) ⟨wf.heap.size, 0, none⟩ 1 1 [.slice (some ⟨gv, 0, none⟩) 1 cv] rfl rfl (new_cells _ _ _ _ rfl) (by simp [Value.oneCell']) h64 (by omega) (by rw [size1]; omega) ?_)
  intro v2 w2 hown2 hgrow2 _ hat2
  have hgr2 : wf.grownBy w2 (Value.slice AT nt cT).ownBlock := World.grownBy.trans (World.grownBy_alloc _ _ _) hgrow2
  have hTg := h.ne h.t (by decide)
  have hT0 : (Value.slice AT nt cT).ownBlock ≠ some w.heap.size := own_blk_ne h.t o_r (by decide)
  have hv2g : v2.ownBlock ≠ some g := by
    rcases hat2 with x | x
    · rw [x]; exact hTg
    · rw [x]; intro y; injection y with y; omega
  have hfin0 := h.appT HS.out hown' hown2 hgr2 hv2g rfl
  have hrr := (hgr2.block _ o_r.lt (fun x => hT0 x.symm)).trans o_r
  have o_r2 : Own w2 w.heap.size 97 [.int .i64 0, .int .i64 0] := hrr
  have hbB2 : Below B w w2 := hbB.grown hgr2 hBf (fun k hk => (h.t.lt k hk).1)
  have hog : Own w2 g 93 _ := (hgr2.block _ hlt (fun x => hTg x.symm)).trans h.own
  have c1 : w2.cell? ⟨g, 1, none⟩ = some (.slice AT nt cT) := hog.cell 1
  have f1 := hog.frozen 1
  have hBg := h.gB
  have hrg : w.heap.size ≠ g := by
    intro x
    have h1 := h.own
    unfold Own at h1 o_r
    rw [x, h1] at o_r
    injection o_r with o_r
    injection o_r with _ o_r
    exact absurd o_r (by decide)
  obtain ⟨gt2, ct2, rfl, -, -⟩ := hown2.form (by omega)
  clear p0 p1 h hown' hown2 hgrow2 hgr2 hrr hog HT hbB
  have hb3 := hbB2.setCell (p := ⟨g, 1, none⟩) hBg (.slice (some ⟨gt2, 0, none⟩) (nt + 1) ct2)
  have o_r3 := o_r2.far (p := ⟨g, 1, none⟩) hrg (.slice (some ⟨gt2, 0, none⟩) (nt + 1) ct2)
  have q0 : (w2.setCell ⟨g, 1, none⟩ (.slice (some ⟨gt2, 0, none⟩) (nt + 1) ct2)).cell? ⟨w.heap.size, 0, none⟩ = some (.int .i64 0) := o_r3.cell 0
  have q1 : (w2.setCell ⟨g, 1, none⟩ (.slice (some ⟨gt2, 0, none⟩) (nt + 1) ct2)).cell? ⟨w.heap.size, 1, none⟩ = some (.int .i64 0) := o_r3.cell 1
  have g0 := o_r3.frozen 0
  have g1 := o_r3.frozen 1
  clear hlt hat2 hTg hT0 hv2g o_r2 hbB2
  go_wp2_with fail
  clear c1 f1 q0 q1 g0 g1
  generalize (w2.setCell ⟨g, 1, none⟩ (.slice (some ⟨gt2, 0, none⟩) (nt + 1) ct2)) = w5 at hfin0 hb3 o_r3 ⊢
  have h5 := (hfin0.setV o_r3 hrg hkb (by decide) (by decide) (by decide) (by decide) (by decide) 0 (.int .i64 0)).setV (o_r3.set_ 0 (.int .i64 0)) hrg hkb (by decide) (by decide) (by decide) (by decide) (by decide) 1 (.int .i64 0)
  have o5 : Own ((w5.setCell ⟨w.heap.size, 0, none⟩ (.int .i64 0)).setCell ⟨w.heap.size, 1, none⟩ (.int .i64 0)) w.heap.size 97 [.int .i64 0, .int .i64 0] := (o_r3.set_ 0 (.int .i64 0)).set_ 1 (.int .i64 0)
  have b5 := (hb3.setCell (p := ⟨w.heap.size, 0, none⟩) hB0 (.int .i64 0)).setCell (p := ⟨w.heap.size, 1, none⟩) hB0 (.int .i64 0)
  have z0 := o5.cell 0
  have z1 := o5.cell 1
  exact bodyPost_ret (v := .agg #[.int .i64 0, .int .i64 0]) (by simp [results, Tryz.results73, go_sem, z0, z1]) rfl ⟨rfl, ⟨_, _, h5⟩, b5⟩
theorem split_97 : Lib.countB ⟨#[97]⟩ ⟨#[9]⟩ = 0 ∧ Lib.splitB ⟨#[9]⟩ 0 0 ⟨#[97]⟩ = [⟨#[97]⟩] := by decide
theorem oneL_97 : OneL ⟨#[97]⟩ := ⟨rfl, by decide, by decide⟩
theorem split_98 : Lib.countB ⟨#[98]⟩ ⟨#[9]⟩ = 0 ∧ Lib.splitB ⟨#[9]⟩ 0 0 ⟨#[98]⟩ = [⟨#[98]⟩] := by decide
theorem oneL_98 : OneL ⟨#[98]⟩ := ⟨rfl, by decide, by decide⟩
end Go.Proofs.YtfenjklilocjgaaGreatDoor
