/- Chapter 37's interval. -/
import Derived.Test.YtdjkgjpehneejaaLh
namespace Go.Proofs.Ytdjkgjpehneejaa
set_option linter.unusedSimpArgs false
set_option linter.unusedVariables false
set_option linter.unusedSectionVars false
open Go.RowKit Dg

/-- The tape, and that nothing else that was there has turned. -/
def TC (w0 w : World) (p : Nat) (A : Option Addr) (l : List Int) (c a : Nat) : Prop := Tape w p A l c a ∧ Chg (fun k => k = p) w0 w
section
variable {w0 w w' : World} {p : Nat} {A : Option Addr} {l : List Int} {c a a0 : Nat}
theorem TC.below (h : TC w0 w p A l c a) (hb : Below w.heap.size w w') : TC w0 w' p A l c a := ⟨h.1.below hb, h.2.trans (Chg.of_below hb fun k h1 h2 => by omega)⟩
theorem TC.set (h : TC w0 w p A l c a) (h0 : Tape w0 p A l c a0) {g : Nat} (hg : w0.heap.size ≤ g) (i : Nat) (u : Value) : TC w0 (w.setCell ⟨g, i, none⟩ u) p A l c a := by
  have hc := h.2.fresh hg i u
  have hlt := h0.own.lt
  have hne : p ≠ (⟨g, i, none⟩ : Addr).block := fun e => by have e2 : p = g := e; omega
  exact ⟨⟨h.1.own.far hne u, RdOut.chg h0.rd hc, h.1.le, h.1.few, h.1.wf⟩, hc⟩
theorem TC.set3 (h : TC w0 w p A l c a) (h0 : Tape w0 p A l c a0) {g : Nat} (hg : w0.heap.size ≤ g) (x y z : Value) : TC w0 (((w.setCell ⟨g, 0, none⟩ x).setCell ⟨g, 1, none⟩ y).setCell ⟨g, 2, none⟩ z) p A l c a :=
  ((h.set h0 hg 0 x).set h0 hg 1 y).set h0 hg 2 z
theorem TC.set6 (h : TC w0 w p A l c a) (h0 : Tape w0 p A l c a0) {g : Nat} (hg : w0.heap.size ≤ g) (u v x y z q : Value) : TC w0 ((((((w.setCell ⟨g, 0, none⟩ u).setCell ⟨g, 1, none⟩ v).setCell ⟨g, 2, none⟩ x).setCell ⟨g, 3, none⟩ y).setCell ⟨g, 4, none⟩ z).setCell ⟨g, 5, none⟩ q) p A l c a :=
  (((((h.set h0 hg 0 u).set h0 hg 1 v).set h0 hg 2 x).set h0 hg 3 y).set h0 hg 4 z).set h0 hg 5 q
theorem Own.far3 {g : Nat} {t : TypeId} {cs : List Value} (h : Own w g t cs) {b : Nat} (hb : g ≠ b) (x y z : Value) : Own (((w.setCell ⟨b, 0, none⟩ x).setCell ⟨b, 1, none⟩ y).setCell ⟨b, 2, none⟩ z) g t cs :=
  ((h.far (p := ⟨b, 0, none⟩) hb x).far (p := ⟨b, 1, none⟩) hb y).far (p := ⟨b, 2, none⟩) hb z
end
theorem rcmpr_yes {x y : Rat} (hx : OkR x) (hy : OkR y) : RetV 54 #[RV x, RV y] (.int .i64 (cmpR x y)) := fun w =>
  cmpr_core _ _ _ _ _ _ x.num.natAbs x.den y.num.natAbs y.den _ (cmpR_sgn x y _ _ _ _ _ _ (rat_self x).symm (rat_self y).symm (den_pos x) (den_pos y) (fun h => by have := of_decide_eq_true h.1; omega) (fun h => by have := of_decide_eq_true h.1; omega))
    (fun w => isratior_yes w hx) (fun w => isratior_yes w hy) (fun w => big_S _ w hx.1) (fun w => big_S _ w hx.2) (fun w => big_S _ w hy.1) (fun w => big_S _ w hy.2) (den_pos x) (den_pos y) hx.1.dk hx.2.dk hy.1.dk hy.2.dk w

set_option maxRecDepth 100000 in
set_option maxHeartbeats 8000000 in
theorem interval_any (p : Nat) (A : Option Addr) (l : List Int) (c at_ : Nat) (w : World) (h : Tape w p A l c at_) :
    Calls Try.prog 21 #[.pointer (some ⟨p, 0, none⟩)] w fun e w' => (∃ x y, e = .returned (IV x y) ∧ Few 6 x ∧ Few 6 y ∧ x ≤ y) ∧ (∃ a', Tape w' p A l c a') ∧ Chg (fun k => k = p) w w' := by
  have HT0 := Lib.hid h
  have hgp := h.own.lt
  have HNE : Hid (¬ (w.heap.size = p)) := by show ¬ _; omega
  obtain ⟨o_r, hbw⟩ := new1 w [.bool false, .string ⟨#[]⟩, .string ⟨#[]⟩, .bool false, .string ⟨#[]⟩, .string ⟨#[]⟩] 37
  have hT : TC w (w.alloc (.cells #[.bool false, .string ⟨#[]⟩, .string ⟨#[]⟩, .bool false, .string ⟨#[]⟩, .string ⟨#[]⟩] 37)) p A l c at_ := ⟨h.below hbw, Chg.of_below hbw fun k h1 h2 => by omega⟩
  clear h hbw
  go_enter Try.func21, Try.ntmps21
  go_wp2_with fail
  generalize (w.alloc (.cells #[.bool false, .string ⟨#[]⟩, .string ⟨#[]⟩, .bool false, .string ⟨#[]⟩, .string ⟨#[]⟩] 37)) = wb at o_r hT ⊢
  refine (some37 false p A l c at_ wb hT.1).mono ?_
  rintro e w2 ⟨⟨x, rfl, fx, -⟩, ⟨a1, hT'⟩, hc1⟩
  replace o_r := hc1.own o_r HNE.out
  have hT2 : TC w w2 p A l c a1 := ⟨hT', hT.2.trans hc1⟩
  clear hT hT' hc1
  have hT := hT2
  clear hT2
  go_wp2_with fail
  refine (some37 false p A l c a1 w2 hT.1).mono ?_
  rintro e w3 ⟨⟨y, rfl, fy, -⟩, ⟨a2, hT'⟩, hc2⟩
  replace o_r := hc2.own o_r HNE.out
  have hT2 : TC w w3 p A l c a2 := ⟨hT', hT.2.trans hc2⟩
  clear hT hT' hc2
  have hT := hT2
  clear hT2
  have okx := fx.ok (by decide)
  have oky := fy.ok (by decide)
  have hcm := rcmpr_yes okx oky
  have hzz := cmpR_gt (x := x) (y := y)
  have HZ := Lib.hid hzz
  generalize cmpR x y = z at hcm HZ
  have HCM := Lib.hid hcm
  obtain ⟨nx, sx, tx, e1, ny, sy, ty, e2, e3⟩ := iv_open x y
  obtain ⟨ny', sy', ty', e4, nx', sx', tx', e5, e6⟩ := iv_open y x
  rw [e1] at e5
  rw [e2] at e4
  injection e4 with e4; injection e4 with e4; injection e4 with e7 e4; injection e4 with e8 e4; injection e4 with e9 e4
  injection e5 with e5; injection e5 with e5; injection e5 with e10 e5; injection e5 with e11 e5; injection e5 with e12 e5
  injection e7 with e7; injection e8 with e8; injection e9 with e9; injection e10 with e10; injection e11 with e11; injection e12 with e12
  subst e7; subst e8; subst e9; subst e10; subst e11; subst e12
  rw [e1, e2] at HCM
  rw [e1, e2]
  have E3 := Lib.hid e3
  have E6 := Lib.hid e6
  have FX := Lib.hid fx
  have FY := Lib.hid fy
  clear hcm hzz okx oky fx fy e1 e2 e3 e4 e5 e6
  have hsz := o_r.lt
  obtain ⟨o_x, o_y, hb0⟩ := new2 w3 [.bool nx, .string sx, .string tx] [.bool ny, .string sy, .string ty] 26 26
  replace o_r := o_r.below hb0 o_r.lt
  replace hT := hT.below hb0
  clear hb0
  generalize hgx : w3.heap.size = gx at o_x o_y hsz
  have q0 : ((w3.alloc (.cells #[.bool nx, .string sx, .string tx] 26)).alloc (.cells #[.bool ny, .string sy, .string ty] 26)).cell? ⟨gx, 0, none⟩ = some (.bool nx) := o_x.cell 0
  have q1 : ((w3.alloc (.cells #[.bool nx, .string sx, .string tx] 26)).alloc (.cells #[.bool ny, .string sy, .string ty] 26)).cell? ⟨gx, 1, none⟩ = some (.string sx) := o_x.cell 1
  have q2 : ((w3.alloc (.cells #[.bool nx, .string sx, .string tx] 26)).alloc (.cells #[.bool ny, .string sy, .string ty] 26)).cell? ⟨gx, 2, none⟩ = some (.string tx) := o_x.cell 2
  have q3 : ((w3.alloc (.cells #[.bool nx, .string sx, .string tx] 26)).alloc (.cells #[.bool ny, .string sy, .string ty] 26)).cell? ⟨gx + 1, 0, none⟩ = some (.bool ny) := o_y.cell 0
  have q4 : ((w3.alloc (.cells #[.bool nx, .string sx, .string tx] 26)).alloc (.cells #[.bool ny, .string sy, .string ty] 26)).cell? ⟨gx + 1, 1, none⟩ = some (.string sy) := o_y.cell 1
  have q5 : ((w3.alloc (.cells #[.bool nx, .string sx, .string tx] 26)).alloc (.cells #[.bool ny, .string sy, .string ty] 26)).cell? ⟨gx + 1, 2, none⟩ = some (.string ty) := o_y.cell 2
  have HGX := Lib.hid hgx
  clear hgx
  go_wp2_with fail
  rw [HGX.out]
  generalize ((w3.alloc (.cells #[.bool nx, .string sx, .string tx] 26)).alloc (.cells #[.bool ny, .string sy, .string ty] 26)) = w4 at o_r o_x o_y hT ⊢
  clear q0 q1 q2 q3 q4 q5 HGX
  refine (HCM.out _).mono ?_
  rintro e w5 ⟨rfl, hb5⟩
  replace o_r := o_r.below hb5 o_r.lt
  replace o_x := o_x.below hb5 o_x.lt
  replace o_y := o_y.below hb5 o_y.lt
  replace hT := hT.below hb5
  clear hb5 HCM
  by_cases hz : 0 < z
  · have dz : decide (0 < z) = true := decide_eq_true hz
    have HLE := Lib.hid (Rat.le_of_lt (HZ.out.1 hz))
    clear hz HZ
    have q0 : w5.cell? ⟨gx, 0, none⟩ = some (.bool nx) := o_x.cell 0
    have q1 : w5.cell? ⟨gx, 1, none⟩ = some (.string sx) := o_x.cell 1
    have q2 : w5.cell? ⟨gx, 2, none⟩ = some (.string tx) := o_x.cell 2
    have p0 : w5.cell? ⟨gx + 1, 0, none⟩ = some (.bool ny) := o_y.cell 0
    have p1 : w5.cell? ⟨gx + 1, 1, none⟩ = some (.string sy) := o_y.cell 1
    have p2 : w5.cell? ⟨gx + 1, 2, none⟩ = some (.string ty) := o_y.cell 2
    have fq0 := o_x.frozen 0
    have fq1 := o_x.frozen 1
    have fq2 := o_x.frozen 2
    have fp0 := o_y.frozen 0
    have fp1 := o_y.frozen 1
    have fp2 := o_y.frozen 2
    have ox2 := (o_x.set3 (.bool ny) (.string sy) (.string ty)).far3 (b := gx + 1) (by omega) (.bool nx) (.string sx) (.string tx)
    have oy2 := (o_y.far3 (b := gx) (by omega) (.bool ny) (.string sy) (.string ty)).set3 (.bool nx) (.string sx) (.string tx)
    have or2 := (o_r.far3 (b := gx) (by omega) (.bool ny) (.string sy) (.string ty)).far3 (b := gx + 1) (by omega) (.bool nx) (.string sx) (.string tx)
    have hT2 := (hT.set3 HT0.out (g := gx) (by omega) (.bool ny) (.string sy) (.string ty)).set3 HT0.out (g := gx + 1) (by omega) (.bool nx) (.string sx) (.string tx)
    clear hT o_r
    go_upto_region 4 with (fail)
    generalize ((((((w5.setCell ⟨gx, 0, none⟩ (.bool ny)).setCell ⟨gx, 1, none⟩ (.string sy)).setCell ⟨gx, 2, none⟩ (.string ty)).setCell ⟨gx + 1, 0, none⟩ (.bool nx)).setCell ⟨gx + 1, 1, none⟩ (.string sx)).setCell ⟨gx + 1, 2, none⟩ (.string tx)) = w6 at ox2 oy2 or2 hT2 ⊢
    clear q0 q1 q2 p0 p1 p2 fq0 fq1 fq2 fp0 fp1 fp2
    have hT := hT2
    have o_r := or2
    have q0 : w6.cell? ⟨gx, 0, none⟩ = some (.bool ny) := ox2.cell 0
    have q1 : w6.cell? ⟨gx, 1, none⟩ = some (.string sy) := ox2.cell 1
    have q2 : w6.cell? ⟨gx, 2, none⟩ = some (.string ty) := ox2.cell 2
    have u0 : w6.cell? ⟨gx + 1, 0, none⟩ = some (.bool nx) := oy2.cell 0
    have u1 : w6.cell? ⟨gx + 1, 1, none⟩ = some (.string sx) := oy2.cell 1
    have u2 : w6.cell? ⟨gx + 1, 2, none⟩ = some (.string tx) := oy2.cell 2
    have r0 : w6.cell? ⟨w.heap.size, 0, none⟩ = some (.bool false) := o_r.cell 0
    have r1 : w6.cell? ⟨w.heap.size, 1, none⟩ = some (.string ⟨#[]⟩) := o_r.cell 1
    have r2 : w6.cell? ⟨w.heap.size, 2, none⟩ = some (.string ⟨#[]⟩) := o_r.cell 2
    have r3 : w6.cell? ⟨w.heap.size, 3, none⟩ = some (.bool false) := o_r.cell 3
    have r4 : w6.cell? ⟨w.heap.size, 4, none⟩ = some (.string ⟨#[]⟩) := o_r.cell 4
    have r5 : w6.cell? ⟨w.heap.size, 5, none⟩ = some (.string ⟨#[]⟩) := o_r.cell 5
    have fr0 := o_r.frozen 0
    have fr1 := o_r.frozen 1
    have fr2 := o_r.frozen 2
    have fr3 := o_r.frozen 3
    have fr4 := o_r.frozen 4
    have fr5 := o_r.frozen 5
    have oz := o_r.set6 (.bool ny) (.string sy) (.string ty) (.bool nx) (.string sx) (.string tx)
    have HTZ := Lib.hid (hT.set6 HT0.out (Nat.le_refl _) (.bool ny) (.string sy) (.string ty) (.bool nx) (.string sx) (.string tx))
    clear hT
    go_wp2_with fail
    generalize ((((((w6.setCell ⟨w.heap.size, 0, none⟩ (.bool ny)).setCell ⟨w.heap.size, 1, none⟩ (.string sy)).setCell ⟨w.heap.size, 2, none⟩ (.string ty)).setCell ⟨w.heap.size, 3, none⟩ (.bool nx)).setCell ⟨w.heap.size, 4, none⟩ (.string sx)).setCell ⟨w.heap.size, 5, none⟩ (.string tx)) = wz at oz HTZ ⊢
    have z0 : wz.cell? ⟨w.heap.size, 0, none⟩ = some (.bool ny) := oz.cell 0
    have z1 : wz.cell? ⟨w.heap.size, 1, none⟩ = some (.string sy) := oz.cell 1
    have z2 : wz.cell? ⟨w.heap.size, 2, none⟩ = some (.string ty) := oz.cell 2
    have z3 : wz.cell? ⟨w.heap.size, 3, none⟩ = some (.bool nx) := oz.cell 3
    have z4 : wz.cell? ⟨w.heap.size, 4, none⟩ = some (.string sx) := oz.cell 4
    have z5 : wz.cell? ⟨w.heap.size, 5, none⟩ = some (.string tx) := oz.cell 5
    exact bodyPost_ret (v := .agg #[.bool ny, .string sy, .string ty, .bool nx, .string sx, .string tx]) (by simp [results, Try.results21, go_sem, z0, z1, z2, z3, z4, z5]) rfl ⟨⟨y, x, by rw [E6.out], FY.out, FX.out, HLE.out⟩, ⟨_, HTZ.out.1⟩, HTZ.out.2⟩
  · have dz : decide (0 < z) = false := decide_eq_false hz
    have HLE : Hid (x ≤ y) := by show x ≤ y; rw [← Rat.not_lt]; exact fun h => hz (HZ.out.2 h)
    clear hz HZ
    have q0 : w5.cell? ⟨gx, 0, none⟩ = some (.bool nx) := o_x.cell 0
    have q1 : w5.cell? ⟨gx, 1, none⟩ = some (.string sx) := o_x.cell 1
    have q2 : w5.cell? ⟨gx, 2, none⟩ = some (.string tx) := o_x.cell 2
    have u0 : w5.cell? ⟨gx + 1, 0, none⟩ = some (.bool ny) := o_y.cell 0
    have u1 : w5.cell? ⟨gx + 1, 1, none⟩ = some (.string sy) := o_y.cell 1
    have u2 : w5.cell? ⟨gx + 1, 2, none⟩ = some (.string ty) := o_y.cell 2
    have r0 : w5.cell? ⟨w.heap.size, 0, none⟩ = some (.bool false) := o_r.cell 0
    have r1 : w5.cell? ⟨w.heap.size, 1, none⟩ = some (.string ⟨#[]⟩) := o_r.cell 1
    have r2 : w5.cell? ⟨w.heap.size, 2, none⟩ = some (.string ⟨#[]⟩) := o_r.cell 2
    have r3 : w5.cell? ⟨w.heap.size, 3, none⟩ = some (.bool false) := o_r.cell 3
    have r4 : w5.cell? ⟨w.heap.size, 4, none⟩ = some (.string ⟨#[]⟩) := o_r.cell 4
    have r5 : w5.cell? ⟨w.heap.size, 5, none⟩ = some (.string ⟨#[]⟩) := o_r.cell 5
    have fr0 := o_r.frozen 0
    have fr1 := o_r.frozen 1
    have fr2 := o_r.frozen 2
    have fr3 := o_r.frozen 3
    have fr4 := o_r.frozen 4
    have fr5 := o_r.frozen 5
    have oz := o_r.set6 (.bool nx) (.string sx) (.string tx) (.bool ny) (.string sy) (.string ty)
    have HTZ := Lib.hid (hT.set6 HT0.out (Nat.le_refl _) (.bool nx) (.string sx) (.string tx) (.bool ny) (.string sy) (.string ty))
    clear hT
    go_wp2_with fail
    generalize ((((((w5.setCell ⟨w.heap.size, 0, none⟩ (.bool nx)).setCell ⟨w.heap.size, 1, none⟩ (.string sx)).setCell ⟨w.heap.size, 2, none⟩ (.string tx)).setCell ⟨w.heap.size, 3, none⟩ (.bool ny)).setCell ⟨w.heap.size, 4, none⟩ (.string sy)).setCell ⟨w.heap.size, 5, none⟩ (.string ty)) = wz at oz HTZ ⊢
    have z0 : wz.cell? ⟨w.heap.size, 0, none⟩ = some (.bool nx) := oz.cell 0
    have z1 : wz.cell? ⟨w.heap.size, 1, none⟩ = some (.string sx) := oz.cell 1
    have z2 : wz.cell? ⟨w.heap.size, 2, none⟩ = some (.string tx) := oz.cell 2
    have z3 : wz.cell? ⟨w.heap.size, 3, none⟩ = some (.bool ny) := oz.cell 3
    have z4 : wz.cell? ⟨w.heap.size, 4, none⟩ = some (.string sy) := oz.cell 4
    have z5 : wz.cell? ⟨w.heap.size, 5, none⟩ = some (.string ty) := oz.cell 5
    exact bodyPost_ret (v := .agg #[.bool nx, .string sx, .string tx, .bool ny, .string sy, .string ty]) (by simp [results, Try.results21, go_sem, z0, z1, z2, z3, z4, z5]) rfl ⟨⟨x, y, by rw [E3.out], FX.out, FY.out, HLE.out⟩, ⟨_, HTZ.out.1⟩, HTZ.out.2⟩
end Go.Proofs.Ytdjkgjpehneejaa
