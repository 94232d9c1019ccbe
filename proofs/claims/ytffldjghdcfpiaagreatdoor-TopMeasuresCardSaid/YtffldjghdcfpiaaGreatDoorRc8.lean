/- Parts of the proof: Mw, Lsy, Lb8, Ro8, Rs, Ru, Rv, Rx, Ew, Rp8, Rq8, Rc8. No condition of its own. -/
import Derived.Test.YtffldjghdcfpiaaGreatDoorMs
import Derived.Test.YtffldjghdcfpiaaGreatDoorLa
import Derived.Test.YtffldjghdcfpiaaGreatDoorRgt
import Derived.Test.YtffldjghdcfpiaaGreatDoorLl
import Derived.Test.YtffldjghdcfpiaaGreatDoorLq
import Derived.Test.YtffldjghdcfpiaaGreatDoorLk
import Derived.Test.YtffldjghdcfpiaaGreatDoorJa
import Derived.Test.YtffldjghdcfpiaaGreatDoorMu
set_option linter.unusedSimpArgs false
set_option linter.unusedVariables false
set_option linter.unusedSectionVars false
set_option maxRecDepth 100000
set_option maxHeartbeats 4000000
namespace Go.Proofs.YtffldjghdcfpiaaGreatDoor
open Go.RowKit Dg

def CG (g i : Nat) (X : Int → Prop) (w : World) : Prop := ∃ x : Int, X x ∧ w.cell? ⟨g, i, none⟩ = some (.int .i64 x)
theorem CG.far {g i j : Nat} {X : Int → Prop} {w : World} (h : CG g i X w) (hij : i ≠ j) (v : Value) : CG g i X (w.setCell ⟨g, j, none⟩ v) := by
  obtain ⟨x, hx, hc⟩ := h; refine ⟨x, hx, ?_⟩; rw [World.cell?_setCell_other _ _ _ _ (by intro e; injection e with e1 e2; omega)]; exact hc
theorem CG.next {p g i : Nat} {X : Int → Prop} {w w' : World} (h : CG g i X w) (hpg : p ≠ g) (hc : Chg (fun k => k = p) w w') : CG g i X w' := by
  obtain ⟨x, hx, hv⟩ := h; exact ⟨x, hx, hc.cell hv fun e => hpg e.symm⟩
def C2 (a : Nat) (cs : List Value) : Prop := ∃ x y : Value, cs = [.int .i64 (a : Int), x, y, .int .i64 1]
def X1 (a : Nat) (x : Int) : Prop := (a : Int) ≤ x ∧ x < (a : Int) + 20
open Go.RowKit Dg

theorem VC.swap {a p q n : Nat} (h : VC a p q n) : VC a q p n := by
  have h1 := h.pn; have h2 := h.qn; have h3 := h.n2; have h4 := h.ap; have h5 := h.aq; have h6 := h.pq; have h7 := h.n1
  constructor <;> omega
theorem s0 : S 0 = ⟨#[48]⟩ := by decide
theorem rv0 : RV 0 = .agg #[.bool false, .string ⟨#[48]⟩, .string ⟨#[49]⟩] := by
  rw [rv_any (x := 0) (n := 0) (d := 1) (by decide) (by decide), show (0 : Int).natAbs = 0 from rfl, s0, s1]; rfl
theorem sym_facts {a p q n : Nat} (hv : VC a p q n) (w0 : World) : ∃ (nz : Bool) (sz tz : ByteArray) (kz : Int) (nx : Bool) (sx tx : ByteArray) (kx : Int) (nu : Bool) (su tu : ByteArray) (nv : Bool) (sv tv : ByteArray) (z : Int),
    (∀ e, QRes (prodN [n, ((n : Int) * (a : Int) - (p : Int) * (q : Int)).natAbs, ((n : Int) * (a : Int) - (p : Int) * (q : Int)).natAbs]) (prodN [p, n - p, q, n - q]) e → e = .returned (.tuple #[.agg #[.bool nz, .string sz, .string tz], .int .i64 kz])) ∧ (∀ e, QRes (prodN [n, ((n : Int) * (a : Int) - (q : Int) * (p : Int)).natAbs, ((n : Int) * (a : Int) - (q : Int) * (p : Int)).natAbs]) (prodN [q, n - q, p, n - p]) e → e = .returned (.tuple #[.agg #[.bool nz, .string sz, .string tz], .int .i64 kz])) ∧
    (∀ e, QRes (prodN [2, a]) (prodN [p + q]) e → e = .returned (.tuple #[.agg #[.bool nx, .string sx, .string tx], .int .i64 kx])) ∧ (∀ e, QRes (prodN [2, a]) (prodN [q + p]) e → e = .returned (.tuple #[.agg #[.bool nx, .string sx, .string tx], .int .i64 kx])) ∧
    (∀ w, Tab w → Calls Tryz.prog 13 #[.agg #[.int .i64 (a : Int), .int .i64 (p : Int), .int .i64 (q : Int), .int .i64 (n : Int)], .int .i64 3] w fun e w' => e = .returned (.tuple #[.agg #[.bool nu, .string su, .string tu, .bool nv, .string sv, .string tv], .int .i64 0]) ∧ Below w.heap.size w w') ∧
    RetV 11 #[.agg #[.bool nv, .string sv, .string tv], .agg #[.bool false, .string ⟨#[48]⟩, .string ⟨#[49]⟩]] (.int .i64 z) ∧ 0 ≤ z := by
  obtain ⟨nz, sz, tz, kz, g1, -⟩ := qres_one (prodN [n, ((n : Int) * (a : Int) - (p : Int) * (q : Int)).natAbs, ((n : Int) * (a : Int) - (p : Int) * (q : Int)).natAbs]) (prodN [p, n - p, q, n - q]); obtain ⟨nx, sx, tx, kx, g2, -⟩ := qres_one (prodN [2, a]) (prodN [p + q]); obtain ⟨e, h1, h2⟩ := ll_yes (k := 3) hv (by decide) w0; obtain ⟨-, f2, -⟩ := fsum_ok a p q n 3 hv (by decide) e (fun j => by
    rcases Nat.eq_zero_or_pos (fo a p q n j) with h | h
    · exact .inl h
    · exact .inr (h1 j h).2) 4
  have hp := fhi_pos (k := 3) hv e (fun i h => (h1 i h).1); have e1 : prodN [n, ((n : Int) * (a : Int) - (q : Int) * (p : Int)).natAbs, ((n : Int) * (a : Int) - (q : Int) * (p : Int)).natAbs] = prodN [n, ((n : Int) * (a : Int) - (p : Int) * (q : Int)).natAbs, ((n : Int) * (a : Int) - (p : Int) * (q : Int)).natAbs] := by rw [Int.mul_comm (q : Int) (p : Int)]
  have e2 : prodN [q, n - q, p, n - p] = prodN [p, n - p, q, n - q] := by
    simp only [prodN, Nat.mul_one]
    generalize n - q = u; generalize n - p = v
    grind
  have e3 : prodN [q + p] = prodN [p + q] := by rw [Nat.add_comm]
  refine ⟨nz, sz, tz, kz, nx, sx, tx, kx, _, _, _, _, _, _, cmpR (fhi a p q n 3 e 4) 0, g1, ?_, g2, ?_, h2, ?_, ?_⟩
  · rw [e1, e2]; exact g1
  · rw [e3]; exact g2
  · rw [← rv0]; exact fun w => rcmp_yes (f2.ok (by decide)) ⟨by unfold OkN; decide, by unfold OkN; decide⟩ w
  · rcases Int.lt_or_le (cmpR (fhi a p q n 3 e 4) 0) 0 with h | h
    · exact absurd (cmpR_lt.1 h) (Rat.not_lt.2 hp)
    · exact h
open Go.RowKit Dg

open Go.RowKit Dg

theorem rv2 : RV 2 = .agg #[.bool false, .string ⟨#[50]⟩, .string ⟨#[49]⟩] := by
  rw [rv_any (x := 2) (n := 2) (d := 1) (by decide) (by decide), show (2 : Int).natAbs = 2 from rfl, s2, s1]; rfl
open Go.RowKit Dg

theorem rmv_yes {a p q n : Nat} (hv : VC a p q n) : ∀ w, Calls Tryz.prog 4 #[.agg #[.int .i64 (a : Int), .int .i64 (p : Int), .int .i64 (q : Int), .int .i64 (n : Int)]] w fun e w' => e = .returned (.bool true) ∧ Below w.heap.size w w' := by
  intro w; obtain ⟨o_c, hbw⟩ := new1 w [.int .i64 (a : Int), .int .i64 (p : Int), .int .i64 (q : Int), .int .i64 (n : Int)] 23
  go_enter Tryz.func4, Tryz.ntmps4
  go_upto_region 1 with (fail)
  generalize (w.alloc (.cells #[.int .i64 (a : Int), .int .i64 (p : Int), .int .i64 (q : Int), .int .i64 (n : Int)] 23)) = wb at o_c hbw ⊢; have t1 : decide ((1 : Int) ≤ (n : Int)) = true := decide_eq_true (by have := hv.n1; omega); have t2 : decide ((n : Int) ≤ 2147483648) = true := decide_eq_true (by have := hv.n2; omega); have t3 : decide ((p : Int) ≤ (n : Int)) = true := decide_eq_true (by have := hv.pn; omega); have t3' : decide (p ≤ n) = true := decide_eq_true hv.pn; have t4 : decide ((q : Int) ≤ (n : Int)) = true := decide_eq_true (by have := hv.qn; omega); have t4' : decide (q ≤ n) = true := decide_eq_true hv.qn; have z1 : IntKind.i64.wrap ((p : Int) + (q : Int)) = (p : Int) + (q : Int) := IntWalk.i64_in _ (by have := hv.all; omega); have z2 : IntKind.i64.wrap ((p : Int) + (q : Int) - (n : Int)) = (p : Int) + (q : Int) - (n : Int) := IntWalk.i64_in _ (by have := hv.all; omega); have t6 : decide ((p : Int) + (q : Int) - (n : Int) ≤ (a : Int)) = true := decide_eq_true (by have := hv.pq; omega)
  have h1 := hv.n1; have h1' := hv.n2; have h2 := hv.pn; have h3 := hv.qn; have h4 := hv.ap; have h5 := hv.aq; have h6 := hv.pq; clear hv; obtain ⟨qc_0, qc_1, qc_2, qc_3⟩ := o_c.cells4
  go_wp2
  go_ret
  exact ⟨ret_bool (by simp <;> omega), hbw⟩
open Go.RowKit Dg

open Go.RowKit Dg

open Go.RowKit Dg

open Go.RowKit Dg

open Go.RowKit Dg

open Go.RowKit Dg

theorem expected_yes {a p q n : Nat} (hv : VC a p q n) (w : World) (ht : Tab w) :
    Calls Tryz.prog 17 #[.agg #[.int .i64 (a : Int), .int .i64 (p : Int), .int .i64 (q : Int), .int .i64 (n : Int)]] w fun e w' => QRes (prodN [p, q]) (prodN [n]) e ∧ Below w.heap.size w w' := by
  have HV := Lib.hid hv; have T0 := Lib.hid ht; obtain ⟨nz, sz, tz, kz, hend, hres⟩ := qres_one (prodN [p, q]) (prodN [n]); have HEND := Lib.hid hend; have HRES := Lib.hid hres; clear ht hend hres; obtain ⟨o_c, o_r, hbw⟩ := new2 w [.int .i64 (a : Int), .int .i64 (p : Int), .int .i64 (q : Int), .int .i64 (n : Int)] [.bool false, .string ⟨#[]⟩, .string ⟨#[]⟩] 23 26
  go_enter Tryz.func17, Tryz.ntmps17
  go_upto_region 1 with (fail)
  generalize ((w.alloc (.cells #[.int .i64 (a : Int), .int .i64 (p : Int), .int .i64 (q : Int), .int .i64 (n : Int)] 23)).alloc (.cells #[.bool false, .string ⟨#[]⟩, .string ⟨#[]⟩] 26)) = wb at o_c o_r hbw ⊢

  have E1 : Hid ([((p : Int) : Int), ((q : Int) : Int)] = [p, q].map fun (x : Nat) => (x : Int)) := by
    have := hv.all; exact Lib.hid (by simp <;> omega)
  have E2 : Hid ([((n : Int) : Int)] = [n].map fun (x : Nat) => (x : Int)) := by
    have := hv.all; exact Lib.hid (by simp <;> omega)
  have M1 : Hid (Smalls [p, q]) := by
    have := hv.all; exact Lib.hid ⟨by simp, by simp <;> omega⟩
  have M2 : Hid (Smalls [n]) := by
    have := hv.all; exact Lib.hid ⟨by simp, by simp <;> omega⟩
  clear hv; obtain ⟨qc_0, qc_1, qc_2, qc_3⟩ := o_c.cells4; obtain ⟨qm0_0, qm0_1, qm0_2, qm0_3⟩ := (o_c.alloc (.cells #[.int .i64 ((p : Int)), .int .i64 ((q : Int))] 3)).cells4; obtain ⟨o_s0, o_s1, hz1⟩ := new2 wb [.int .i64 ((p : Int)), .int .i64 ((q : Int))] [.int .i64 ((n : Int))] 3 3; replace o_c := o_c.alloc (.cells #[.int .i64 ((p : Int)), .int .i64 ((q : Int))] 3); replace o_c := o_c.alloc (.cells #[.int .i64 ((n : Int))] 3); replace o_r := o_r.alloc (.cells #[.int .i64 ((p : Int)), .int .i64 ((q : Int))] 3); replace o_r := o_r.alloc (.cells #[.int .i64 ((n : Int))] 3); replace hbw := below6 hbw hz1; clear hz1
  go_wp2_with fail
  generalize ((wb.alloc (.cells #[.int .i64 ((p : Int)), .int .i64 ((q : Int))] 3)).alloc (.cells #[.int .i64 ((n : Int))] 3)) = wa2 at o_c o_r o_s0 o_s1 hbw ⊢; generalize wb.heap.size = g2 at o_s0 o_s1 ⊢; refine (quot_any HV.out (some ⟨g2, 0, none⟩) [((p : Int) : Int), ((q : Int) : Int)] [p, q] 2 (some ⟨g2 + 1, 0, none⟩) [((n : Int) : Int)] [n] 1 _ o_s0.rd0 E1.out (by simp) (by decide) M1.out o_s1.rd0 E2.out (by simp) (by decide) M2.out (T0.out.below hbw)).mono ?_; rintro e w9 ⟨hq, hb9⟩; have he := HEND.out _ hq; subst he; replace o_c := o_c.below hb9 o_c.lt; replace o_r := o_r.below hb9 o_r.lt; replace hbw := below6 hbw hb9; clear hb9 hq o_s0 o_s1; obtain ⟨qr_0, qr_1, qr_2⟩ := o_r.cells3; obtain ⟨fr_0, fr_1, fr_2⟩ := o_r.frozens3; have oz := o_r.set3 (.bool nz) (.string sz) (.string tz); have sz9 := Below.set3 hbw (g := w.heap.size + 1) (by omega) (.bool nz) (.string sz) (.string tz)
  go_wp2_with fail
  generalize (((w9.setCell ⟨w.heap.size + 1, 0, none⟩ (.bool nz)).setCell ⟨w.heap.size + 1, 1, none⟩ (.string sz)).setCell ⟨w.heap.size + 1, 2, none⟩ (.string tz)) = wz at oz sz9 ⊢; obtain ⟨z0, z1, z2⟩ := oz.cells3; exact bodyPost_ret (v := .tuple #[.agg #[.bool nz, .string sz, .string tz], .int .i64 kz]) (by simp [results, Tryz.results17, go_sem, z0, z1, z2]) rfl ⟨HRES.out, sz9⟩
open Go.RowKit Dg

open Go.RowKit Dg

end Go.Proofs.YtffldjghdcfpiaaGreatDoor
