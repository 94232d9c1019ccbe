/- Parts of the proof: Ls, Lf, Lh, Li, Lk, Eq, Sc, Mu. No condition of its own. -/
import Derived.Test.YtjimfbmegmnocaaGreatDoorBi
import Derived.Test.YtjimfbmegmnocaaGreatDoorNm
import Derived.Test.YtjimfbmegmnocaaGreatDoorIa
import Derived.Test.YtjimfbmegmnocaaGreatDoorMt
set_option linter.unusedSimpArgs false
set_option linter.unusedVariables false
set_option maxRecDepth 100000
set_option maxHeartbeats 4000000
namespace Go.Proofs.YtjimfbmegmnocaaGreatDoor
open Go.RowKit Dg

theorem Chg.fresh {S : Nat -> Prop} {w w' : World} (h : Chg S w w') {g : Nat} (hg : w.heap.size <= g) (i : Nat) (u : Value) : Chg S w (w'.setCell ⟨g, i, none⟩ u) :=
 ⟨h.os, h.tape, h.output, by have := h.size; simpa [World.setCell] using this, fun k hk hs => (Below.heap_setCell _ _ _ _ (fun e => by have e2 : k = g := e; omega)).trans (h.block k hk hs)⟩
open Go.RowKit Dg

theorem Few.mono {j k : Nat} {x : Rat} (h : Few j x) (hjk : j <= k) : Few k x := ⟨Nat.le_trans h.1 hjk, Nat.le_trans h.2 hjk⟩
open Go.RowKit Dg

open Go.RowKit Dg

def TC (w0 w : World) (p : Nat) (A : Option Addr) (l : List Int) (c a : Nat) : Prop := Tape w p A l c a /\ Chg (fun k => k = p) w0 w
section
variable {w0 w w' : World} {p : Nat} {A : Option Addr} {l : List Int} {c a a0 : Nat}
theorem TC.below (h : TC w0 w p A l c a) (hb : Below w.heap.size w w') : TC w0 w' p A l c a := ⟨h.1.below hb, h.2.trans (Chg.of_below hb fun k h1 h2 => by omega)⟩
theorem TC.set (h : TC w0 w p A l c a) (h0 : Tape w0 p A l c a0) {g : Nat} (hg : w0.heap.size <= g) (i : Nat) (u : Value) : TC w0 (w.setCell ⟨g, i, none⟩ u) p A l c a := by
 have hc := h.2.fresh hg i u; have hlt := h0.own.lt; have hne : p ≠ (⟨g, i, none⟩ : Addr).block := fun e => by have e2 : p = g := e; omega
 exact ⟨⟨h.1.own.far hne u, RdOut.chg h0.rd hc, h.1.le, h.1.few, h.1.wf⟩, hc⟩
theorem TC.set3 (h : TC w0 w p A l c a) (h0 : Tape w0 p A l c a0) {g : Nat} (hg : w0.heap.size <= g) (x y z : Value) : TC w0 (((w.setCell ⟨g, 0, none⟩ x).setCell ⟨g, 1, none⟩ y).setCell ⟨g, 2, none⟩ z) p A l c a :=
 ((h.set h0 hg 0 x).set h0 hg 1 y).set h0 hg 2 z
theorem TC.set6 (h : TC w0 w p A l c a) (h0 : Tape w0 p A l c a0) {g : Nat} (hg : w0.heap.size <= g) (u v x y z q : Value) : TC w0 ((((((w.setCell ⟨g, 0, none⟩ u).setCell ⟨g, 1, none⟩ v).setCell ⟨g, 2, none⟩ x).setCell ⟨g, 3, none⟩ y).setCell ⟨g, 4, none⟩ z).setCell ⟨g, 5, none⟩ q) p A l c a :=
 (((((h.set h0 hg 0 u).set h0 hg 1 v).set h0 hg 2 x).set h0 hg 3 y).set h0 hg 4 z).set h0 hg 5 q
end
open Go.RowKit Dg

open Go.RowKit Dg

open Go.RowKit Dg

open Go.RowKit Dg

theorem check_yes {a p q n k : Nat} (hv : VC a p q n) (hk : k <= 8) (w : World) :
  Calls Tryz.prog 63 #[.agg #[.int .i64 (a : Int), .int .i64 (p : Int), .int .i64 (q : Int), .int .i64 (n : Int)], .int .i64 (k : Int)] w fun e w' => e = .returned (.int .i64 0) /\ Below w.heap.size w w' := by
 have HV := Lib.hid hv; clear hv; obtain ⟨o_c, hbw⟩ := new1 w [.int .i64 (a : Int), .int .i64 (p : Int), .int .i64 (q : Int), .int .i64 (n : Int)] 47
 go_enter Tryz.func63, Tryz.ntmps63
 go_upto_region 1 with (fail)
 generalize (w.alloc (.cells #[.int .i64 (a : Int), .int .i64 (p : Int), .int .i64 (q : Int), .int .i64 (n : Int)] 47)) = wb at o_c hbw |-; have k1 : decide ((k : Int) < 0) = false := decide_eq_false (by omega); have k2 : decide ((k : Int) > 8) = false := decide_eq_false (by omega); have k3 : decide ((8 : Int) < (k : Int)) = false := decide_eq_false (by omega); have k4 : decide ((0 : Int) <= (k : Int)) = true := decide_eq_true (by omega); obtain ⟨qc_0, qc_1, qc_2, qc_3⟩ := o_c.cells4
 go_wp2_with fail
 refine (mvalid_yes HV.out _).mono ?_; rintro e w1 ⟨rfl, hb1⟩; replace o_c := o_c.below hb1 o_c.lt; replace hbw := below6 hbw hb1; clear hb1
 go_wp2
 go_ret
 exact ⟨rfl, hbw⟩
theorem odds_yes {a p q n : Nat} (hv : VC a p q n) (w : World) (ht : Tab w) :
  Calls Tryz.prog 33 #[.agg #[.int .i64 (a : Int), .int .i64 (p : Int), .int .i64 (q : Int), .int .i64 (n : Int)]] w fun e w' => QRes (prodN [a, n + a - p - q]) (prodN [p - a, q - a]) e /\ Below w.heap.size w w' := by
 have HV := Lib.hid hv; have T0 := Lib.hid ht; obtain ⟨nz, sz, tz, kz, hend, hres⟩ := qres_one (prodN [a, n + a - p - q]) (prodN [p - a, q - a]); have HEND := Lib.hid hend; have HRES := Lib.hid hres; clear hv ht hend hres; obtain ⟨o_c, o_r, hbw⟩ := new2 w [.int .i64 (a : Int), .int .i64 (p : Int), .int .i64 (q : Int), .int .i64 (n : Int)] [.bool false, .string ⟨#[]⟩, .string ⟨#[]⟩] 47 73
 go_enter Tryz.func33, Tryz.ntmps33
 go_upto_region 1 with (fail)
 generalize ((w.alloc (.cells #[.int .i64 (a : Int), .int .i64 (p : Int), .int .i64 (q : Int), .int .i64 (n : Int)] 47)).alloc (.cells #[.bool false, .string ⟨#[]⟩, .string ⟨#[]⟩] 73)) = wb at o_c o_r hbw |-; obtain ⟨qc_0, qc_1, qc_2, qc_3⟩ := o_c.cells4
 go_wp2_with fail
 clear qc_0 qc_1 qc_2 qc_3; refine (mvalid_yes HV.out _).mono ?_; rintro e w1 ⟨rfl, hb1⟩; replace o_c := o_c.below hb1 o_c.lt; replace o_r := o_r.below hb1 o_r.lt; replace hbw := below6 hbw hb1; clear hb1; obtain ⟨qc_0, qc_1, qc_2, qc_3⟩ := o_c.cells4
 go_wp2_with fail
 clear qc_0 qc_1 qc_2 qc_3; refine (observed_yes HV.out _).mono ?_; rintro e w2 ⟨rfl, hb2⟩; replace o_c := o_c.below hb2 o_c.lt; replace o_r := o_r.below hb2 o_r.lt; replace hbw := below6 hbw hb2; clear hb2; obtain ⟨o_o, hz3⟩ := new1 w2 [.int .i64 ((a : Int)), .int .i64 ((p : Int) - (a : Int)), .int .i64 ((q : Int) - (a : Int)), .int .i64 ((n : Int) - (p : Int) - (q : Int) + (a : Int))] 117; replace o_c := o_c.alloc (.cells #[.int .i64 ((a : Int)), .int .i64 ((p : Int) - (a : Int)), .int .i64 ((q : Int) - (a : Int)), .int .i64 ((n : Int) - (p : Int) - (q : Int) + (a : Int))] 117); replace o_r := o_r.alloc (.cells #[.int .i64 ((a : Int)), .int .i64 ((p : Int) - (a : Int)), .int .i64 ((q : Int) - (a : Int)), .int .i64 ((n : Int) - (p : Int) - (q : Int) + (a : Int))] 117); replace hbw := below6 hbw hz3; clear hz3; obtain ⟨qo_0, qo_1, qo_2, qo_3⟩ := o_o.cells4; obtain ⟨qc_0, qc_1, qc_2, qc_3⟩ := o_c.cells4
 go_upto_region 4 with (fail)
 generalize (w2.alloc (.cells #[.int .i64 ((a : Int)), .int .i64 ((p : Int) - (a : Int)), .int .i64 ((q : Int) - (a : Int)), .int .i64 ((n : Int) - (p : Int) - (q : Int) + (a : Int))] 117)) = wa4 at o_c o_r o_o hbw |-; generalize w2.heap.size = g4 at o_o |-; have E1 : Hid ([(a : Int), (n : Int) - (p : Int) - (q : Int) + (a : Int)] = [a, n + a - p - q].map fun (x : Nat) => (x : Int)) := by
  have := HV.out.all; exact Lib.hid (by simp <;> omega)
 have M1 : Hid (Smalls [a, n + a - p - q]) := by
  have := HV.out.all; exact Lib.hid ⟨by simp, by simp <;> omega⟩
 have E2 : Hid ([(p : Int) - (a : Int), (q : Int) - (a : Int)] = [p - a, q - a].map fun (x : Nat) => (x : Int)) := by
  have := HV.out.all; exact Lib.hid (by simp <;> omega)
 have M2 : Hid (Smalls [p - a, q - a]) := by
  have := HV.out.all; exact Lib.hid ⟨by simp, by simp <;> omega⟩
 obtain ⟨qc_0, qc_1, qc_2, qc_3⟩ := o_c.cells4; obtain ⟨qo_0, qo_1, qo_2, qo_3⟩ := o_o.cells4; obtain ⟨qm0_0, qm0_1, qm0_2, qm0_3⟩ := (o_c.alloc (.cells #[.int .i64 ((a : Int)), .int .i64 ((n : Int) - (p : Int) - (q : Int) + (a : Int))] 3)).cells4; obtain ⟨qn0_0, qn0_1, qn0_2, qn0_3⟩ := (o_o.alloc (.cells #[.int .i64 ((a : Int)), .int .i64 ((n : Int) - (p : Int) - (q : Int) + (a : Int))] 3)).cells4; obtain ⟨o_s0, o_s1, hz5⟩ := new2 wa4 [.int .i64 ((a : Int)), .int .i64 ((n : Int) - (p : Int) - (q : Int) + (a : Int))] [.int .i64 ((p : Int) - (a : Int)), .int .i64 ((q : Int) - (a : Int))] 3 3; replace o_c := o_c.alloc (.cells #[.int .i64 ((a : Int)), .int .i64 ((n : Int) - (p : Int) - (q : Int) + (a : Int))] 3); replace o_c := o_c.alloc (.cells #[.int .i64 ((p : Int) - (a : Int)), .int .i64 ((q : Int) - (a : Int))] 3); replace o_r := o_r.alloc (.cells #[.int .i64 ((a : Int)), .int .i64 ((n : Int) - (p : Int) - (q : Int) + (a : Int))] 3)
 replace o_r := o_r.alloc (.cells #[.int .i64 ((p : Int) - (a : Int)), .int .i64 ((q : Int) - (a : Int))] 3); replace o_o := o_o.alloc (.cells #[.int .i64 ((a : Int)), .int .i64 ((n : Int) - (p : Int) - (q : Int) + (a : Int))] 3); replace o_o := o_o.alloc (.cells #[.int .i64 ((p : Int) - (a : Int)), .int .i64 ((q : Int) - (a : Int))] 3); replace hbw := below6 hbw hz5; clear hz5
 go_wp2_with fail
 generalize ((wa4.alloc (.cells #[.int .i64 ((a : Int)), .int .i64 ((n : Int) - (p : Int) - (q : Int) + (a : Int))] 3)).alloc (.cells #[.int .i64 ((p : Int) - (a : Int)), .int .i64 ((q : Int) - (a : Int))] 3)) = wa6 at o_c o_r o_o o_s0 o_s1 hbw |-; generalize wa4.heap.size = g6 at o_s0 o_s1 |-; refine (quot_any HV.out (some ⟨g6, 0, none⟩) [(a : Int), (n : Int) - (p : Int) - (q : Int) + (a : Int)] [a, n + a - p - q] 2 (some ⟨g6 + 1, 0, none⟩) [(p : Int) - (a : Int), (q : Int) - (a : Int)] [p - a, q - a] 2 _ o_s0.rd0 E1.out (by simp) (by decide) M1.out o_s1.rd0 E2.out (by simp) (by decide) M2.out (T0.out.below hbw)).mono ?_; rintro e w9 ⟨hq, hb9⟩; have he := HEND.out _ hq; subst he; replace o_c := o_c.below hb9 o_c.lt; replace o_r := o_r.below hb9 o_r.lt; replace hbw := below6 hbw hb9; clear hb9 hq o_s0 o_s1; obtain ⟨qr_0, qr_1, qr_2⟩ := o_r.cells3; obtain ⟨fr_0, fr_1, fr_2⟩ := o_r.frozens3
 have oz := o_r.set3 (.bool nz) (.string sz) (.string tz); have sz9 := Below.set3 hbw (g := w.heap.size + 1) (by omega) (.bool nz) (.string sz) (.string tz)
 go_wp2_with fail
 generalize (((w9.setCell ⟨w.heap.size + 1, 0, none⟩ (.bool nz)).setCell ⟨w.heap.size + 1, 1, none⟩ (.string sz)).setCell ⟨w.heap.size + 1, 2, none⟩ (.string tz)) = wz at oz sz9 |-; obtain ⟨z0, z1, z2⟩ := oz.cells3; exact bodyPost_ret (v := .tuple #[.agg #[.bool nz, .string sz, .string tz], .int .i64 kz]) (by simp [results, Tryz.results33, go_sem, z0, z1, z2]) rfl ⟨HRES.out, sz9⟩
theorem mi_core {a p q n k : Nat} (nx : Bool) (sx tx : ByteArray) (ny : Bool) (sy ty : ByteArray) (nz : Bool) (sz tz : ByteArray) (hv : VC a p q n) (hk : k <= 8) (ha : 0 < a) (hq : ∀ e, QRes (prodN [a, n]) (prodN [p, q]) e -> e = .returned (.tuple #[.agg #[.bool nx, .string sx, .string tx], .int .i64 0])) (hb : RetV 64 #[.agg #[.bool nx, .string sx, .string tx], .int .i64 (k : Int)] (.tuple #[.agg #[.bool ny, .string sy, .string ty, .bool nz, .string sz, .string tz], .int .i64 0])) (w : World) (ht : Tab w) :
  Calls Tryz.prog 34 #[.agg #[.int .i64 (a : Int), .int .i64 (p : Int), .int .i64 (q : Int), .int .i64 (n : Int)], .int .i64 (k : Int)] w fun e w' => e = .returned (.tuple #[.agg #[.bool ny, .string sy, .string ty, .bool nz, .string sz, .string tz], .int .i64 0]) /\ Below w.heap.size w w' := by
 have HV := Lib.hid hv; have HK := Lib.hid hk; have T0 := Lib.hid ht; clear hv hk ht; have HA0 := Lib.hid ha; have HEND := Lib.hid hq; have HBI := Lib.hid hb; clear ha hq hb; obtain ⟨o_c, o_r, hbw⟩ := new2 w [.int .i64 (a : Int), .int .i64 (p : Int), .int .i64 (q : Int), .int .i64 (n : Int)] [.bool false, .string ⟨#[]⟩, .string ⟨#[]⟩, .bool false, .string ⟨#[]⟩, .string ⟨#[]⟩] 47 77
 go_enter Tryz.func34, Tryz.ntmps34
 go_upto_region 1 with (fail)
 generalize ((w.alloc (.cells #[.int .i64 (a : Int), .int .i64 (p : Int), .int .i64 (q : Int), .int .i64 (n : Int)] 47)).alloc (.cells #[.bool false, .string ⟨#[]⟩, .string ⟨#[]⟩, .bool false, .string ⟨#[]⟩, .string ⟨#[]⟩] 77)) = wb at o_c o_r hbw |-; obtain ⟨qc_0, qc_1, qc_2, qc_3⟩ := o_c.cells4
 go_wp2_with fail
 clear qc_0 qc_1 qc_2 qc_3; refine (check_yes HV.out HK.out _).mono ?_; rintro e w1 ⟨rfl, hb1⟩; replace o_c := o_c.below hb1 o_c.lt; replace o_r := o_r.below hb1 o_r.lt; replace hbw := below6 hbw hb1; clear hb1; have ha0 : decide ((a : Int) = 0) = false := decide_eq_false (by have := HA0.out; omega); have ha1 : decide (a = 0) = false := decide_eq_false (by have := HA0.out; omega); have ha2 : ((a : Int) == 0) = false := beq_eq_false_iff_ne.2 (by have := HA0.out; omega); have ha3 : (a == 0) = false := beq_eq_false_iff_ne.2 (by have := HA0.out; omega); obtain ⟨qc_0, qc_1, qc_2, qc_3⟩ := o_c.cells4
 go_upto_region 6 with (fail)
 have E1 : Hid ([(a : Int), (n : Int)] = [a, n].map fun (x : Nat) => (x : Int)) := by
  have := HV.out.all; exact Lib.hid (by simp <;> omega)
 have M1 : Hid (Smalls [a, n]) := by
  have := HV.out.all; exact Lib.hid ⟨by simp, by simp <;> omega⟩
 have E2 : Hid ([(p : Int), (q : Int)] = [p, q].map fun (x : Nat) => (x : Int)) := by
  have := HV.out.all; exact Lib.hid (by simp <;> omega)
 have M2 : Hid (Smalls [p, q]) := by
  have := HV.out.all; exact Lib.hid ⟨by simp, by simp <;> omega⟩
 obtain ⟨qc_0, qc_1, qc_2, qc_3⟩ := o_c.cells4; obtain ⟨qm0_0, qm0_1, qm0_2, qm0_3⟩ := (o_c.alloc (.cells #[.int .i64 ((a : Int)), .int .i64 ((n : Int))] 3)).cells4; obtain ⟨o_s0, o_s1, hz2⟩ := new2 w1 [.int .i64 ((a : Int)), .int .i64 ((n : Int))] [.int .i64 ((p : Int)), .int .i64 ((q : Int))] 3 3; replace o_c := o_c.alloc (.cells #[.int .i64 ((a : Int)), .int .i64 ((n : Int))] 3); replace o_c := o_c.alloc (.cells #[.int .i64 ((p : Int)), .int .i64 ((q : Int))] 3); replace o_r := o_r.alloc (.cells #[.int .i64 ((a : Int)), .int .i64 ((n : Int))] 3); replace o_r := o_r.alloc (.cells #[.int .i64 ((p : Int)), .int .i64 ((q : Int))] 3); replace hbw := below6 hbw hz2; clear hz2
 go_wp2_with fail
 generalize ((w1.alloc (.cells #[.int .i64 ((a : Int)), .int .i64 ((n : Int))] 3)).alloc (.cells #[.int .i64 ((p : Int)), .int .i64 ((q : Int))] 3)) = wa3 at o_c o_r o_s0 o_s1 hbw |-; generalize w1.heap.size = g3 at o_s0 o_s1 |-; refine (quot_any HV.out (some ⟨g3, 0, none⟩) [(a : Int), (n : Int)] [a, n] 2 (some ⟨g3 + 1, 0, none⟩) [(p : Int), (q : Int)] [p, q] 2 _ o_s0.rd0 E1.out (by simp) (by decide) M1.out o_s1.rd0 E2.out (by simp) (by decide) M2.out (T0.out.below hbw)).mono ?_; rintro e w9 ⟨hq, hb9⟩; have he := HEND.out _ hq; subst he; replace o_c := o_c.below hb9 o_c.lt; replace o_r := o_r.below hb9 o_r.lt; replace hbw := below6 hbw hb9; clear hb9 hq o_s0 o_s1; obtain ⟨o_x, hz4⟩ := new1 w9 [.bool nx, .string sx, .string tx] 73; replace o_c := o_c.alloc (.cells #[.bool nx, .string sx, .string tx] 73); replace o_r := o_r.alloc (.cells #[.bool nx, .string sx, .string tx] 73); replace hbw := below6 hbw hz4
 clear hz4
 go_upto_region 9 with (fail)
 generalize (w9.alloc (.cells #[.bool nx, .string sx, .string tx] 73)) = wa5 at o_c o_r o_x hbw |-; generalize w9.heap.size = g5 at o_x |-; have qx_0 := o_x.c0; have qx_1 := o_x.c1; have qx_2 := o_x.c2
 go_wp2_with fail
 clear qx_0 qx_1 qx_2; refine (HBI.out _).mono ?_; rintro e w6 ⟨rfl, hb6⟩; replace o_c := o_c.below hb6 o_c.lt; replace o_r := o_r.below hb6 o_r.lt; replace o_x := o_x.below hb6 o_x.lt; replace hbw := below6 hbw hb6; clear hb6; obtain ⟨qr_0, qr_1, qr_2, qr_3, qr_4, qr_5⟩ := o_r.cells6; obtain ⟨fr_0, fr_1, fr_2, fr_3, fr_4, fr_5⟩ := o_r.frozens6; have oz := o_r.set6 (.bool ny) (.string sy) (.string ty) (.bool nz) (.string sz) (.string tz); have sz9 := Below.set6 hbw (g := w.heap.size + 1) (by omega) (.bool ny) (.string sy) (.string ty) (.bool nz) (.string sz) (.string tz)
 go_wp2_with fail
 generalize ((((((w6.setCell ⟨w.heap.size + 1, 0, none⟩ (.bool ny)).setCell ⟨w.heap.size + 1, 1, none⟩ (.string sy)).setCell ⟨w.heap.size + 1, 2, none⟩ (.string ty)).setCell ⟨w.heap.size + 1, 3, none⟩ (.bool nz)).setCell ⟨w.heap.size + 1, 4, none⟩ (.string sz)).setCell ⟨w.heap.size + 1, 5, none⟩ (.string tz)) = wz at oz sz9 |-; obtain ⟨z0, z1, z2, z3, z4, z5⟩ := oz.cells6; exact bodyPost_ret (v := .tuple #[.agg #[.bool ny, .string sy, .string ty, .bool nz, .string sz, .string tz], .int .i64 0]) (by simp [results, Tryz.results34, go_sem, z0, z1, z2, z3, z4, z5]) rfl ⟨rfl, sz9⟩
end Go.Proofs.YtjimfbmegmnocaaGreatDoor
