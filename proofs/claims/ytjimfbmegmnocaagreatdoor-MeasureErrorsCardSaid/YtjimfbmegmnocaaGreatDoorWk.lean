/- Parts of the proof: Ls, Lf, Lh, Li, Lk, Eq, Sc, Mu, Mv, Wk. No condition of its own. -/
import Derived.Test.YtjimfbmegmnocaaGreatDoorBi
import Derived.Test.YtjimfbmegmnocaaGreatDoorNm
import Derived.Test.YtjimfbmegmnocaaGreatDoorIt
import Derived.Test.YtjimfbmegmnocaaGreatDoorMt
import Derived.Test.YtjimfbmegmnocaaGreatDoorWe
import Derived.Test.YtjimfbmegmnocaaGreatDoorWj
set_option linter.unusedSimpArgs false
set_option linter.unusedVariables false
set_option maxRecDepth 100000
set_option maxHeartbeats 4000000
namespace Go.Proofs.YtjimfbmegmnocaaGreatDoor
open Go.RowKit Dg

theorem Chg.fresh {S : Nat -> Prop} {w w' : World} (h : Chg S w w') {g : Nat} (hg : w.heap.size <= g) (i : Nat) (u : Value) : Chg S w (w'.setCell ⟨g, i, none⟩ u) :=
 ⟨h.os, h.tape, h.output, by have := h.size; simpa [World.setCell] using this, fun k hk hs => (Below.heap_setCell _ _ _ _ (fun e => by have e2 : k = g := e; omega)).trans (h.block k hk hs)⟩
open Go.RowKit Dg

theorem Few.mono {j k : Nat} {x : Rat} (h : Few j x) (hjk : j <= k) : Few k x := ⟨Nat.le_trans h.1 hjk, Nat.le_trans h.2 hjk⟩
open Go.RowKit Dg

open Go.RowKit Dg

def TC (w0 w : World) (p : Nat) (A : Option Addr) (l : List Int) (c a : Nat) : Prop := Tape w p A l c a /\ Chg (fun k => k = p) w0 w
section
variable {w0 w w' : World} {p : Nat} {A : Option Addr} {l : List Int} {c a a0 : Nat}
theorem TC.below (h : TC w0 w p A l c a) (hb : Below w.heap.size w w') : TC w0 w' p A l c a := ⟨h.1.below hb, h.2.trans (Chg.of_below hb fun k h1 h2 => by omega)⟩
theorem TC.set (h : TC w0 w p A l c a) (h0 : Tape w0 p A l c a0) {g : Nat} (hg : w0.heap.size <= g) (i : Nat) (u : Value) : TC w0 (w.setCell ⟨g, i, none⟩ u) p A l c a := by
 have hc := h.2.fresh hg i u; have hlt := h0.own.lt; have hne : p ≠ (⟨g, i, none⟩ : Addr).block := fun e => by have e2 : p = g := e; omega
 exact ⟨⟨h.1.own.far hne u, RdOut.chg h0.rd hc, h.1.le, h.1.few, h.1.wf⟩, hc⟩
theorem TC.set3 (h : TC w0 w p A l c a) (h0 : Tape w0 p A l c a0) {g : Nat} (hg : w0.heap.size <= g) (x y z : Value) : TC w0 (((w.setCell ⟨g, 0, none⟩ x).setCell ⟨g, 1, none⟩ y).setCell ⟨g, 2, none⟩ z) p A l c a :=
 ((h.set h0 hg 0 x).set h0 hg 1 y).set h0 hg 2 z
theorem TC.set6 (h : TC w0 w p A l c a) (h0 : Tape w0 p A l c a0) {g : Nat} (hg : w0.heap.size <= g) (u v x y z q : Value) : TC w0 ((((((w.setCell ⟨g, 0, none⟩ u).setCell ⟨g, 1, none⟩ v).setCell ⟨g, 2, none⟩ x).setCell ⟨g, 3, none⟩ y).setCell ⟨g, 4, none⟩ z).setCell ⟨g, 5, none⟩ q) p A l c a :=
 (((((h.set h0 hg 0 u).set h0 hg 1 v).set h0 hg 2 x).set h0 hg 3 y).set h0 hg 4 z).set h0 hg 5 q
end
open Go.RowKit Dg

open Go.RowKit Dg

open Go.RowKit Dg

open Go.RowKit Dg

theorem check_yes {a p q n k : Nat} (hv : VC a p q n) (hk : k <= 8) (w : World) :
  Calls Tryz.prog 63 #[.agg #[.int .i64 (a : Int), .int .i64 (p : Int), .int .i64 (q : Int), .int .i64 (n : Int)], .int .i64 (k : Int)] w fun e w' => e = .returned (.int .i64 0) /\ Below w.heap.size w w' := by
 have HV := Z' hv; clear hv; obtain ⟨o_c, hbw⟩ := new1 w [.int .i64 (a : Int), .int .i64 (p : Int), .int .i64 (q : Int), .int .i64 (n : Int)] 47
 go_enter Tryz.func63, Tryz.ntmps63
 go_upto_region 1 with (fail)
 generalize (w.alloc (.cells #[.int .i64 (a : Int), .int .i64 (p : Int), .int .i64 (q : Int), .int .i64 (n : Int)] 47)) = wb at o_c hbw |-; have k1 : decide ((k : Int) < 0) = false := decide_eq_false (by omega); have k2 : decide ((k : Int) > 8) = false := decide_eq_false (by omega); have k3 : decide ((8 : Int) < (k : Int)) = false := decide_eq_false (by omega); have k4 : decide ((0 : Int) <= (k : Int)) = true := decide_eq_true (by omega); obtain ⟨qc_0, qc_1, qc_2, qc_3⟩ := o_c.cells4
 go_wp2_with fail
 refine (mvalid_yes HV.out _).mono ?_; rintro e w1 ⟨rfl, hb1⟩; replace o_c := o_c.below hb1 o_c.lt; replace hbw := below6 hbw hb1; clear hb1
 go_wp2
 go_ret
 exact ⟨rfl, hbw⟩
theorem odds_yes {a p q n : Nat} (hv : VC a p q n) (w : World) (ht : Tab w) (hs9 : prodN [p - a, q - a] < 4294967296) :
  Calls Tryz.prog 33 #[.agg #[.int .i64 (a : Int), .int .i64 (p : Int), .int .i64 (q : Int), .int .i64 (n : Int)]] w fun e w' => QRes (prodN [a, n + a - p - q]) (prodN [p - a, q - a]) e /\ Below w.heap.size w w' := by
 have HS9 := Z' hs9; clear hs9; have HV := Z' hv; have T0 := Z' ht; obtain ⟨nz, sz, tz, kz, hend, hres⟩ := qres_one (prodN [a, n + a - p - q]) (prodN [p - a, q - a]); have HEND := Z' hend; have HRES := Z' hres; clear hv ht hend hres; obtain ⟨o_c, o_r, hbw⟩ := new2 w [.int .i64 (a : Int), .int .i64 (p : Int), .int .i64 (q : Int), .int .i64 (n : Int)] [.bool false, .string ⟨#[]⟩, .string ⟨#[]⟩] 47 73
 go_enter Tryz.func33, Tryz.ntmps33
 go_upto_region 1 with (fail)
 generalize ((w.alloc (.cells #[.int .i64 (a : Int), .int .i64 (p : Int), .int .i64 (q : Int), .int .i64 (n : Int)] 47)).alloc (.cells #[.bool false, .string ⟨#[]⟩, .string ⟨#[]⟩] 73)) = wb at o_c o_r hbw |-; obtain ⟨qc_0, qc_1, qc_2, qc_3⟩ := o_c.cells4
 go_wp2_with fail
 clear qc_0 qc_1 qc_2 qc_3; refine (mvalid_yes HV.out _).mono ?_; rintro e w1 ⟨rfl, hb1⟩; replace o_c := o_c.below hb1 o_c.lt; replace o_r := o_r.below hb1 o_r.lt; replace hbw := below6 hbw hb1; clear hb1; obtain ⟨qc_0, qc_1, qc_2, qc_3⟩ := o_c.cells4
 go_wp2_with fail
 clear qc_0 qc_1 qc_2 qc_3; refine (observed_yes HV.out _).mono ?_; rintro e w2 ⟨rfl, hb2⟩; replace o_c := o_c.below hb2 o_c.lt; replace o_r := o_r.below hb2 o_r.lt; replace hbw := below6 hbw hb2; clear hb2; obtain ⟨o_o, hz3⟩ := new1 w2 [.int .i64 ((a : Int)), .int .i64 ((p : Int) - (a : Int)), .int .i64 ((q : Int) - (a : Int)), .int .i64 ((n : Int) - (p : Int) - (q : Int) + (a : Int))] 117; replace o_c := o_c.alloc (.cells #[.int .i64 ((a : Int)), .int .i64 ((p : Int) - (a : Int)), .int .i64 ((q : Int) - (a : Int)), .int .i64 ((n : Int) - (p : Int) - (q : Int) + (a : Int))] 117); replace o_r := o_r.alloc (.cells #[.int .i64 ((a : Int)), .int .i64 ((p : Int) - (a : Int)), .int .i64 ((q : Int) - (a : Int)), .int .i64 ((n : Int) - (p : Int) - (q : Int) + (a : Int))] 117); replace hbw := below6 hbw hz3; clear hz3; obtain ⟨qo_0, qo_1, qo_2, qo_3⟩ := o_o.cells4; obtain ⟨qc_0, qc_1, qc_2, qc_3⟩ := o_c.cells4
 go_upto_region 4 with (fail)
 generalize (w2.alloc (.cells #[.int .i64 ((a : Int)), .int .i64 ((p : Int) - (a : Int)), .int .i64 ((q : Int) - (a : Int)), .int .i64 ((n : Int) - (p : Int) - (q : Int) + (a : Int))] 117)) = wa4 at o_c o_r o_o hbw |-; generalize w2.heap.size = g4 at o_o |-; have E1 : Hid ([(a : Int), (n : Int) - (p : Int) - (q : Int) + (a : Int)] = [a, n + a - p - q].map fun (x : Nat) => (x : Int)) := by
  have := HV.out.all; exact Z' (by simp <;> omega)
 have M1 : Hid (Smalls [a, n + a - p - q]) := by
  have := HV.out.all; exact Z' ⟨by simp, by simp <;> omega⟩
 have E2 : Hid ([(p : Int) - (a : Int), (q : Int) - (a : Int)] = [p - a, q - a].map fun (x : Nat) => (x : Int)) := by
  have := HV.out.all; exact Z' (by simp <;> omega)
 have M2 : Hid (Smalls [p - a, q - a]) := by
  have := HV.out.all; exact Z' ⟨by simp, by simp <;> omega⟩
 obtain ⟨qc_0, qc_1, qc_2, qc_3⟩ := o_c.cells4; obtain ⟨qo_0, qo_1, qo_2, qo_3⟩ := o_o.cells4; obtain ⟨qm0_0, qm0_1, qm0_2, qm0_3⟩ := (o_c.alloc (.cells #[.int .i64 ((a : Int)), .int .i64 ((n : Int) - (p : Int) - (q : Int) + (a : Int))] 3)).cells4; obtain ⟨qn0_0, qn0_1, qn0_2, qn0_3⟩ := (o_o.alloc (.cells #[.int .i64 ((a : Int)), .int .i64 ((n : Int) - (p : Int) - (q : Int) + (a : Int))] 3)).cells4; obtain ⟨o_s0, o_s1, hz5⟩ := new2 wa4 [.int .i64 ((a : Int)), .int .i64 ((n : Int) - (p : Int) - (q : Int) + (a : Int))] [.int .i64 ((p : Int) - (a : Int)), .int .i64 ((q : Int) - (a : Int))] 3 3; replace o_c := o_c.alloc (.cells #[.int .i64 ((a : Int)), .int .i64 ((n : Int) - (p : Int) - (q : Int) + (a : Int))] 3); replace o_c := o_c.alloc (.cells #[.int .i64 ((p : Int) - (a : Int)), .int .i64 ((q : Int) - (a : Int))] 3); replace o_r := o_r.alloc (.cells #[.int .i64 ((a : Int)), .int .i64 ((n : Int) - (p : Int) - (q : Int) + (a : Int))] 3)
 replace o_r := o_r.alloc (.cells #[.int .i64 ((p : Int) - (a : Int)), .int .i64 ((q : Int) - (a : Int))] 3); replace o_o := o_o.alloc (.cells #[.int .i64 ((a : Int)), .int .i64 ((n : Int) - (p : Int) - (q : Int) + (a : Int))] 3); replace o_o := o_o.alloc (.cells #[.int .i64 ((p : Int) - (a : Int)), .int .i64 ((q : Int) - (a : Int))] 3); replace hbw := below6 hbw hz5; clear hz5
 go_wp2_with fail
 generalize ((wa4.alloc (.cells #[.int .i64 ((a : Int)), .int .i64 ((n : Int) - (p : Int) - (q : Int) + (a : Int))] 3)).alloc (.cells #[.int .i64 ((p : Int) - (a : Int)), .int .i64 ((q : Int) - (a : Int))] 3)) = wa6 at o_c o_r o_o o_s0 o_s1 hbw |-; generalize wa4.heap.size = g6 at o_s0 o_s1 |-; refine (quot_any HV.out (some ⟨g6, 0, none⟩) [(a : Int), (n : Int) - (p : Int) - (q : Int) + (a : Int)] [a, n + a - p - q] 2 (some ⟨g6 + 1, 0, none⟩) [(p : Int) - (a : Int), (q : Int) - (a : Int)] [p - a, q - a] 2 _ o_s0.rd0 E1.out (by simp) (by decide) M1.out o_s1.rd0 E2.out (by simp) (by decide) M2.out (T0.out.below hbw) HS9.out).mono ?_; rintro e w9 ⟨hq, hb9⟩; have he := HEND.out _ hq; subst he; replace o_c := o_c.below hb9 o_c.lt; replace o_r := o_r.below hb9 o_r.lt; replace hbw := below6 hbw hb9; clear hb9 hq o_s0 o_s1; obtain ⟨qr_0, qr_1, qr_2⟩ := o_r.cells3; obtain ⟨fr_0, fr_1, fr_2⟩ := o_r.frozens3
 have oz := o_r.set3 (.bool nz) (.string sz) (.string tz); have sz9 := Below.set3 hbw (g := w.heap.size + 1) (by omega) (.bool nz) (.string sz) (.string tz)
 go_wp2_with fail
 generalize (((w9.setCell ⟨w.heap.size + 1, 0, none⟩ (.bool nz)).setCell ⟨w.heap.size + 1, 1, none⟩ (.string sz)).setCell ⟨w.heap.size + 1, 2, none⟩ (.string tz)) = wz at oz sz9 |-; obtain ⟨z0, z1, z2⟩ := oz.cells3; exact bodyPost_ret (v := .tuple #[.agg #[.bool nz, .string sz, .string tz], .int .i64 kz]) (by simp [results, Tryz.results33, go_sem, z0, z1, z2]) rfl ⟨HRES.out, sz9⟩
theorem mi_core {a p q n k : Nat} (nx : Bool) (sx tx : ByteArray) (ny : Bool) (sy ty : ByteArray) (nz : Bool) (sz tz : ByteArray) (hv : VC a p q n) (hk : k <= 8) (ha : 0 < a) (hq : ∀ e, QRes (prodN [a, n]) (prodN [p, q]) e -> e = .returned (.tuple #[.agg #[.bool nx, .string sx, .string tx], .int .i64 0])) (hb : RetV 64 #[.agg #[.bool nx, .string sx, .string tx], .int .i64 (k : Int)] (.tuple #[.agg #[.bool ny, .string sy, .string ty, .bool nz, .string sz, .string tz], .int .i64 0])) (w : World) (ht : Tab w) (hs9 : prodN [p, q] < 4294967296) :
  Calls Tryz.prog 34 #[.agg #[.int .i64 (a : Int), .int .i64 (p : Int), .int .i64 (q : Int), .int .i64 (n : Int)], .int .i64 (k : Int)] w fun e w' => e = .returned (.tuple #[.agg #[.bool ny, .string sy, .string ty, .bool nz, .string sz, .string tz], .int .i64 0]) /\ Below w.heap.size w w' := by
 have HS9 := Z' hs9; clear hs9; have HV := Z' hv; have HK := Z' hk; have T0 := Z' ht; clear hv hk ht; have HA0 := Z' ha; have HEND := Z' hq; have HBI := Z' hb; clear ha hq hb; obtain ⟨o_c, o_r, hbw⟩ := new2 w [.int .i64 (a : Int), .int .i64 (p : Int), .int .i64 (q : Int), .int .i64 (n : Int)] [.bool false, .string ⟨#[]⟩, .string ⟨#[]⟩, .bool false, .string ⟨#[]⟩, .string ⟨#[]⟩] 47 77
 go_enter Tryz.func34, Tryz.ntmps34
 go_upto_region 1 with (fail)
 generalize ((w.alloc (.cells #[.int .i64 (a : Int), .int .i64 (p : Int), .int .i64 (q : Int), .int .i64 (n : Int)] 47)).alloc (.cells #[.bool false, .string ⟨#[]⟩, .string ⟨#[]⟩, .bool false, .string ⟨#[]⟩, .string ⟨#[]⟩] 77)) = wb at o_c o_r hbw |-; obtain ⟨qc_0, qc_1, qc_2, qc_3⟩ := o_c.cells4
 go_wp2_with fail
 clear qc_0 qc_1 qc_2 qc_3; refine (check_yes HV.out HK.out _).mono ?_; rintro e w1 ⟨rfl, hb1⟩; replace o_c := o_c.below hb1 o_c.lt; replace o_r := o_r.below hb1 o_r.lt; replace hbw := below6 hbw hb1; clear hb1; have ha0 : decide ((a : Int) = 0) = false := decide_eq_false (by have := HA0.out; omega); have ha1 : decide (a = 0) = false := decide_eq_false (by have := HA0.out; omega); have ha2 : ((a : Int) == 0) = false := beq_eq_false_iff_ne.2 (by have := HA0.out; omega); have ha3 : (a == 0) = false := beq_eq_false_iff_ne.2 (by have := HA0.out; omega); obtain ⟨qc_0, qc_1, qc_2, qc_3⟩ := o_c.cells4
 go_upto_region 6 with (fail)
 have E1 : Hid ([(a : Int), (n : Int)] = [a, n].map fun (x : Nat) => (x : Int)) := by
  have := HV.out.all; exact Z' (by simp <;> omega)
 have M1 : Hid (Smalls [a, n]) := by
  have := HV.out.all; exact Z' ⟨by simp, by simp <;> omega⟩
 have E2 : Hid ([(p : Int), (q : Int)] = [p, q].map fun (x : Nat) => (x : Int)) := by
  have := HV.out.all; exact Z' (by simp <;> omega)
 have M2 : Hid (Smalls [p, q]) := by
  have := HV.out.all; exact Z' ⟨by simp, by simp <;> omega⟩
 obtain ⟨qc_0, qc_1, qc_2, qc_3⟩ := o_c.cells4; obtain ⟨qm0_0, qm0_1, qm0_2, qm0_3⟩ := (o_c.alloc (.cells #[.int .i64 ((a : Int)), .int .i64 ((n : Int))] 3)).cells4; obtain ⟨o_s0, o_s1, hz2⟩ := new2 w1 [.int .i64 ((a : Int)), .int .i64 ((n : Int))] [.int .i64 ((p : Int)), .int .i64 ((q : Int))] 3 3; replace o_c := o_c.alloc (.cells #[.int .i64 ((a : Int)), .int .i64 ((n : Int))] 3); replace o_c := o_c.alloc (.cells #[.int .i64 ((p : Int)), .int .i64 ((q : Int))] 3); replace o_r := o_r.alloc (.cells #[.int .i64 ((a : Int)), .int .i64 ((n : Int))] 3); replace o_r := o_r.alloc (.cells #[.int .i64 ((p : Int)), .int .i64 ((q : Int))] 3); replace hbw := below6 hbw hz2; clear hz2
 go_wp2_with fail
 generalize ((w1.alloc (.cells #[.int .i64 ((a : Int)), .int .i64 ((n : Int))] 3)).alloc (.cells #[.int .i64 ((p : Int)), .int .i64 ((q : Int))] 3)) = wa3 at o_c o_r o_s0 o_s1 hbw |-; generalize w1.heap.size = g3 at o_s0 o_s1 |-; refine (quot_any HV.out (some ⟨g3, 0, none⟩) [(a : Int), (n : Int)] [a, n] 2 (some ⟨g3 + 1, 0, none⟩) [(p : Int), (q : Int)] [p, q] 2 _ o_s0.rd0 E1.out (by simp) (by decide) M1.out o_s1.rd0 E2.out (by simp) (by decide) M2.out (T0.out.below hbw) HS9.out).mono ?_; rintro e w9 ⟨hq, hb9⟩; have he := HEND.out _ hq; subst he; replace o_c := o_c.below hb9 o_c.lt; replace o_r := o_r.below hb9 o_r.lt; replace hbw := below6 hbw hb9; clear hb9 hq o_s0 o_s1; obtain ⟨o_x, hz4⟩ := new1 w9 [.bool nx, .string sx, .string tx] 73; replace o_c := o_c.alloc (.cells #[.bool nx, .string sx, .string tx] 73); replace o_r := o_r.alloc (.cells #[.bool nx, .string sx, .string tx] 73); replace hbw := below6 hbw hz4
 clear hz4
 go_upto_region 9 with (fail)
 generalize (w9.alloc (.cells #[.bool nx, .string sx, .string tx] 73)) = wa5 at o_c o_r o_x hbw |-; generalize w9.heap.size = g5 at o_x |-; have qx_0 := o_x.c0; have qx_1 := o_x.c1; have qx_2 := o_x.c2
 go_wp2_with fail
 clear qx_0 qx_1 qx_2; refine (HBI.out _).mono ?_; rintro e w6 ⟨rfl, hb6⟩; replace o_c := o_c.below hb6 o_c.lt; replace o_r := o_r.below hb6 o_r.lt; replace o_x := o_x.below hb6 o_x.lt; replace hbw := below6 hbw hb6; clear hb6; obtain ⟨qr_0, qr_1, qr_2, qr_3, qr_4, qr_5⟩ := o_r.cells6; obtain ⟨fr_0, fr_1, fr_2, fr_3, fr_4, fr_5⟩ := o_r.frozens6; have oz := o_r.set6 (.bool ny) (.string sy) (.string ty) (.bool nz) (.string sz) (.string tz); have sz9 := Below.set6 hbw (g := w.heap.size + 1) (by omega) (.bool ny) (.string sy) (.string ty) (.bool nz) (.string sz) (.string tz)
 go_wp2_with fail
 generalize ((((((w6.setCell ⟨w.heap.size + 1, 0, none⟩ (.bool ny)).setCell ⟨w.heap.size + 1, 1, none⟩ (.string sy)).setCell ⟨w.heap.size + 1, 2, none⟩ (.string ty)).setCell ⟨w.heap.size + 1, 3, none⟩ (.bool nz)).setCell ⟨w.heap.size + 1, 4, none⟩ (.string sz)).setCell ⟨w.heap.size + 1, 5, none⟩ (.string tz)) = wz at oz sz9 |-; obtain ⟨z0, z1, z2, z3, z4, z5⟩ := oz.cells6; exact bodyPost_ret (v := .tuple #[.agg #[.bool ny, .string sy, .string ty, .bool nz, .string sz, .string tz], .int .i64 0]) (by simp [results, Tryz.results34, go_sem, z0, z1, z2, z3, z4, z5]) rfl ⟨rfl, sz9⟩
open Go.RowKit Dg

theorem qres_yes {P Q : Nat} (h : 0 < Q) (hf : OkR (rat false P Q)) : ∀ e, QRes P Q e -> e = .returned (.tuple #[RV (rat false P Q), .int .i64 0]) := by
 rintro e (⟨h1, _⟩ | ⟨_, h2⟩)
 ·omega
 ·exact h2.ok hf
theorem few_quo {P Q : Nat} (h : 0 < Q) (h1 : P < 10 ^ 70) (h2 : Q < 10 ^ 70) : Few 70 (rat false P Q) := few_rat h (dec_len_le (by decide) h1) (dec_len_le (by decide) h2)
theorem rat_pos' {P Q : Nat} (hp : 0 < P) (hq : 0 < Q) : 0 < rat false P Q := by
 rw [rat_quo, Rat.lt_div_iff (Rat.natCast_pos.2 hq), Rat.zero_mul]; exact Rat.natCast_pos.2 hp
def hiq (x : Rat) (i : Int) (k : Nat) : Rat := if p2 i = x ^ (2 ^ k) then uq i k else uq (i + 1) k
theorem VC.prod {a p q n x y : Nat} (hx : x <= 4294967296) (hy : y <= 4294967296) : prodN [x, y] < 10 ^ 70 := by
 have h1 : x * y <= 4294967296 * 4294967296 := Nat.mul_le_mul hx hy
 simp only [prodN, Nat.mul_one]
 exact Nat.lt_of_le_of_lt h1 (by decide)
theorem mi_yes {a p q n k : Nat} (hv : VC a p q n) (hk : k <= 8) (ha : 0 < a) (hs9 : prodN [p, q] < 4294967296) (w0 : World) : ∃ i : Int, IsLog (rat false (prodN [a, n]) (prodN [p, q]) ^ (2 ^ k)) i /\ -1000000 <= i /\ i <= 1000000 /\
  ∀ w, Tab w -> Calls Tryz.prog 34 #[CV a p q n, .int .i64 (k : Int)] w fun e w' => e = .returned (.tuple #[IV (uq i k) (hiq (rat false (prodN [a, n]) (prodN [p, q])) i k), .int .i64 0]) /\ Below w.heap.size w w' := by
 have h1 := hv.pn; have h2 := hv.qn; have h3 := hv.n2; have h4 := hv.ap; have h5 := hv.aq; have h6 := hv.pq; have h7 := hv.n1
 have hp : 0 < prodN [a, n] := by simp only [prodN, Nat.mul_one]; exact Nat.mul_pos ha (by omega)
 have hq : 0 < prodN [p, q] := by simp only [prodN, Nat.mul_one]; exact Nat.mul_pos (by omega) (by omega)
 have hf := few_quo hq (VC.prod (a := a) (p := p) (q := q) (n := n) (x := a) (y := n) (by omega) (by omega)) (VC.prod (a := a) (p := p) (q := q) (n := n) (x := p) (y := q) (by omega) (by omega)); obtain ⟨i, g1, g2, g3, -, g5⟩ := ebits_yes hf (rat_pos' hp hq) hk (by rw [rat_den false hq]; exact Nat.lt_of_le_of_lt (Nat.div_le_self _ _) hs9) w0; exact ⟨i, g1, g2, g3, fun w ht => mi_core _ _ _ _ _ _ _ _ _ hv hk ha (qres_yes hq (hf.ok (by decide))) g5 w ht hs9⟩
open Go.RowKit Dg

open Go.RowKit Dg

theorem vc_ex : VC 2 4 2 16 := ⟨by decide, by decide, by decide, by decide, by decide, by decide, by decide⟩
theorem rv_any {x : Rat} {n : Int} {d : Nat} (hn : x.num = n) (hd : x.den = d) : RV x = .agg #[.bool (decide (n < 0)), .string (S n.natAbs), .string (S d)] := by rw [<- hn, <- hd]
theorem s48 : S 48 = ⟨#[52, 56]⟩ := by decide
theorem s7 : S 7 = ⟨#[55]⟩ := by decide
theorem s2 : S 2 = ⟨#[50]⟩ := by decide
theorem s1 : S 1 = ⟨#[49]⟩ := by decide
theorem chi_ex (w : World) (ht : Tab w) : Calls Tryz.prog 32 #[.agg #[.int .i64 2, .int .i64 4, .int .i64 2, .int .i64 16]] w fun e w' => e = .returned (.tuple #[.agg #[.bool false, .string ⟨#[52, 56]⟩, .string ⟨#[55]⟩], .int .i64 0]) /\ Below w.heap.size w w' := by
 refine (chi_yes vc_ex w ht (by decide)).mono ?_; rintro e w' ⟨h, hb⟩; refine ⟨?_, hb⟩; have e1 : prodN [16, (((16 : Nat) : Int) * ((2 : Nat) : Int) - ((4 : Nat) : Int) * ((2 : Nat) : Int)).natAbs, (((16 : Nat) : Int) * ((2 : Nat) : Int) - ((4 : Nat) : Int) * ((2 : Nat) : Int)).natAbs] = 9216 := by decide
 have e2 : prodN [4, 16 - 4, 2, 16 - 2] = 1344 := by decide
 rw [e1, e2] at h; have g := qres_yes (P := 9216) (Q := 1344) (by decide) ((few_quo (by decide) (by decide) (by decide)).ok (by decide)) e h; rw [g, rv_any (n := 48) (d := 7) (by decide) (by decide)]; rw [show (48 : Int).natAbs = 48 from rfl, s48, s7]
 rfl
theorem odds_ex (w : World) (ht : Tab w) : Calls Tryz.prog 33 #[.agg #[.int .i64 2, .int .i64 4, .int .i64 2, .int .i64 16]] w fun e w' => e = .returned (.tuple #[Rat0, .int .i64 25]) /\ Below w.heap.size w w' := by
 refine (odds_yes vc_ex w ht (by decide)).mono ?_; rintro e w' ⟨h, hb⟩; refine ⟨?_, hb⟩
 rcases h with ⟨_, h⟩ | ⟨h, _⟩
 ·exact h
 ·exact absurd h (by decide)
theorem mi_ex (w0 : World) : ∀ w, Tab w -> Calls Tryz.prog 34 #[.agg #[.int .i64 2, .int .i64 4, .int .i64 2, .int .i64 16], .int .i64 0] w fun e w' => e = .returned (.tuple #[.agg #[.bool false, .string ⟨#[50]⟩, .string ⟨#[49]⟩, .bool false, .string ⟨#[50]⟩, .string ⟨#[49]⟩], .int .i64 0]) /\ Below w.heap.size w w' := by
 obtain ⟨i, h1, -, -, h4⟩ := mi_yes vc_ex (k := 0) (by decide) (by decide) (by decide) w0; have ex : rat false (prodN [2, 16]) (prodN [4, 2]) = 4 := by decide
 rw [ex] at h1 h4; have hp : p2 2 = (4 : Rat) := by decide
 have hi : i = 2 := by
  refine h1.eq ⟨?_, ?_⟩
  ·rw [hp]; decide
  ·have : p2 (2 + 1) = (8 : Rat) := by decide
   rw [this]; decide
 subst hi; have e1 : hiq 4 2 0 = uq 2 0 := by
  unfold hiq; rw [if_pos (by rw [hp]; decide)]
 rw [e1] at h4; intro w ht; refine (h4 w ht).mono ?_; rintro e w' ⟨h, hb⟩; refine ⟨?_, hb⟩; have n1 : (uq 2 0).num = 2 := by decide
 have n2 : (uq 2 0).den = 1 := by decide
 rw [h]; unfold IV; rw [n1, n2, show (2 : Int).natAbs = 2 from rfl, s2, s1]
 rfl
theorem known38_yes (w : World) (ht : Tab w) : Calls Tryz.prog 13 #[] w fun e w' => e = .returned (.bool true) /\ Below w.heap.size w w' := by
 have T0 := Z' ht; clear ht
 go_enter Tryz.func13, Tryz.ntmps13
 have hbw := Below.refl w.heap.size w
 go_upto_region 1 with (fail)
 obtain ⟨o_c, hz1⟩ := new1 w [.int .i64 2, .int .i64 4, .int .i64 2, .int .i64 16] 47; replace hbw := below6 hbw hz1; clear hz1
 go_upto_region 2 with (fail)
 generalize (w.alloc (.cells #[.int .i64 2, .int .i64 4, .int .i64 2, .int .i64 16] 47)) = wa2 at o_c hbw |-; generalize w.heap.size = g2 at o_c |-; obtain ⟨qc_0, qc_1, qc_2, qc_3⟩ := o_c.cells4
 go_wp2_with fail
 clear qc_0 qc_1 qc_2 qc_3; refine (chi_ex _ (T0.out.below hbw)).mono ?_; rintro e w3 ⟨rfl, hb3⟩; replace o_c := o_c.below hb3 o_c.lt; replace hbw := below6 hbw hb3; clear hb3; obtain ⟨o_x, hz4⟩ := new1 w3 [.bool false, .string ⟨#[52, 56]⟩, .string ⟨#[55]⟩] 73; replace o_c := o_c.alloc (.cells #[.bool false, .string ⟨#[52, 56]⟩, .string ⟨#[55]⟩] 73); replace hbw := below6 hbw hz4; clear hz4; obtain ⟨qc_0, qc_1, qc_2, qc_3⟩ := o_c.cells4
 go_wp2_with fail
 generalize (w3.alloc (.cells #[.bool false, .string ⟨#[52, 56]⟩, .string ⟨#[55]⟩] 73)) = wa5 at o_c o_x hbw |-; generalize w3.heap.size = g5 at o_x |-; clear qc_0 qc_1 qc_2 qc_3; refine (odds_ex _ (T0.out.below hbw)).mono ?_; rintro e w6 ⟨rfl, hb6⟩; replace o_c := o_c.below hb6 o_c.lt; replace o_x := o_x.below hb6 o_x.lt; replace hbw := below6 hbw hb6; clear hb6; obtain ⟨o_y, hz7⟩ := new1 w6 [.bool false, .string ⟨#[]⟩, .string ⟨#[]⟩] 73; replace o_c := o_c.alloc (.cells #[.bool false, .string ⟨#[]⟩, .string ⟨#[]⟩] 73); replace o_x := o_x.alloc (.cells #[.bool false, .string ⟨#[]⟩, .string ⟨#[]⟩] 73); replace hbw := below6 hbw hz7; clear hz7; obtain ⟨qc_0, qc_1, qc_2, qc_3⟩ := o_c.cells4
 go_wp2_with fail
 generalize (w6.alloc (.cells #[.bool false, .string ⟨#[]⟩, .string ⟨#[]⟩] 73)) = wa8 at o_c o_x o_y hbw |-; generalize w6.heap.size = g8 at o_y |-; clear qc_0 qc_1 qc_2 qc_3; refine (mi_ex w _ (T0.out.below hbw)).mono ?_; rintro e w9 ⟨rfl, hb9⟩; replace o_c := o_c.below hb9 o_c.lt; replace o_x := o_x.below hb9 o_x.lt; replace o_y := o_y.below hb9 o_y.lt; replace hbw := below6 hbw hb9; clear hb9; obtain ⟨o_i, hz10⟩ := new1 w9 [.bool false, .string ⟨#[50]⟩, .string ⟨#[49]⟩, .bool false, .string ⟨#[50]⟩, .string ⟨#[49]⟩] 77; replace o_c := o_c.alloc (.cells #[.bool false, .string ⟨#[50]⟩, .string ⟨#[49]⟩, .bool false, .string ⟨#[50]⟩, .string ⟨#[49]⟩] 77); replace o_x := o_x.alloc (.cells #[.bool false, .string ⟨#[50]⟩, .string ⟨#[49]⟩, .bool false, .string ⟨#[50]⟩, .string ⟨#[49]⟩] 77); replace o_y := o_y.alloc (.cells #[.bool false, .string ⟨#[50]⟩, .string ⟨#[49]⟩, .bool false, .string ⟨#[50]⟩, .string ⟨#[49]⟩] 77)
 replace hbw := below6 hbw hz10; clear hz10
 go_upto_region 5 with (fail)
 generalize (w9.alloc (.cells #[.bool false, .string ⟨#[50]⟩, .string ⟨#[49]⟩, .bool false, .string ⟨#[50]⟩, .string ⟨#[49]⟩] 77)) = wa11 at o_c o_x o_y o_i hbw |-; generalize w9.heap.size = g11 at o_i |-; obtain ⟨o_two, hz12⟩ := new1 wa11 [.bool false, .string ⟨#[50]⟩, .string ⟨#[49]⟩] 73; replace o_c := o_c.alloc (.cells #[.bool false, .string ⟨#[50]⟩, .string ⟨#[49]⟩] 73); replace o_x := o_x.alloc (.cells #[.bool false, .string ⟨#[50]⟩, .string ⟨#[49]⟩] 73); replace o_y := o_y.alloc (.cells #[.bool false, .string ⟨#[50]⟩, .string ⟨#[49]⟩] 73); replace o_i := o_i.alloc (.cells #[.bool false, .string ⟨#[50]⟩, .string ⟨#[49]⟩] 73); replace hbw := below6 hbw hz12; clear hz12
 go_upto_region 6 with (fail)
 generalize (wa11.alloc (.cells #[.bool false, .string ⟨#[50]⟩, .string ⟨#[49]⟩] 73)) = wa13 at o_c o_x o_y o_i o_two hbw |-; generalize wa11.heap.size = g13 at o_two |-; have qx_0 := o_x.c0; have qx_1 := o_x.c1; have qx_2 := o_x.c2; obtain ⟨qy_0, qy_1, qy_2⟩ := o_y.cells3; obtain ⟨qi_0, qi_1, qi_2, qi_3, qi_4, qi_5⟩ := o_i.cells6; obtain ⟨qtwo_0, qtwo_1, qtwo_2⟩ := o_two.cells3
 go_wp2
 go_ret
 exact ⟨rfl, hbw⟩
open Go.RowKit Dg

theorem ResK.form {C D : Cor} {a : Int} {B : Nat} {w : World} {e : Ending} (h : ResK C D a B w e) : ∃ v k, e = .returned (.tuple #[v, .int .i64 k]) := by
 cases h with
 | arg => exact ⟨_, _, rfl⟩
 | type => exact ⟨_, _, rfl⟩
 | value => exact ⟨_, _, rfl⟩
 | ok h h2 h3 v l hv hs hm => exact ⟨v, 0, rfl⟩
theorem ResK.pair {C D : Cor} {a : Int} {B B' : Nat} {w w' : World} {v v' : Value} {k k' : Int} (h : ResK C D a B w (.returned (.tuple #[v, .int .i64 k]))) (h' : ResK C D a B' w' (.returned (.tuple #[v', .int .i64 k']))) (hb : Below w.heap.size w w') :
  k = k' /\ ∃ l, EO (fun _ => False) w' 5 (fun s e => e = kwC C D a.toNat s) v l /\ EO (fun _ => False) w' 5 (fun s e => e = kwC C D a.toNat s) v' l := by
 cases h with
 | arg h =>
  cases h' with
  | arg h' => exact ⟨rfl, [], EO.nil _ _ _ _, EO.nil _ _ _ _⟩
  | type h' => exact absurd h h'
  | value h' => exact absurd h h'
  | ok h' => exact absurd h h'
 | type h h2 =>
  cases h' with
  | arg h' => exact absurd h' h
  | type h' => exact ⟨rfl, [], EO.nil _ _ _ _, EO.nil _ _ _ _⟩
  | value h' h3 => exact absurd h3 h2
  | ok h' h3 => exact absurd h3 h2
 | value h h2 h3 =>
  cases h' with
  | arg h' => exact absurd h' h
  | type h' h4 => exact absurd h2 h4
  | value h' => exact ⟨rfl, [], EO.nil _ _ _ _, EO.nil _ _ _ _⟩
  | ok h' h4 h5 => exact absurd h3 h5
 | ok h h2 h3 _ l hv hs hm =>
  cases h' with
  | arg h' => exact absurd h' h
  | type h' h4 => exact absurd h2 h4
  | value h' h4 h5 => exact absurd h5 h3
  | ok h' h4 h5 _ l' hv' hs' hm' =>
   obtain rfl : l = l' := hs.uniq (ltK_tot _ _) hs' (fun x => (hm x).trans (hm' x).symm); exact ⟨rfl, l, (EO.below hv hb).weak' (fun _ h => h.elim), hv'.weak' (fun _ h => h.elim)⟩
theorem kwC_form (C D : Cor) (a : Nat) (s : ByteArray) : ∃ z x1 x2 x3 x4, kwC C D a s = [.string z, .int .i64 x1, .int .i64 x2, .int .i64 x3, .int .i64 x4] := ⟨_, _, _, _, _, rfl⟩
end Go.Proofs.YtjimfbmegmnocaaGreatDoor
