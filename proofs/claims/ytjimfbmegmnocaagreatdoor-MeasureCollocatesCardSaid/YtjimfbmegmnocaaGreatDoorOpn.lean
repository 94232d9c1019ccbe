/- Parts of the proof: Mv, Wm, Opn. No condition of its own. -/
import Derived.Test.YtjimfbmegmnocaaGreatDoorMu
import Derived.Test.YtjimfbmegmnocaaGreatDoorOq
import Derived.Test.YtjimfbmegmnocaaGreatDoorRows
import Derived.Test.YtjimfbmegmnocaaGreatDoorChecked
import Derived.ProofKit
import Derived.OpenShut
import Derived.ChangeOld
import Derived.Deep.Slices
import Derived.Deep.Fields
import Derived.Lib.SmallJoins
set_option linter.unusedSimpArgs false
set_option linter.unusedVariables false
set_option maxRecDepth 100000
set_option maxHeartbeats 4000000
namespace Go.Proofs.YtjimfbmegmnocaaGreatDoor
open Go.RowKit Dg

theorem qres_yes {P Q : Nat} (h : 0 < Q) (hf : OkR (rat false P Q)) : ∀ e, QRes P Q e -> e = .returned (.tuple #[RV (rat false P Q), .int .i64 0]) := by
 rintro e (⟨h1, _⟩ | ⟨_, h2⟩)
 ·omega
 ·exact h2.ok hf
theorem few_quo {P Q : Nat} (h : 0 < Q) (h1 : P < 10 ^ 70) (h2 : Q < 10 ^ 70) : Few 70 (rat false P Q) := few_rat h (dec_len_le (by decide) h1) (dec_len_le (by decide) h2)
theorem rat_pos' {P Q : Nat} (hp : 0 < P) (hq : 0 < Q) : 0 < rat false P Q := by
 rw [rat_quo, Rat.lt_div_iff (Rat.natCast_pos.2 hq), Rat.zero_mul]; exact Rat.natCast_pos.2 hp
def hiq (x : Rat) (i : Int) (k : Nat) : Rat := if p2 i = x ^ (2 ^ k) then uq i k else uq (i + 1) k
theorem VC.prod {a p q n x y : Nat} (hx : x <= 4294967296) (hy : y <= 4294967296) : prodN [x, y] < 10 ^ 70 := by
 have h1 : x * y <= 4294967296 * 4294967296 := Nat.mul_le_mul hx hy
 simp only [prodN, Nat.mul_one]
 exact Nat.lt_of_le_of_lt h1 (by decide)
theorem mi_yes {a p q n k : Nat} (hv : VC a p q n) (hk : k <= 8) (ha : 0 < a) (w0 : World) : ∃ i : Int, IsLog (rat false (prodN [a, n]) (prodN [p, q]) ^ (2 ^ k)) i /\ -1000000 <= i /\ i <= 1000000 /\
  ∀ w, Tab w -> Calls Tryz.prog 34 #[CV a p q n, .int .i64 (k : Int)] w fun e w' => e = .returned (.tuple #[IV (uq i k) (hiq (rat false (prodN [a, n]) (prodN [p, q])) i k), .int .i64 0]) /\ Below w.heap.size w w' := by
 have h1 := hv.pn; have h2 := hv.qn; have h3 := hv.n2; have h4 := hv.ap; have h5 := hv.aq; have h6 := hv.pq; have h7 := hv.n1
 have hp : 0 < prodN [a, n] := by simp only [prodN, Nat.mul_one]; exact Nat.mul_pos ha (by omega)
 have hq : 0 < prodN [p, q] := by simp only [prodN, Nat.mul_one]; exact Nat.mul_pos (by omega) (by omega)
 have hf := few_quo hq (VC.prod (a := a) (p := p) (q := q) (n := n) (x := a) (y := n) (by omega) (by omega)) (VC.prod (a := a) (p := p) (q := q) (n := n) (x := p) (y := q) (by omega) (by omega)); obtain ⟨i, g1, g2, g3, -, g5⟩ := ebits_yes hf (rat_pos' hp hq) hk w0; exact ⟨i, g1, g2, g3, fun w ht => mi_core _ _ _ _ _ _ _ _ _ hv hk ha (qres_yes hq (hf.ok (by decide))) g5 w ht⟩
open Go.RowKit Dg

open Go.RowKit Dg

theorem vc_ex : VC 2 4 2 16 := ⟨by decide, by decide, by decide, by decide, by decide, by decide, by decide⟩
theorem rv_any {x : Rat} {n : Int} {d : Nat} (hn : x.num = n) (hd : x.den = d) : RV x = .agg #[.bool (decide (n < 0)), .string (S n.natAbs), .string (S d)] := by rw [<- hn, <- hd]
theorem s48 : S 48 = ⟨#[52, 56]⟩ := by decide
theorem s7 : S 7 = ⟨#[55]⟩ := by decide
theorem s2 : S 2 = ⟨#[50]⟩ := by decide
theorem s1 : S 1 = ⟨#[49]⟩ := by decide
theorem chi_ex (w : World) (ht : Tab w) : Calls Tryz.prog 32 #[.agg #[.int .i64 2, .int .i64 4, .int .i64 2, .int .i64 16]] w fun e w' => e = .returned (.tuple #[.agg #[.bool false, .string ⟨#[52, 56]⟩, .string ⟨#[55]⟩], .int .i64 0]) /\ Below w.heap.size w w' := by
 refine (chi_yes vc_ex w ht).mono ?_; rintro e w' ⟨h, hb⟩; refine ⟨?_, hb⟩; have e1 : prodN [16, (((16 : Nat) : Int) * ((2 : Nat) : Int) - ((4 : Nat) : Int) * ((2 : Nat) : Int)).natAbs, (((16 : Nat) : Int) * ((2 : Nat) : Int) - ((4 : Nat) : Int) * ((2 : Nat) : Int)).natAbs] = 9216 := by decide
 have e2 : prodN [4, 16 - 4, 2, 16 - 2] = 1344 := by decide
 rw [e1, e2] at h; have g := qres_yes (P := 9216) (Q := 1344) (by decide) ((few_quo (by decide) (by decide) (by decide)).ok (by decide)) e h; rw [g, rv_any (n := 48) (d := 7) (by decide) (by decide)]; rw [show (48 : Int).natAbs = 48 from rfl, s48, s7]
 rfl
theorem odds_ex (w : World) (ht : Tab w) : Calls Tryz.prog 33 #[.agg #[.int .i64 2, .int .i64 4, .int .i64 2, .int .i64 16]] w fun e w' => e = .returned (.tuple #[Rat0, .int .i64 25]) /\ Below w.heap.size w w' := by
 refine (odds_yes vc_ex w ht).mono ?_; rintro e w' ⟨h, hb⟩; refine ⟨?_, hb⟩
 rcases h with ⟨_, h⟩ | ⟨h, _⟩
 ·exact h
 ·exact absurd h (by decide)
theorem mi_ex (w0 : World) : ∀ w, Tab w -> Calls Tryz.prog 34 #[.agg #[.int .i64 2, .int .i64 4, .int .i64 2, .int .i64 16], .int .i64 0] w fun e w' => e = .returned (.tuple #[.agg #[.bool false, .string ⟨#[50]⟩, .string ⟨#[49]⟩, .bool false, .string ⟨#[50]⟩, .string ⟨#[49]⟩], .int .i64 0]) /\ Below w.heap.size w w' := by
 obtain ⟨i, h1, -, -, h4⟩ := mi_yes vc_ex (k := 0) (by decide) (by decide) w0; have ex : rat false (prodN [2, 16]) (prodN [4, 2]) = 4 := by decide
 rw [ex] at h1 h4; have hp : p2 2 = (4 : Rat) := by decide
 have hi : i = 2 := by
  refine h1.eq ⟨?_, ?_⟩
  ·rw [hp]; decide
  ·have : p2 (2 + 1) = (8 : Rat) := by decide
   rw [this]; decide
 subst hi; have e1 : hiq 4 2 0 = uq 2 0 := by
  unfold hiq; rw [if_pos (by rw [hp]; decide)]
 rw [e1] at h4; intro w ht; refine (h4 w ht).mono ?_; rintro e w' ⟨h, hb⟩; refine ⟨?_, hb⟩; have n1 : (uq 2 0).num = 2 := by decide
 have n2 : (uq 2 0).den = 1 := by decide
 rw [h]; unfold IV; rw [n1, n2, show (2 : Int).natAbs = 2 from rfl, s2, s1]
 rfl
theorem known38_yes (w : World) (ht : Tab w) : Calls Tryz.prog 13 #[] w fun e w' => e = .returned (.bool true) /\ Below w.heap.size w w' := by
 have T0 := Lib.hid ht; clear ht
 go_enter Tryz.func13, Tryz.ntmps13
 have hbw := Below.refl w.heap.size w
 go_upto_region 1 with (fail)
 obtain ⟨o_c, hz1⟩ := new1 w [.int .i64 2, .int .i64 4, .int .i64 2, .int .i64 16] 47; replace hbw := below6 hbw hz1; clear hz1
 go_upto_region 2 with (fail)
 generalize (w.alloc (.cells #[.int .i64 2, .int .i64 4, .int .i64 2, .int .i64 16] 47)) = wa2 at o_c hbw |-; generalize w.heap.size = g2 at o_c |-; obtain ⟨qc_0, qc_1, qc_2, qc_3⟩ := o_c.cells4
 go_wp2_with fail
 clear qc_0 qc_1 qc_2 qc_3; refine (chi_ex _ (T0.out.below hbw)).mono ?_; rintro e w3 ⟨rfl, hb3⟩; replace o_c := o_c.below hb3 o_c.lt; replace hbw := below6 hbw hb3; clear hb3; obtain ⟨o_x, hz4⟩ := new1 w3 [.bool false, .string ⟨#[52, 56]⟩, .string ⟨#[55]⟩] 73; replace o_c := o_c.alloc (.cells #[.bool false, .string ⟨#[52, 56]⟩, .string ⟨#[55]⟩] 73); replace hbw := below6 hbw hz4; clear hz4; obtain ⟨qc_0, qc_1, qc_2, qc_3⟩ := o_c.cells4
 go_wp2_with fail
 generalize (w3.alloc (.cells #[.bool false, .string ⟨#[52, 56]⟩, .string ⟨#[55]⟩] 73)) = wa5 at o_c o_x hbw |-; generalize w3.heap.size = g5 at o_x |-; clear qc_0 qc_1 qc_2 qc_3; refine (odds_ex _ (T0.out.below hbw)).mono ?_; rintro e w6 ⟨rfl, hb6⟩; replace o_c := o_c.below hb6 o_c.lt; replace o_x := o_x.below hb6 o_x.lt; replace hbw := below6 hbw hb6; clear hb6; obtain ⟨o_y, hz7⟩ := new1 w6 [.bool false, .string ⟨#[]⟩, .string ⟨#[]⟩] 73; replace o_c := o_c.alloc (.cells #[.bool false, .string ⟨#[]⟩, .string ⟨#[]⟩] 73); replace o_x := o_x.alloc (.cells #[.bool false, .string ⟨#[]⟩, .string ⟨#[]⟩] 73); replace hbw := below6 hbw hz7; clear hz7; obtain ⟨qc_0, qc_1, qc_2, qc_3⟩ := o_c.cells4
 go_wp2_with fail
 generalize (w6.alloc (.cells #[.bool false, .string ⟨#[]⟩, .string ⟨#[]⟩] 73)) = wa8 at o_c o_x o_y hbw |-; generalize w6.heap.size = g8 at o_y |-; clear qc_0 qc_1 qc_2 qc_3; refine (mi_ex w _ (T0.out.below hbw)).mono ?_; rintro e w9 ⟨rfl, hb9⟩; replace o_c := o_c.below hb9 o_c.lt; replace o_x := o_x.below hb9 o_x.lt; replace o_y := o_y.below hb9 o_y.lt; replace hbw := below6 hbw hb9; clear hb9; obtain ⟨o_i, hz10⟩ := new1 w9 [.bool false, .string ⟨#[50]⟩, .string ⟨#[49]⟩, .bool false, .string ⟨#[50]⟩, .string ⟨#[49]⟩] 77; replace o_c := o_c.alloc (.cells #[.bool false, .string ⟨#[50]⟩, .string ⟨#[49]⟩, .bool false, .string ⟨#[50]⟩, .string ⟨#[49]⟩] 77); replace o_x := o_x.alloc (.cells #[.bool false, .string ⟨#[50]⟩, .string ⟨#[49]⟩, .bool false, .string ⟨#[50]⟩, .string ⟨#[49]⟩] 77); replace o_y := o_y.alloc (.cells #[.bool false, .string ⟨#[50]⟩, .string ⟨#[49]⟩, .bool false, .string ⟨#[50]⟩, .string ⟨#[49]⟩] 77)
 replace hbw := below6 hbw hz10; clear hz10
 go_upto_region 5 with (fail)
 generalize (w9.alloc (.cells #[.bool false, .string ⟨#[50]⟩, .string ⟨#[49]⟩, .bool false, .string ⟨#[50]⟩, .string ⟨#[49]⟩] 77)) = wa11 at o_c o_x o_y o_i hbw |-; generalize w9.heap.size = g11 at o_i |-; obtain ⟨o_two, hz12⟩ := new1 wa11 [.bool false, .string ⟨#[50]⟩, .string ⟨#[49]⟩] 73; replace o_c := o_c.alloc (.cells #[.bool false, .string ⟨#[50]⟩, .string ⟨#[49]⟩] 73); replace o_x := o_x.alloc (.cells #[.bool false, .string ⟨#[50]⟩, .string ⟨#[49]⟩] 73); replace o_y := o_y.alloc (.cells #[.bool false, .string ⟨#[50]⟩, .string ⟨#[49]⟩] 73); replace o_i := o_i.alloc (.cells #[.bool false, .string ⟨#[50]⟩, .string ⟨#[49]⟩] 73); replace hbw := below6 hbw hz12; clear hz12
 go_upto_region 6 with (fail)
 generalize (wa11.alloc (.cells #[.bool false, .string ⟨#[50]⟩, .string ⟨#[49]⟩] 73)) = wa13 at o_c o_x o_y o_i o_two hbw |-; generalize wa11.heap.size = g13 at o_two |-; have qx_0 := o_x.c0; have qx_1 := o_x.c1; have qx_2 := o_x.c2; obtain ⟨qy_0, qy_1, qy_2⟩ := o_y.cells3; obtain ⟨qi_0, qi_1, qi_2, qi_3, qi_4, qi_5⟩ := o_i.cells6; obtain ⟨qtwo_0, qtwo_1, qtwo_2⟩ := o_two.cells3
 go_wp2
 go_ret
 exact ⟨rfl, hbw⟩
open Go.RowKit Dg

theorem collo_law (A : Option Addr) (l : List Int) (c : Nat) (X Y : Int) (w : World) (hA : Ints w A l) (hl : l.length <= c) (hc : c <= maxLen) (hwf : ∀ x ∈ l, -9223372036854775808 <= x /\ x <= 9223372036854775807) (hX1 : -9223372036854775808 <= X) (hX2 : X <= 9223372036854775807) (hY1 : -9223372036854775808 <= Y) (hY2 : Y <= 9223372036854775807) (ht : Tab w) :
  Calls Tryz.prog 4 #[.slice A l.length c, .int .i64 X, .int .i64 Y] w fun e w' => e = .returned (.bool true) /\ Below w.heap.size w w' := by
 have T0 := Lib.hid ht; obtain ⟨k9, hk9, hm9⟩ := mod_lit9 X 9 9 rfl hX1 hX2 (by decide) (by decide); obtain ⟨k4, hk4, hm4⟩ := mod_lit9 X 4 4 rfl hX1 hX2 (by decide) (by decide); obtain ⟨k3, hk3, hm3⟩ := mod_lit9 Y 3 3 rfl hY1 hY2 (by decide) (by decide); have HM9 := Lib.hid hm9; have HM4 := Lib.hid hm4; have HM3 := Lib.hid hm3; have HY := Lib.hid hY2; clear ht hm9 hm4 hm3 hX1 hX2 hY1 hY2
 go_enter Tryz.func4, Tryz.ntmps4
 go_wp2_with fail
 refine (new_any A l c w hA hl hc hwf).mono ?_; rintro e w1 ⟨rfl, ⟨l', hT⟩, hb1⟩; have tp := TP.start hT; obtain ⟨p, hp⟩ : ∃ p, p = w.heap.size := ⟨_, rfl⟩; rw [<- hp] at tp |-; have HP := Lib.hid hp; have hpl := tp.lt; have hbw : Below p w w1 := hp ▸ hb1; clear hT hb1 hA hl hc hwf hp
 go_wp2_with fail
 refine (corpus_lit9 w1 tp _ 7 rfl (by decide) (by decide)).mono ?_; rintro e w2 ⟨⟨v, C, rfl, ⟨a, t, x, r, n, h, s, rfl, q⟩, hM⟩, tp2, hc2⟩; obtain ⟨Aa, ca, rfl, -, -, -⟩ := EO.form q.a; obtain ⟨At, ct, rfl, -, -, -⟩ := EO.form q.t; obtain ⟨Ax, cx, rfl, -, -, -⟩ := EO.form q.x; obtain ⟨Ar, cr, rfl, -, -, -⟩ := EO.form q.r; obtain ⟨An, cn9, rfl, -, -, -⟩ := EO.form q.n; obtain ⟨Ah, ch, rfl, -, -, -⟩ := EO.form q.h; obtain ⟨As, cs, rfl, -, -, -⟩ := EO.form q.s; have hw2 := hc2.size; have hbw2 : Below p w w2 := hbw.trans (hc2.below (fun k hk e => by omega) (by omega)); have HM := Lib.hid hM; obtain ⟨o_b, hb3⟩ := new1 w2 [.slice Aa C.attrs.length ca, .slice At C.toks.length ct, .slice Ax C.texts.length cx, .slice Ar C.regs.length cr, .slice An C.nodes.length cn9, .slice Ah C.heads.length ch, .slice As C.rels.length cs] 30; have hs3 : (w2.alloc (.cells #[.slice Aa C.attrs.length ca, .slice At C.toks.length ct, .slice Ax C.texts.length cx, .slice Ar C.regs.length cr, .slice An C.nodes.length cn9, .slice Ah C.heads.length ch, .slice As C.rels.length cs] 30)).heap.size = w2.heap.size + 1 := by simp
 have tp3 := tp2.below hb3; have HQ3 := Lib.hid ((q.below hb3).weak (T := fun k => k = p) fun k e => by omega); clear tp tp2 hc2 q hM hbw
 go_upto_region 3 with (fail)
 generalize (w2.alloc (.cells #[.slice Aa C.attrs.length ca, .slice At C.toks.length ct, .slice Ax C.texts.length cx, .slice Ar C.regs.length cr, .slice An C.nodes.length cn9, .slice Ah C.heads.length ch, .slice As C.rels.length cs] 30)) = w3 at o_b hb3 hs3 tp3 HQ3 |-; generalize hg : w2.heap.size = gb at o_b hs3 hw2 |-; have hbw3 : Below p w w3 := hbw2.trans (hb3.mono (by omega)); have hgp : ¬ gb = p := by omega
 clear hb3 hbw2 hg; obtain ⟨b0, b1, b2, b3, b4, b5, b6⟩ := o_b.cells7
 go_wp2_with fail
 clear b0 b1 b2 b3 b4 b5 b6; refine (spans_lit9 w3 tp3 HQ3.out HM.out (by decide) _ 4 rfl (by decide)).mono ?_; rintro e w4 ⟨⟨vs, L, rfl, hL, hlen, -⟩, -, hc4⟩; have hw4 := hc4.size; have hbw4 : Below p w w4 := hbw3.trans (hc4.below (fun k hk e => by omega) (by omega)); have o_b4 := hc4.own o_b hgp; have HQ4 := Lib.hid ((HQ3.out.chg hc4).weak (T := fun _ => False) fun _ h => h.elim); have HL4 : Hid (SpansO (fun _ => False) w4 vs L) := EO.weak' hL fun _ h => h.elim; have HF := Lib.hid (HM.out.fit (by decide)); clear tp3 HQ3 HM o_b hbw3 hc4 hL hlen
 go_wp2_with fail
 refine (HM9.out _).mono ?_; rintro e w' ⟨rfl, rfl⟩
 by_cases hz : 0 < k9
 ·skip
  go_wp2_with fail
  refine (HM4.out _).mono ?_; rintro e w' ⟨rfl, rfl⟩
  go_wp2_with fail
  refine (HM3.out _).mono ?_; rintro e w' ⟨rfl, rfl⟩
  go_upto_region 6 with (fail)
  obtain ⟨b0, b1, b2, b3, b4, b5, b6⟩ := o_b4.cells7
  go_wp2_with fail
  clear b0 b1 b2 b3 b4 b5 b6; refine (collocates_any w4 HQ4.out HF.out HL4.out (1 + (k4 : Int)) ((k3 : Int)) (by omega)).mono ?_; rintro e w5 ⟨hres, hb5⟩; have hbw5 : Below p w w5 := hbw4.trans (hb5.mono (by omega)); have o_b5 := o_b4.below hb5 o_b4.lt; have HQ5 := Lib.hid (HQ4.out.below hb5); have HL5 : Hid (SpansO (fun _ => False) w5 vs L) := EO.below HL4.out hb5; have hw5 := hb5.size; obtain ⟨v1, r1, rfl⟩ := hres.form; have HR1 := Lib.hid hres; clear hres HQ4 HL4 o_b4 hb5 hbw4; obtain ⟨b0, b1, b2, b3, b4, b5, b6⟩ := o_b5.cells7
  go_wp2_with fail
  clear b0 b1 b2 b3 b4 b5 b6; refine (collocates38_any w5 HQ5.out HF.out HL5.out (1 + (k4 : Int)) ((k3 : Int)) (by omega)).mono ?_; rintro e w6 ⟨hres, hb6⟩; have hbw6 : Below p w w6 := hbw5.trans (hb6.mono (by omega)); have hw6 := hb6.size; obtain ⟨v2, r2, rfl⟩ := hres.form; obtain ⟨hr, ll, h1, h2⟩ := HR1.out.pair hres hb6; have H1 := Lib.hid h1; have H2 := Lib.hid h2; subst hr; clear hres HR1 HQ5 HL5 o_b5 hb6 hbw5 h1 h2
  go_wp2_with fail
  refine (same38_any w6 _ (colC_form _ _ _) H1.out H2.out).mono ?_; rintro e w7 ⟨rfl, hb7⟩; have hbw7 : Below p w w7 := hbw6.trans (hb7.mono (by omega)); have hw7 := hb7.size; have e1 : (r1 == r1) = true := by simp
  go_wp2_with fail
  refine (known38_yes _ (T0.out.below (HP.out ▸ hbw7))).mono ?_; rintro e w8 ⟨rfl, hb8⟩; have hbw8 : Below p w w8 := hbw7.trans (hb8.mono (by omega))
  go_wp2
  go_ret
  exact ⟨rfl, HP.out ▸ hbw8⟩
 ·skip
  have hz2 : k9 = 0 := by omega
  subst hz2
  go_upto_region 6 with (fail)
  obtain ⟨b0, b1, b2, b3, b4, b5, b6⟩ := o_b4.cells7
  go_wp2_with fail
  clear b0 b1 b2 b3 b4 b5 b6; refine (collocates_any w4 HQ4.out HF.out HL4.out (X) (Y) HY.out).mono ?_; rintro e w5 ⟨hres, hb5⟩; have hbw5 : Below p w w5 := hbw4.trans (hb5.mono (by omega)); have o_b5 := o_b4.below hb5 o_b4.lt; have HQ5 := Lib.hid (HQ4.out.below hb5); have HL5 : Hid (SpansO (fun _ => False) w5 vs L) := EO.below HL4.out hb5; have hw5 := hb5.size; obtain ⟨v1, r1, rfl⟩ := hres.form; have HR1 := Lib.hid hres; clear hres HQ4 HL4 o_b4 hb5 hbw4; obtain ⟨b0, b1, b2, b3, b4, b5, b6⟩ := o_b5.cells7
  go_wp2_with fail
  clear b0 b1 b2 b3 b4 b5 b6; refine (collocates38_any w5 HQ5.out HF.out HL5.out (X) (Y) HY.out).mono ?_; rintro e w6 ⟨hres, hb6⟩; have hbw6 : Below p w w6 := hbw5.trans (hb6.mono (by omega)); have hw6 := hb6.size; obtain ⟨v2, r2, rfl⟩ := hres.form; obtain ⟨hr, ll, h1, h2⟩ := HR1.out.pair hres hb6; have H1 := Lib.hid h1; have H2 := Lib.hid h2; subst hr; clear hres HR1 HQ5 HL5 o_b5 hb6 hbw5 h1 h2
  go_wp2_with fail
  refine (same38_any w6 _ (colC_form _ _ _) H1.out H2.out).mono ?_; rintro e w7 ⟨rfl, hb7⟩; have hbw7 : Below p w w7 := hbw6.trans (hb7.mono (by omega)); have hw7 := hb7.size; have e1 : (r1 == r1) = true := by simp
  go_wp2_with fail
  refine (known38_yes _ (T0.out.below (HP.out ▸ hbw7))).mono ?_; rintro e w8 ⟨rfl, hb8⟩; have hbw8 : Below p w w8 := hbw7.trans (hb8.mono (by omega))
  go_wp2
  go_ret
  exact ⟨rfl, HP.out ▸ hbw8⟩
open Go.ChangeShapes Go.WideShapes Go.ChangeAt Go.RowKit Go.Deep

theorem addr_lit {w : World} {x : Addr} {u : Value} (h : w.cell? (x.add 0) = some u) : x = ⟨x.block, x.off, none⟩ := by
 obtain ⟨b, off, spot⟩ := x; have hs : spot = none := by simpa [Addr.add] using World.cell?_spot h
 subst hs
 rfl
theorem wide_of {n : Int} (h : (Lit.int .i64 n).wf = true) : -9223372036854775808 <= n /\ n <= 9223372036854775807 := by
 have e1 : IntKind.i64.min = -9223372036854775808 := by decide
 have e2 : IntKind.i64.max = 9223372036854775807 := by decide
 simp [Lit.wf] at h
 omega

section
variable {H : Type} {enc : TypeId × Value -> H} {P : Program} {w : World} {base : Nat} {spare : Nat -> Bool} {held : Bool}
theorem ints_of2 {t e : TypeId} {a : Option Addr} {len cap : Nat} {d : DataW H} {p : List MemPlace} (ht : P.underlying t = some (.slice e)) (he : P.underlying e = some (.int .i64)) (hc : P.cellsOf e = 1)
  (h : DataW.Trod enc P w base spare held t (.slice a len cap) d p) : ∃ l : List Int, l.length = len /\ len <= cap /\ cap <= maxLen /\ Ints w a l /\ Wide l := by
 obtain ⟨fuel, hf⟩ := h
 rcases open_ints ht he hc hf with ⟨hcs, _⟩ | ⟨x, l, c, zs, hcs, _, hl, hm, hz, _, hcell, hwz⟩
 ·simp [Value.cells] at hcs
  obtain ⟨rfl, rfl, rfl⟩ := hcs; exact ⟨[], rfl, by omega, by simp [maxLen], Rd.nil _ _, by intro x hx; simp at hx⟩
 ·simp [Value.cells] at hcs
  obtain ⟨rfl, rfl, rfl⟩ := hcs; have hz' : len <= zs.length := by rw [hz]; split <;> omega
  refine ⟨zs.take len, by rw [List.length_take]; omega, by omega, by omega, ?_, fun n hn => wide_of (hwz n (List.mem_of_mem_take hn))⟩; intro j u hu; have hj : j < len /\ j < zs.length := by
   have := (List.getElem?_eq_some_iff.1 hu).1
   simp only [ci, List.length_map, List.length_take] at this
   omega
  have hcj := hcell j hj.2; have e := addr_lit (hcell 0 (by omega)); refine ⟨x.block, x.off, by rw [<- e], ?_⟩; rw [e, Addr.add_lit] at hcj; rw [hcj]; have : (ci (zs.take len))[j]? = some (.int .i64 (zs.getD j 0)) := by
   simp only [ci, List.getElem?_map, List.getElem?_take, hj.1, if_true, List.getD, List.getElem?_eq_getElem hj.2]
   rfl
  rw [this] at hu; exact hu
end
end Go.Proofs.YtjimfbmegmnocaaGreatDoor
