/- Parts of the proof: Mv, Wk, Opn. No condition of its own. -/
import Derived.Test.YtjimfbmegmnocaaGreatDoorMu
import Derived.Test.YtjimfbmegmnocaaGreatDoorWl
import Derived.Test.YtjimfbmegmnocaaGreatDoorWe
import Derived.Test.YtjimfbmegmnocaaGreatDoorWj
import Derived.Test.YtjimfbmegmnocaaGreatDoorIa
import Derived.Test.YtjimfbmegmnocaaGreatDoorRows
import Derived.Test.YtjimfbmegmnocaaGreatDoorChecked
import Derived.ProofKit
import Derived.OpenShut
import Derived.ChangeOld
import Derived.Deep.Slices
import Derived.Deep.Fields
import Derived.Lib.SmallJoins
set_option linter.unusedSimpArgs false
set_option linter.unusedVariables false
set_option maxRecDepth 100000
set_option maxHeartbeats 4000000
namespace Go.Proofs.YtjimfbmegmnocaaGreatDoor
open Go.RowKit Dg

theorem qres_yes {P Q : Nat} (h : 0 < Q) (hf : OkR (rat false P Q)) : ∀ e, QRes P Q e -> e = .returned (.tuple #[RV (rat false P Q), .int .i64 0]) := by
 rintro e (⟨h1, _⟩ | ⟨_, h2⟩)
 ·omega
 ·exact h2.ok hf
theorem few_quo {P Q : Nat} (h : 0 < Q) (h1 : P < 10 ^ 70) (h2 : Q < 10 ^ 70) : Few 70 (rat false P Q) := few_rat h (dec_len_le (by decide) h1) (dec_len_le (by decide) h2)
theorem rat_pos' {P Q : Nat} (hp : 0 < P) (hq : 0 < Q) : 0 < rat false P Q := by
 rw [rat_quo, Rat.lt_div_iff (Rat.natCast_pos.2 hq), Rat.zero_mul]; exact Rat.natCast_pos.2 hp
def hiq (x : Rat) (i : Int) (k : Nat) : Rat := if p2 i = x ^ (2 ^ k) then uq i k else uq (i + 1) k
theorem VC.prod {a p q n x y : Nat} (hx : x <= 4294967296) (hy : y <= 4294967296) : prodN [x, y] < 10 ^ 70 := by
 have h1 : x * y <= 4294967296 * 4294967296 := Nat.mul_le_mul hx hy
 simp only [prodN, Nat.mul_one]
 exact Nat.lt_of_le_of_lt h1 (by decide)
theorem mi_yes {a p q n k : Nat} (hv : VC a p q n) (hk : k <= 8) (ha : 0 < a) (w0 : World) : ∃ i : Int, IsLog (rat false (prodN [a, n]) (prodN [p, q]) ^ (2 ^ k)) i /\ -1000000 <= i /\ i <= 1000000 /\
  ∀ w, Tab w -> Calls Tryz.prog 34 #[CV a p q n, .int .i64 (k : Int)] w fun e w' => e = .returned (.tuple #[IV (uq i k) (hiq (rat false (prodN [a, n]) (prodN [p, q])) i k), .int .i64 0]) /\ Below w.heap.size w w' := by
 have h1 := hv.pn; have h2 := hv.qn; have h3 := hv.n2; have h4 := hv.ap; have h5 := hv.aq; have h6 := hv.pq; have h7 := hv.n1
 have hp : 0 < prodN [a, n] := by simp only [prodN, Nat.mul_one]; exact Nat.mul_pos ha (by omega)
 have hq : 0 < prodN [p, q] := by simp only [prodN, Nat.mul_one]; exact Nat.mul_pos (by omega) (by omega)
 have hf := few_quo hq (VC.prod (a := a) (p := p) (q := q) (n := n) (x := a) (y := n) (by omega) (by omega)) (VC.prod (a := a) (p := p) (q := q) (n := n) (x := p) (y := q) (by omega) (by omega)); obtain ⟨i, g1, g2, g3, -, g5⟩ := ebits_yes hf (rat_pos' hp hq) hk w0; exact ⟨i, g1, g2, g3, fun w ht => mi_core _ _ _ _ _ _ _ _ _ hv hk ha (qres_yes hq (hf.ok (by decide))) g5 w ht⟩
open Go.RowKit Dg

open Go.RowKit Dg

theorem vc_ex : VC 2 4 2 16 := ⟨by decide, by decide, by decide, by decide, by decide, by decide, by decide⟩
theorem rv_any {x : Rat} {n : Int} {d : Nat} (hn : x.num = n) (hd : x.den = d) : RV x = .agg #[.bool (decide (n < 0)), .string (S n.natAbs), .string (S d)] := by rw [<- hn, <- hd]
theorem s48 : S 48 = ⟨#[52, 56]⟩ := by decide
theorem s7 : S 7 = ⟨#[55]⟩ := by decide
theorem s2 : S 2 = ⟨#[50]⟩ := by decide
theorem s1 : S 1 = ⟨#[49]⟩ := by decide
theorem chi_ex (w : World) (ht : Tab w) : Calls Tryz.prog 32 #[.agg #[.int .i64 2, .int .i64 4, .int .i64 2, .int .i64 16]] w fun e w' => e = .returned (.tuple #[.agg #[.bool false, .string ⟨#[52, 56]⟩, .string ⟨#[55]⟩], .int .i64 0]) /\ Below w.heap.size w w' := by
 refine (chi_yes vc_ex w ht).mono ?_; rintro e w' ⟨h, hb⟩; refine ⟨?_, hb⟩; have e1 : prodN [16, (((16 : Nat) : Int) * ((2 : Nat) : Int) - ((4 : Nat) : Int) * ((2 : Nat) : Int)).natAbs, (((16 : Nat) : Int) * ((2 : Nat) : Int) - ((4 : Nat) : Int) * ((2 : Nat) : Int)).natAbs] = 9216 := by decide
 have e2 : prodN [4, 16 - 4, 2, 16 - 2] = 1344 := by decide
 rw [e1, e2] at h; have g := qres_yes (P := 9216) (Q := 1344) (by decide) ((few_quo (by decide) (by decide) (by decide)).ok (by decide)) e h; rw [g, rv_any (n := 48) (d := 7) (by decide) (by decide)]; rw [show (48 : Int).natAbs = 48 from rfl, s48, s7]
 rfl
theorem odds_ex (w : World) (ht : Tab w) : Calls Tryz.prog 33 #[.agg #[.int .i64 2, .int .i64 4, .int .i64 2, .int .i64 16]] w fun e w' => e = .returned (.tuple #[Rat0, .int .i64 25]) /\ Below w.heap.size w w' := by
 refine (odds_yes vc_ex w ht).mono ?_; rintro e w' ⟨h, hb⟩; refine ⟨?_, hb⟩
 rcases h with ⟨_, h⟩ | ⟨h, _⟩
 ·exact h
 ·exact absurd h (by decide)
theorem mi_ex (w0 : World) : ∀ w, Tab w -> Calls Tryz.prog 34 #[.agg #[.int .i64 2, .int .i64 4, .int .i64 2, .int .i64 16], .int .i64 0] w fun e w' => e = .returned (.tuple #[.agg #[.bool false, .string ⟨#[50]⟩, .string ⟨#[49]⟩, .bool false, .string ⟨#[50]⟩, .string ⟨#[49]⟩], .int .i64 0]) /\ Below w.heap.size w w' := by
 obtain ⟨i, h1, -, -, h4⟩ := mi_yes vc_ex (k := 0) (by decide) (by decide) w0; have ex : rat false (prodN [2, 16]) (prodN [4, 2]) = 4 := by decide
 rw [ex] at h1 h4; have hp : p2 2 = (4 : Rat) := by decide
 have hi : i = 2 := by
  refine h1.eq ⟨?_, ?_⟩
  ·rw [hp]; decide
  ·have : p2 (2 + 1) = (8 : Rat) := by decide
   rw [this]; decide
 subst hi; have e1 : hiq 4 2 0 = uq 2 0 := by
  unfold hiq; rw [if_pos (by rw [hp]; decide)]
 rw [e1] at h4; intro w ht; refine (h4 w ht).mono ?_; rintro e w' ⟨h, hb⟩; refine ⟨?_, hb⟩; have n1 : (uq 2 0).num = 2 := by decide
 have n2 : (uq 2 0).den = 1 := by decide
 rw [h]; unfold IV; rw [n1, n2, show (2 : Int).natAbs = 2 from rfl, s2, s1]
 rfl
theorem known38_yes (w : World) (ht : Tab w) : Calls Tryz.prog 13 #[] w fun e w' => e = .returned (.bool true) /\ Below w.heap.size w w' := by
 have T0 := Lib.hid ht; clear ht
 go_enter Tryz.func13, Tryz.ntmps13
 have hbw := Below.refl w.heap.size w
 go_upto_region 1 with (fail)
 obtain ⟨o_c, hz1⟩ := new1 w [.int .i64 2, .int .i64 4, .int .i64 2, .int .i64 16] 47; replace hbw := below6 hbw hz1; clear hz1
 go_upto_region 2 with (fail)
 generalize (w.alloc (.cells #[.int .i64 2, .int .i64 4, .int .i64 2, .int .i64 16] 47)) = wa2 at o_c hbw |-; generalize w.heap.size = g2 at o_c |-; obtain ⟨qc_0, qc_1, qc_2, qc_3⟩ := o_c.cells4
 go_wp2_with fail
 clear qc_0 qc_1 qc_2 qc_3; refine (chi_ex _ (T0.out.below hbw)).mono ?_; rintro e w3 ⟨rfl, hb3⟩; replace o_c := o_c.below hb3 o_c.lt; replace hbw := below6 hbw hb3; clear hb3; obtain ⟨o_x, hz4⟩ := new1 w3 [.bool false, .string ⟨#[52, 56]⟩, .string ⟨#[55]⟩] 73; replace o_c := o_c.alloc (.cells #[.bool false, .string ⟨#[52, 56]⟩, .string ⟨#[55]⟩] 73); replace hbw := below6 hbw hz4; clear hz4; obtain ⟨qc_0, qc_1, qc_2, qc_3⟩ := o_c.cells4
 go_wp2_with fail
 generalize (w3.alloc (.cells #[.bool false, .string ⟨#[52, 56]⟩, .string ⟨#[55]⟩] 73)) = wa5 at o_c o_x hbw |-; generalize w3.heap.size = g5 at o_x |-; clear qc_0 qc_1 qc_2 qc_3; refine (odds_ex _ (T0.out.below hbw)).mono ?_; rintro e w6 ⟨rfl, hb6⟩; replace o_c := o_c.below hb6 o_c.lt; replace o_x := o_x.below hb6 o_x.lt; replace hbw := below6 hbw hb6; clear hb6; obtain ⟨o_y, hz7⟩ := new1 w6 [.bool false, .string ⟨#[]⟩, .string ⟨#[]⟩] 73; replace o_c := o_c.alloc (.cells #[.bool false, .string ⟨#[]⟩, .string ⟨#[]⟩] 73); replace o_x := o_x.alloc (.cells #[.bool false, .string ⟨#[]⟩, .string ⟨#[]⟩] 73); replace hbw := below6 hbw hz7; clear hz7; obtain ⟨qc_0, qc_1, qc_2, qc_3⟩ := o_c.cells4
 go_wp2_with fail
 generalize (w6.alloc (.cells #[.bool false, .string ⟨#[]⟩, .string ⟨#[]⟩] 73)) = wa8 at o_c o_x o_y hbw |-; generalize w6.heap.size = g8 at o_y |-; clear qc_0 qc_1 qc_2 qc_3; refine (mi_ex w _ (T0.out.below hbw)).mono ?_; rintro e w9 ⟨rfl, hb9⟩; replace o_c := o_c.below hb9 o_c.lt; replace o_x := o_x.below hb9 o_x.lt; replace o_y := o_y.below hb9 o_y.lt; replace hbw := below6 hbw hb9; clear hb9; obtain ⟨o_i, hz10⟩ := new1 w9 [.bool false, .string ⟨#[50]⟩, .string ⟨#[49]⟩, .bool false, .string ⟨#[50]⟩, .string ⟨#[49]⟩] 77; replace o_c := o_c.alloc (.cells #[.bool false, .string ⟨#[50]⟩, .string ⟨#[49]⟩, .bool false, .string ⟨#[50]⟩, .string ⟨#[49]⟩] 77); replace o_x := o_x.alloc (.cells #[.bool false, .string ⟨#[50]⟩, .string ⟨#[49]⟩, .bool false, .string ⟨#[50]⟩, .string ⟨#[49]⟩] 77); replace o_y := o_y.alloc (.cells #[.bool false, .string ⟨#[50]⟩, .string ⟨#[49]⟩, .bool false, .string ⟨#[50]⟩, .string ⟨#[49]⟩] 77)
 replace hbw := below6 hbw hz10; clear hz10
 go_upto_region 5 with (fail)
 generalize (w9.alloc (.cells #[.bool false, .string ⟨#[50]⟩, .string ⟨#[49]⟩, .bool false, .string ⟨#[50]⟩, .string ⟨#[49]⟩] 77)) = wa11 at o_c o_x o_y o_i hbw |-; generalize w9.heap.size = g11 at o_i |-; obtain ⟨o_two, hz12⟩ := new1 wa11 [.bool false, .string ⟨#[50]⟩, .string ⟨#[49]⟩] 73; replace o_c := o_c.alloc (.cells #[.bool false, .string ⟨#[50]⟩, .string ⟨#[49]⟩] 73); replace o_x := o_x.alloc (.cells #[.bool false, .string ⟨#[50]⟩, .string ⟨#[49]⟩] 73); replace o_y := o_y.alloc (.cells #[.bool false, .string ⟨#[50]⟩, .string ⟨#[49]⟩] 73); replace o_i := o_i.alloc (.cells #[.bool false, .string ⟨#[50]⟩, .string ⟨#[49]⟩] 73); replace hbw := below6 hbw hz12; clear hz12
 go_upto_region 6 with (fail)
 generalize (wa11.alloc (.cells #[.bool false, .string ⟨#[50]⟩, .string ⟨#[49]⟩] 73)) = wa13 at o_c o_x o_y o_i o_two hbw |-; generalize wa11.heap.size = g13 at o_two |-; have qx_0 := o_x.c0; have qx_1 := o_x.c1; have qx_2 := o_x.c2; obtain ⟨qy_0, qy_1, qy_2⟩ := o_y.cells3; obtain ⟨qi_0, qi_1, qi_2, qi_3, qi_4, qi_5⟩ := o_i.cells6; obtain ⟨qtwo_0, qtwo_1, qtwo_2⟩ := o_two.cells3
 go_wp2
 go_ret
 exact ⟨rfl, hbw⟩
open Go.RowKit Dg

theorem ResK.form {C D : Cor} {a : Int} {B : Nat} {w : World} {e : Ending} (h : ResK C D a B w e) : ∃ v k, e = .returned (.tuple #[v, .int .i64 k]) := by
 cases h with
 | arg => exact ⟨_, _, rfl⟩
 | type => exact ⟨_, _, rfl⟩
 | value => exact ⟨_, _, rfl⟩
 | ok h h2 h3 v l hv hs hm => exact ⟨v, 0, rfl⟩
theorem ResK.pair {C D : Cor} {a : Int} {B B' : Nat} {w w' : World} {v v' : Value} {k k' : Int} (h : ResK C D a B w (.returned (.tuple #[v, .int .i64 k]))) (h' : ResK C D a B' w' (.returned (.tuple #[v', .int .i64 k']))) (hb : Below w.heap.size w w') :
  k = k' /\ ∃ l, EO (fun _ => False) w' 5 (fun s e => e = kwC C D a.toNat s) v l /\ EO (fun _ => False) w' 5 (fun s e => e = kwC C D a.toNat s) v' l := by
 cases h with
 | arg h =>
  cases h' with
  | arg h' => exact ⟨rfl, [], EO.nil _ _ _ _, EO.nil _ _ _ _⟩
  | type h' => exact absurd h h'
  | value h' => exact absurd h h'
  | ok h' => exact absurd h h'
 | type h h2 =>
  cases h' with
  | arg h' => exact absurd h' h
  | type h' => exact ⟨rfl, [], EO.nil _ _ _ _, EO.nil _ _ _ _⟩
  | value h' h3 => exact absurd h3 h2
  | ok h' h3 => exact absurd h3 h2
 | value h h2 h3 =>
  cases h' with
  | arg h' => exact absurd h' h
  | type h' h4 => exact absurd h2 h4
  | value h' => exact ⟨rfl, [], EO.nil _ _ _ _, EO.nil _ _ _ _⟩
  | ok h' h4 h5 => exact absurd h3 h5
 | ok h h2 h3 _ l hv hs hm =>
  cases h' with
  | arg h' => exact absurd h' h
  | type h' h4 => exact absurd h2 h4
  | value h' h4 h5 => exact absurd h5 h3
  | ok h' h4 h5 _ l' hv' hs' hm' =>
   obtain rfl : l = l' := hs.uniq (ltK_tot _ _) hs' (fun x => (hm x).trans (hm' x).symm); exact ⟨rfl, l, (EO.below hv hb).weak' (fun _ h => h.elim), hv'.weak' (fun _ h => h.elim)⟩
theorem kwC_form (C D : Cor) (a : Nat) (s : ByteArray) : ∃ z x1 x2 x3 x4, kwC C D a s = [.string z, .int .i64 x1, .int .i64 x2, .int .i64 x3, .int .i64 x4] := ⟨_, _, _, _, _, rfl⟩
theorem keyw_law (A : Option Addr) (l : List Int) (c : Nat) (A' : Option Addr) (m : List Int) (c' : Nat) (Y : Int) (w : World) (hA : Ints w A l) (hl : l.length <= c) (hc : c <= maxLen) (hwf : ∀ x ∈ l, -9223372036854775808 <= x /\ x <= 9223372036854775807) (hA' : Ints w A' m) (hl' : m.length <= c') (hc' : c' <= maxLen) (hwf' : ∀ x ∈ m, -9223372036854775808 <= x /\ x <= 9223372036854775807) (hY1 : -9223372036854775808 <= Y) (hY2 : Y <= 9223372036854775807) (ht : Tab w) :
  Calls Tryz.prog 3 #[.slice A l.length c, .slice A' m.length c', .int .i64 Y] w fun e w' => e = .returned (.bool true) /\ Below w.heap.size w w' := by
 have T0 := Lib.hid ht; obtain ⟨k9, hk9, hm9⟩ := mod_lit9 Y 9 9 rfl hY1 hY2 (by decide) (by decide); obtain ⟨k3, hk3, hm3⟩ := mod_lit9 Y 3 3 rfl hY1 hY2 (by decide) (by decide); have HM9 := Lib.hid hm9; have HM3 := Lib.hid hm3; have HY := Lib.hid hY2; have HA' := Lib.hid hA'; have HL' := Lib.hid hl'; have HC' := Lib.hid hc'; have HW' := Lib.hid hwf'; clear ht hm9 hm3 hY1 hY2 hA' hl' hc' hwf'
 go_enter Tryz.func3, Tryz.ntmps3
 go_wp2_with fail
 refine (new_any A l c w hA hl hc hwf).mono ?_; rintro e w1 ⟨rfl, ⟨l1, hT⟩, hb1⟩; have tp := TP.start hT; obtain ⟨p, hp⟩ : ∃ p, p = w.heap.size := ⟨_, rfl⟩; rw [<- hp] at tp |-; have HP := Lib.hid hp; have hpl := tp.lt; have hbw : Below p w w1 := hp ▸ hb1; clear hT hb1 hA hl hc hwf hp
 go_wp2_with fail
 refine (corpus_lit9 w1 tp _ 8 rfl (by decide) (by decide)).mono ?_; rintro e w2 ⟨⟨v, C, rfl, ⟨a, t, x, r, n, h, s, rfl, q⟩, hM⟩, tp2, hc2⟩; have hw2 := hc2.size; have hbw2 : Below p w w2 := hbw.trans (hc2.below (fun k hk e => by omega) (by omega)); have HM := Lib.hid hM; have HQ2 := Lib.hid (q.weak (T := fun _ => False) fun _ h => h.elim); clear tp tp2 hc2 q hM hbw
 go_wp2_with fail
 refine (new_any A' m c' w2 (HA'.out.below (HP.out ▸ hbw2)) HL'.out HC'.out HW'.out).mono ?_; rintro e w3 ⟨rfl, ⟨l2, hT⟩, hb3⟩; have tp := TP.start hT; have HQ3 := Lib.hid ((HQ2.out.later hb3).weak (T := fun k => k = w2.heap.size) fun k e => .inr (by omega)); have hbw3 : Below p w w3 := hbw2.trans (hb3.mono (by omega)); obtain ⟨p2, hp2⟩ : ∃ p, p = w2.heap.size := ⟨_, rfl⟩; rw [<- hp2] at tp HQ3 |-; have hp2l : p <= p2 := by omega
 have hpl2 := tp.lt; clear HQ2 hb3 hT HA' HL' HC' HW' hbw2 hp2
 go_wp2_with fail
 refine (corpus_lit9 w3 tp _ 8 rfl (by decide) (by decide)).mono ?_; rintro e w4 ⟨⟨v, D, rfl, ⟨a', t', x', r', n', h', s', rfl, q'⟩, hM⟩, tp2, hc4⟩; have HQ4 := Lib.hid ((HQ3.out.chg hc4).weak (T := fun _ => False) fun _ h => h.elim); have HR4 := Lib.hid (q'.weak (T := fun _ => False) fun _ h => h.elim); have HN := Lib.hid hM; have hw4 := hc4.size; have hbw4 : Below p w w4 := hbw3.trans (hc4.below (fun k hk e => by omega) (by omega)); clear HQ3 tp tp2 hc4 q' hM hbw3; obtain ⟨Aa, ca, rfl, -, -, -⟩ := EO.form HQ4.out.a; obtain ⟨At, ct, rfl, -, -, -⟩ := EO.form HQ4.out.t; obtain ⟨Ax, cx, rfl, -, -, -⟩ := EO.form HQ4.out.x; obtain ⟨Ar, cr, rfl, -, -, -⟩ := EO.form HQ4.out.r; obtain ⟨An, cn9, rfl, -, -, -⟩ := EO.form HQ4.out.n; obtain ⟨Ah, ch, rfl, -, -, -⟩ := EO.form HQ4.out.h; obtain ⟨As, cs, rfl, -, -, -⟩ := EO.form HQ4.out.s; obtain ⟨Da, da, rfl, -, -, -⟩ := EO.form HR4.out.a; obtain ⟨Dt, dt, rfl, -, -, -⟩ := EO.form HR4.out.t
 obtain ⟨Dx, dx, rfl, -, -, -⟩ := EO.form HR4.out.x; obtain ⟨Dr, dr, rfl, -, -, -⟩ := EO.form HR4.out.r; obtain ⟨Dn, dn, rfl, -, -, -⟩ := EO.form HR4.out.n; obtain ⟨Dh, dh, rfl, -, -, -⟩ := EO.form HR4.out.h; obtain ⟨Ds, ds, rfl, -, -, -⟩ := EO.form HR4.out.s; obtain ⟨o_b, o_d, hb5⟩ := new2 w4 [.slice Aa C.attrs.length ca, .slice At C.toks.length ct, .slice Ax C.texts.length cx, .slice Ar C.regs.length cr, .slice An C.nodes.length cn9, .slice Ah C.heads.length ch, .slice As C.rels.length cs] [.slice Da D.attrs.length da, .slice Dt D.toks.length dt, .slice Dx D.texts.length dx, .slice Dr D.regs.length dr, .slice Dn D.nodes.length dn, .slice Dh D.heads.length dh, .slice Ds D.rels.length ds] 30 30; have hs5 : ((w4.alloc (.cells #[.slice Aa C.attrs.length ca, .slice At C.toks.length ct, .slice Ax C.texts.length cx, .slice Ar C.regs.length cr, .slice An C.nodes.length cn9, .slice Ah C.heads.length ch, .slice As C.rels.length cs] 30)).alloc (.cells #[.slice Da D.attrs.length da, .slice Dt D.toks.length dt, .slice Dx D.texts.length dx, .slice Dr D.regs.length dr, .slice Dn D.nodes.length dn, .slice Dh D.heads.length dh, .slice Ds D.rels.length ds] 30)).heap.size = w4.heap.size + 1 + 1 := by simp
 have HQ5 := Lib.hid (HQ4.out.below hb5); have HR5 := Lib.hid (HR4.out.below hb5)
 go_upto_region 2 with (fail)
 generalize ((w4.alloc (.cells #[.slice Aa C.attrs.length ca, .slice At C.toks.length ct, .slice Ax C.texts.length cx, .slice Ar C.regs.length cr, .slice An C.nodes.length cn9, .slice Ah C.heads.length ch, .slice As C.rels.length cs] 30)).alloc (.cells #[.slice Da D.attrs.length da, .slice Dt D.toks.length dt, .slice Dx D.texts.length dx, .slice Dr D.regs.length dr, .slice Dn D.nodes.length dn, .slice Dh D.heads.length dh, .slice Ds D.rels.length ds] 30)) = w5 at o_b o_d hb5 hs5 HQ5 HR5 |-; generalize hg : w4.heap.size = gb at o_b o_d hs5 hw4 |-; have hbw5 : Below p w w5 := hbw4.trans (hb5.mono (by omega)); have HF := Lib.hid (HM.out.fit (by decide)); have HG := Lib.hid (HN.out.fit (by decide)); clear hb5 hbw4 HQ4 HR4 HM HN
 go_wp2_with fail
 refine (HM9.out _).mono ?_; rintro e w' ⟨rfl, rfl⟩
 by_cases hz : 0 < k9
 ·skip
  go_wp2_with fail
  refine (HM3.out _).mono ?_; rintro e w' ⟨rfl, rfl⟩
  go_upto_region 4 with (fail)
  obtain ⟨b0, b1, b2, b3, b4, b5, b6⟩ := o_b.cells7; obtain ⟨d0, d1, d2, d3, d4, d5, d6⟩ := o_d.cells7
  go_wp2_with fail
  clear b0 b1 b2 b3 b4 b5 b6 d0 d1 d2 d3 d4 d5 d6; refine (keywords_any w5 HQ5.out HR5.out HF.out HG.out ((k3 : Int)) (by omega)).mono ?_; rintro e w6 ⟨hres, hb6⟩; have hbw6 : Below p w w6 := hbw5.trans (hb6.mono (by omega)); have o_b6 := o_b.below hb6 o_b.lt; have o_d6 := o_d.below hb6 o_d.lt; have HQ6 := Lib.hid (HQ5.out.below hb6); have HR6 := Lib.hid (HR5.out.below hb6); have hw6 := hb6.size; obtain ⟨v1, r1, rfl⟩ := hres.form; have HK := Lib.hid hres; clear hres HQ5 HR5 o_b o_d hb6 hbw5; obtain ⟨b0, b1, b2, b3, b4, b5, b6⟩ := o_b6.cells7; obtain ⟨d0, d1, d2, d3, d4, d5, d6⟩ := o_d6.cells7
  go_wp2_with fail
  clear b0 b1 b2 b3 b4 b5 b6 d0 d1 d2 d3 d4 d5 d6; refine (keywords38_any w6 HQ6.out HR6.out HF.out HG.out ((k3 : Int)) (by omega)).mono ?_; rintro e w7 ⟨hres, hb7⟩; have hbw7 : Below p w w7 := hbw6.trans (hb7.mono (by omega)); have hw7 := hb7.size; obtain ⟨v2, r2, rfl⟩ := hres.form; obtain ⟨hr, ll, h1, h2⟩ := HK.out.pair hres hb7; have H1 := Lib.hid h1; have H2 := Lib.hid h2; subst hr; clear hres HK HQ6 HR6 o_b6 o_d6 hb7 hbw6 h1 h2
  go_wp2_with fail
  refine (same38_any w7 _ (kwC_form _ _ _) H1.out H2.out).mono ?_; rintro e w8 ⟨rfl, hb8⟩; have hbw8 : Below p w w8 := hbw7.trans (hb8.mono (by omega)); have hw8 := hb8.size; have e1 : (r1 == r1) = true := by simp
  go_wp2_with fail
  refine (known38_yes _ (T0.out.below (HP.out ▸ hbw8))).mono ?_; rintro e w9 ⟨rfl, hb9⟩; have hbw9 : Below p w w9 := hbw8.trans (hb9.mono (by omega))
  go_wp2
  go_ret
  exact ⟨rfl, HP.out ▸ hbw9⟩
 ·skip
  have hz2 : k9 = 0 := by omega
  subst hz2
  go_upto_region 4 with (fail)
  obtain ⟨b0, b1, b2, b3, b4, b5, b6⟩ := o_b.cells7; obtain ⟨d0, d1, d2, d3, d4, d5, d6⟩ := o_d.cells7
  go_wp2_with fail
  clear b0 b1 b2 b3 b4 b5 b6 d0 d1 d2 d3 d4 d5 d6; refine (keywords_any w5 HQ5.out HR5.out HF.out HG.out (Y) HY.out).mono ?_; rintro e w6 ⟨hres, hb6⟩; have hbw6 : Below p w w6 := hbw5.trans (hb6.mono (by omega)); have o_b6 := o_b.below hb6 o_b.lt; have o_d6 := o_d.below hb6 o_d.lt; have HQ6 := Lib.hid (HQ5.out.below hb6); have HR6 := Lib.hid (HR5.out.below hb6); have hw6 := hb6.size; obtain ⟨v1, r1, rfl⟩ := hres.form; have HK := Lib.hid hres; clear hres HQ5 HR5 o_b o_d hb6 hbw5; obtain ⟨b0, b1, b2, b3, b4, b5, b6⟩ := o_b6.cells7; obtain ⟨d0, d1, d2, d3, d4, d5, d6⟩ := o_d6.cells7
  go_wp2_with fail
  clear b0 b1 b2 b3 b4 b5 b6 d0 d1 d2 d3 d4 d5 d6; refine (keywords38_any w6 HQ6.out HR6.out HF.out HG.out (Y) HY.out).mono ?_; rintro e w7 ⟨hres, hb7⟩; have hbw7 : Below p w w7 := hbw6.trans (hb7.mono (by omega)); have hw7 := hb7.size; obtain ⟨v2, r2, rfl⟩ := hres.form; obtain ⟨hr, ll, h1, h2⟩ := HK.out.pair hres hb7; have H1 := Lib.hid h1; have H2 := Lib.hid h2; subst hr; clear hres HK HQ6 HR6 o_b6 o_d6 hb7 hbw6 h1 h2
  go_wp2_with fail
  refine (same38_any w7 _ (kwC_form _ _ _) H1.out H2.out).mono ?_; rintro e w8 ⟨rfl, hb8⟩; have hbw8 : Below p w w8 := hbw7.trans (hb8.mono (by omega)); have hw8 := hb8.size; have e1 : (r1 == r1) = true := by simp
  go_wp2_with fail
  refine (known38_yes _ (T0.out.below (HP.out ▸ hbw8))).mono ?_; rintro e w9 ⟨rfl, hb9⟩; have hbw9 : Below p w w9 := hbw8.trans (hb9.mono (by omega))
  go_wp2
  go_ret
  exact ⟨rfl, HP.out ▸ hbw9⟩
open Go.ChangeShapes Go.WideShapes Go.ChangeAt Go.RowKit Go.Deep

theorem addr_lit {w : World} {x : Addr} {u : Value} (h : w.cell? (x.add 0) = some u) : x = ⟨x.block, x.off, none⟩ := by
 obtain ⟨b, off, spot⟩ := x; have hs : spot = none := by simpa [Addr.add] using World.cell?_spot h
 subst hs
 rfl
theorem wide_of {n : Int} (h : (Lit.int .i64 n).wf = true) : -9223372036854775808 <= n /\ n <= 9223372036854775807 := by
 have e1 : IntKind.i64.min = -9223372036854775808 := by decide
 have e2 : IntKind.i64.max = 9223372036854775807 := by decide
 simp [Lit.wf] at h
 omega

section
variable {H : Type} {enc : TypeId × Value -> H} {P : Program} {w : World} {base : Nat} {spare : Nat -> Bool} {held : Bool}
theorem ints_of2 {t e : TypeId} {a : Option Addr} {len cap : Nat} {d : DataW H} {p : List MemPlace} (ht : P.underlying t = some (.slice e)) (he : P.underlying e = some (.int .i64)) (hc : P.cellsOf e = 1)
  (h : DataW.Trod enc P w base spare held t (.slice a len cap) d p) : ∃ l : List Int, l.length = len /\ len <= cap /\ cap <= maxLen /\ Ints w a l /\ Wide l := by
 obtain ⟨fuel, hf⟩ := h
 rcases open_ints ht he hc hf with ⟨hcs, _⟩ | ⟨x, l, c, zs, hcs, _, hl, hm, hz, _, hcell, hwz⟩
 ·simp [Value.cells] at hcs
  obtain ⟨rfl, rfl, rfl⟩ := hcs; exact ⟨[], rfl, by omega, by simp [maxLen], Rd.nil _ _, by intro x hx; simp at hx⟩
 ·simp [Value.cells] at hcs
  obtain ⟨rfl, rfl, rfl⟩ := hcs; have hz' : len <= zs.length := by rw [hz]; split <;> omega
  refine ⟨zs.take len, by rw [List.length_take]; omega, by omega, by omega, ?_, fun n hn => wide_of (hwz n (List.mem_of_mem_take hn))⟩; intro j u hu; have hj : j < len /\ j < zs.length := by
   have := (List.getElem?_eq_some_iff.1 hu).1
   simp only [ci, List.length_map, List.length_take] at this
   omega
  have hcj := hcell j hj.2; have e := addr_lit (hcell 0 (by omega)); refine ⟨x.block, x.off, by rw [<- e], ?_⟩; rw [e, Addr.add_lit] at hcj; rw [hcj]; have : (ci (zs.take len))[j]? = some (.int .i64 (zs.getD j 0)) := by
   simp only [ci, List.getElem?_map, List.getElem?_take, hj.1, if_true, List.getD, List.getElem?_eq_getElem hj.2]
   rfl
  rw [this] at hu; exact hu
end
end Go.Proofs.YtjimfbmegmnocaaGreatDoor
