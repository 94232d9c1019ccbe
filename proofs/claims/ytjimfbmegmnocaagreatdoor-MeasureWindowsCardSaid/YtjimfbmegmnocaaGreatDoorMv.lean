/- Parts of the proof: Mv. No condition of its own. -/
import Derived.Test.YtjimfbmegmnocaaGreatDoorMu
set_option linter.unusedSimpArgs false
set_option linter.unusedVariables false
set_option maxRecDepth 100000
set_option maxHeartbeats 4000000
namespace Go.Proofs.YtjimfbmegmnocaaGreatDoor
open Go.RowKit Dg

theorem qres_yes {P Q : Nat} (h : 0 < Q) (hf : OkR (rat false P Q)) : ∀ e, QRes P Q e -> e = .returned (.tuple #[RV (rat false P Q), .int .i64 0]) := by
 rintro e (⟨h1, _⟩ | ⟨_, h2⟩)
 ·omega
 ·exact h2.ok hf
theorem few_quo {P Q : Nat} (h : 0 < Q) (h1 : P < 10 ^ 70) (h2 : Q < 10 ^ 70) : Few 70 (rat false P Q) := few_rat h (dec_len_le (by decide) h1) (dec_len_le (by decide) h2)
theorem rat_pos' {P Q : Nat} (hp : 0 < P) (hq : 0 < Q) : 0 < rat false P Q := by
 rw [rat_quo, Rat.lt_div_iff (Rat.natCast_pos.2 hq), Rat.zero_mul]; exact Rat.natCast_pos.2 hp
def hiq (x : Rat) (i : Int) (k : Nat) : Rat := if p2 i = x ^ (2 ^ k) then uq i k else uq (i + 1) k
theorem VC.prod {a p q n x y : Nat} (hx : x <= 4294967296) (hy : y <= 4294967296) : prodN [x, y] < 10 ^ 70 := by
 have h1 : x * y <= 4294967296 * 4294967296 := Nat.mul_le_mul hx hy
 simp only [prodN, Nat.mul_one]
 exact Nat.lt_of_le_of_lt h1 (by decide)
theorem mi_yes {a p q n k : Nat} (hv : VC a p q n) (hk : k <= 8) (ha : 0 < a) (w0 : World) : ∃ i : Int, IsLog (rat false (prodN [a, n]) (prodN [p, q]) ^ (2 ^ k)) i /\ -1000000 <= i /\ i <= 1000000 /\
  ∀ w, Tab w -> Calls Tryz.prog 34 #[CV a p q n, .int .i64 (k : Int)] w fun e w' => e = .returned (.tuple #[IV (uq i k) (hiq (rat false (prodN [a, n]) (prodN [p, q])) i k), .int .i64 0]) /\ Below w.heap.size w w' := by
 have h1 := hv.pn; have h2 := hv.qn; have h3 := hv.n2; have h4 := hv.ap; have h5 := hv.aq; have h6 := hv.pq; have h7 := hv.n1
 have hp : 0 < prodN [a, n] := by simp only [prodN, Nat.mul_one]; exact Nat.mul_pos ha (by omega)
 have hq : 0 < prodN [p, q] := by simp only [prodN, Nat.mul_one]; exact Nat.mul_pos (by omega) (by omega)
 have hf := few_quo hq (VC.prod (a := a) (p := p) (q := q) (n := n) (x := a) (y := n) (by omega) (by omega)) (VC.prod (a := a) (p := p) (q := q) (n := n) (x := p) (y := q) (by omega) (by omega)); obtain ⟨i, g1, g2, g3, -, g5⟩ := ebits_yes hf (rat_pos' hp hq) hk w0; exact ⟨i, g1, g2, g3, fun w ht => mi_core _ _ _ _ _ _ _ _ _ hv hk ha (qres_yes hq (hf.ok (by decide))) g5 w ht⟩
open Go.RowKit Dg

open Go.RowKit Dg

theorem vc_ex : VC 2 4 2 16 := ⟨by decide, by decide, by decide, by decide, by decide, by decide, by decide⟩
theorem rv_any {x : Rat} {n : Int} {d : Nat} (hn : x.num = n) (hd : x.den = d) : RV x = .agg #[.bool (decide (n < 0)), .string (S n.natAbs), .string (S d)] := by rw [<- hn, <- hd]
theorem s48 : S 48 = ⟨#[52, 56]⟩ := by decide
theorem s7 : S 7 = ⟨#[55]⟩ := by decide
theorem s2 : S 2 = ⟨#[50]⟩ := by decide
theorem s1 : S 1 = ⟨#[49]⟩ := by decide
theorem chi_ex (w : World) (ht : Tab w) : Calls Tryz.prog 32 #[.agg #[.int .i64 2, .int .i64 4, .int .i64 2, .int .i64 16]] w fun e w' => e = .returned (.tuple #[.agg #[.bool false, .string ⟨#[52, 56]⟩, .string ⟨#[55]⟩], .int .i64 0]) /\ Below w.heap.size w w' := by
 refine (chi_yes vc_ex w ht).mono ?_; rintro e w' ⟨h, hb⟩; refine ⟨?_, hb⟩; have e1 : prodN [16, (((16 : Nat) : Int) * ((2 : Nat) : Int) - ((4 : Nat) : Int) * ((2 : Nat) : Int)).natAbs, (((16 : Nat) : Int) * ((2 : Nat) : Int) - ((4 : Nat) : Int) * ((2 : Nat) : Int)).natAbs] = 9216 := by decide
 have e2 : prodN [4, 16 - 4, 2, 16 - 2] = 1344 := by decide
 rw [e1, e2] at h; have g := qres_yes (P := 9216) (Q := 1344) (by decide) ((few_quo (by decide) (by decide) (by decide)).ok (by decide)) e h; rw [g, rv_any (n := 48) (d := 7) (by decide) (by decide)]; rw [show (48 : Int).natAbs = 48 from rfl, s48, s7]
 rfl
theorem odds_ex (w : World) (ht : Tab w) : Calls Tryz.prog 33 #[.agg #[.int .i64 2, .int .i64 4, .int .i64 2, .int .i64 16]] w fun e w' => e = .returned (.tuple #[Rat0, .int .i64 25]) /\ Below w.heap.size w w' := by
 refine (odds_yes vc_ex w ht).mono ?_; rintro e w' ⟨h, hb⟩; refine ⟨?_, hb⟩
 rcases h with ⟨_, h⟩ | ⟨h, _⟩
 ·exact h
 ·exact absurd h (by decide)
theorem mi_ex (w0 : World) : ∀ w, Tab w -> Calls Tryz.prog 34 #[.agg #[.int .i64 2, .int .i64 4, .int .i64 2, .int .i64 16], .int .i64 0] w fun e w' => e = .returned (.tuple #[.agg #[.bool false, .string ⟨#[50]⟩, .string ⟨#[49]⟩, .bool false, .string ⟨#[50]⟩, .string ⟨#[49]⟩], .int .i64 0]) /\ Below w.heap.size w w' := by
 obtain ⟨i, h1, -, -, h4⟩ := mi_yes vc_ex (k := 0) (by decide) (by decide) w0; have ex : rat false (prodN [2, 16]) (prodN [4, 2]) = 4 := by decide
 rw [ex] at h1 h4; have hp : p2 2 = (4 : Rat) := by decide
 have hi : i = 2 := by
  refine h1.eq ⟨?_, ?_⟩
  ·rw [hp]; decide
  ·have : p2 (2 + 1) = (8 : Rat) := by decide
   rw [this]; decide
 subst hi; have e1 : hiq 4 2 0 = uq 2 0 := by
  unfold hiq; rw [if_pos (by rw [hp]; decide)]
 rw [e1] at h4; intro w ht; refine (h4 w ht).mono ?_; rintro e w' ⟨h, hb⟩; refine ⟨?_, hb⟩; have n1 : (uq 2 0).num = 2 := by decide
 have n2 : (uq 2 0).den = 1 := by decide
 rw [h]; unfold IV; rw [n1, n2, show (2 : Int).natAbs = 2 from rfl, s2, s1]
 rfl
theorem known38_yes (w : World) (ht : Tab w) : Calls Tryz.prog 13 #[] w fun e w' => e = .returned (.bool true) /\ Below w.heap.size w w' := by
 have T0 := Lib.hid ht; clear ht
 go_enter Tryz.func13, Tryz.ntmps13
 have hbw := Below.refl w.heap.size w
 go_upto_region 1 with (fail)
 obtain ⟨o_c, hz1⟩ := new1 w [.int .i64 2, .int .i64 4, .int .i64 2, .int .i64 16] 47; replace hbw := below6 hbw hz1; clear hz1
 go_upto_region 2 with (fail)
 generalize (w.alloc (.cells #[.int .i64 2, .int .i64 4, .int .i64 2, .int .i64 16] 47)) = wa2 at o_c hbw |-; generalize w.heap.size = g2 at o_c |-; obtain ⟨qc_0, qc_1, qc_2, qc_3⟩ := o_c.cells4
 go_wp2_with fail
 clear qc_0 qc_1 qc_2 qc_3; refine (chi_ex _ (T0.out.below hbw)).mono ?_; rintro e w3 ⟨rfl, hb3⟩; replace o_c := o_c.below hb3 o_c.lt; replace hbw := below6 hbw hb3; clear hb3; obtain ⟨o_x, hz4⟩ := new1 w3 [.bool false, .string ⟨#[52, 56]⟩, .string ⟨#[55]⟩] 73; replace o_c := o_c.alloc (.cells #[.bool false, .string ⟨#[52, 56]⟩, .string ⟨#[55]⟩] 73); replace hbw := below6 hbw hz4; clear hz4; obtain ⟨qc_0, qc_1, qc_2, qc_3⟩ := o_c.cells4
 go_wp2_with fail
 generalize (w3.alloc (.cells #[.bool false, .string ⟨#[52, 56]⟩, .string ⟨#[55]⟩] 73)) = wa5 at o_c o_x hbw |-; generalize w3.heap.size = g5 at o_x |-; clear qc_0 qc_1 qc_2 qc_3; refine (odds_ex _ (T0.out.below hbw)).mono ?_; rintro e w6 ⟨rfl, hb6⟩; replace o_c := o_c.below hb6 o_c.lt; replace o_x := o_x.below hb6 o_x.lt; replace hbw := below6 hbw hb6; clear hb6; obtain ⟨o_y, hz7⟩ := new1 w6 [.bool false, .string ⟨#[]⟩, .string ⟨#[]⟩] 73; replace o_c := o_c.alloc (.cells #[.bool false, .string ⟨#[]⟩, .string ⟨#[]⟩] 73); replace o_x := o_x.alloc (.cells #[.bool false, .string ⟨#[]⟩, .string ⟨#[]⟩] 73); replace hbw := below6 hbw hz7; clear hz7; obtain ⟨qc_0, qc_1, qc_2, qc_3⟩ := o_c.cells4
 go_wp2_with fail
 generalize (w6.alloc (.cells #[.bool false, .string ⟨#[]⟩, .string ⟨#[]⟩] 73)) = wa8 at o_c o_x o_y hbw |-; generalize w6.heap.size = g8 at o_y |-; clear qc_0 qc_1 qc_2 qc_3; refine (mi_ex w _ (T0.out.below hbw)).mono ?_; rintro e w9 ⟨rfl, hb9⟩; replace o_c := o_c.below hb9 o_c.lt; replace o_x := o_x.below hb9 o_x.lt; replace o_y := o_y.below hb9 o_y.lt; replace hbw := below6 hbw hb9; clear hb9; obtain ⟨o_i, hz10⟩ := new1 w9 [.bool false, .string ⟨#[50]⟩, .string ⟨#[49]⟩, .bool false, .string ⟨#[50]⟩, .string ⟨#[49]⟩] 77; replace o_c := o_c.alloc (.cells #[.bool false, .string ⟨#[50]⟩, .string ⟨#[49]⟩, .bool false, .string ⟨#[50]⟩, .string ⟨#[49]⟩] 77); replace o_x := o_x.alloc (.cells #[.bool false, .string ⟨#[50]⟩, .string ⟨#[49]⟩, .bool false, .string ⟨#[50]⟩, .string ⟨#[49]⟩] 77); replace o_y := o_y.alloc (.cells #[.bool false, .string ⟨#[50]⟩, .string ⟨#[49]⟩, .bool false, .string ⟨#[50]⟩, .string ⟨#[49]⟩] 77)
 replace hbw := below6 hbw hz10; clear hz10
 go_upto_region 5 with (fail)
 generalize (w9.alloc (.cells #[.bool false, .string ⟨#[50]⟩, .string ⟨#[49]⟩, .bool false, .string ⟨#[50]⟩, .string ⟨#[49]⟩] 77)) = wa11 at o_c o_x o_y o_i hbw |-; generalize w9.heap.size = g11 at o_i |-; obtain ⟨o_two, hz12⟩ := new1 wa11 [.bool false, .string ⟨#[50]⟩, .string ⟨#[49]⟩] 73; replace o_c := o_c.alloc (.cells #[.bool false, .string ⟨#[50]⟩, .string ⟨#[49]⟩] 73); replace o_x := o_x.alloc (.cells #[.bool false, .string ⟨#[50]⟩, .string ⟨#[49]⟩] 73); replace o_y := o_y.alloc (.cells #[.bool false, .string ⟨#[50]⟩, .string ⟨#[49]⟩] 73); replace o_i := o_i.alloc (.cells #[.bool false, .string ⟨#[50]⟩, .string ⟨#[49]⟩] 73); replace hbw := below6 hbw hz12; clear hz12
 go_upto_region 6 with (fail)
 generalize (wa11.alloc (.cells #[.bool false, .string ⟨#[50]⟩, .string ⟨#[49]⟩] 73)) = wa13 at o_c o_x o_y o_i o_two hbw |-; generalize wa11.heap.size = g13 at o_two |-; have qx_0 := o_x.c0; have qx_1 := o_x.c1; have qx_2 := o_x.c2; obtain ⟨qy_0, qy_1, qy_2⟩ := o_y.cells3; obtain ⟨qi_0, qi_1, qi_2, qi_3, qi_4, qi_5⟩ := o_i.cells6; obtain ⟨qtwo_0, qtwo_1, qtwo_2⟩ := o_two.cells3
 go_wp2
 go_ret
 exact ⟨rfl, hbw⟩
end Go.Proofs.YtjimfbmegmnocaaGreatDoor
