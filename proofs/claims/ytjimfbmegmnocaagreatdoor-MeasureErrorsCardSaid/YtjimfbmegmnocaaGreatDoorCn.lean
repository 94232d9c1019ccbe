/- Parts of the proof: Cn. No condition of its own. -/
import Derived.Test.YtjimfbmegmnocaaGreatDoorCnh
set_option linter.unusedSimpArgs false
set_option linter.unusedVariables false
set_option maxRecDepth 100000
set_option maxHeartbeats 80000000
namespace Go.Proofs.YtjimfbmegmnocaaGreatDoor
open Go.RowKit

structure Joined (C D E : Cor) : Prop where
 attrs : E.attrs = C.attrs
 toks : E.toks = C.toks ++ D.toks
 texts : E.texts = C.texts ++ D.texts.map fun t => { t with lo := t.lo + C.toks.length, hi := t.hi + C.toks.length }
def ConcatRes (S : Nat -> Prop) (C D : Cor) (e : Ending) (w : World) : Prop :=
 (∃ k, e = .returned (.tuple #[.agg #[.slice none 0 0, .slice none 0 0, .slice none 0 0, .slice none 0 0, .slice none 0 0, .slice none 0 0, .slice none 0 0], .int .i64 k]) /\ k ≠ 0) \/ ∃ v E, e = .returned (.tuple #[v, .int .i64 0]) /\ CorV S w v E /\ Joined C D E /\ ValidC C /\ ValidC D
theorem ConcatRes.no {S : Nat -> Prop} {C D : Cor} {w : World} {k : Int} (hk : k ≠ 0) : ConcatRes S C D (.returned (.tuple #[.agg #[.slice none 0 0, .slice none 0 0, .slice none 0 0, .slice none 0 0, .slice none 0 0, .slice none 0 0, .slice none 0 0], .int .i64 k])) w := .inl ⟨k, rfl, hk⟩
theorem concat6_core {S : Nat -> Prop} {a t x r n h s a' t' x' r' n' h' s' : Value} {C D : Cor} (w : World) (q1 : CorC S w a t x r n h s C) (q2 : CorC S w a' t' x' r' n' h' s' D) (hS : ∀ k, S k -> k < w.heap.size + 3) (hr : S (w.heap.size + 1 + 1)) :
  Calls Tryz.prog 21 #[.agg #[a, t, x, r, n, h, s], .agg #[a', t', x', r', n', h', s']] w fun e w' => ConcatRes S C D e w' /\ Below w.heap.size w w' := by
 obtain ⟨Aa1, ca1, rfl, -, ha1, -⟩ := EO.form q1.a; obtain ⟨At1, ct1, rfl, -, ht1, -⟩ := EO.form q1.t; obtain ⟨Ax1, cx1, rfl, -, hx1, -⟩ := EO.form q1.x; obtain ⟨Ar1, cr1, rfl, -, hr1, -⟩ := EO.form q1.r; obtain ⟨An1, cn1, rfl, -, hn1, -⟩ := EO.form q1.n; obtain ⟨Ah1, ch1, rfl, -, hh1, -⟩ := EO.form q1.h; obtain ⟨As1, cs1, rfl, -, hs1, -⟩ := EO.form q1.s; obtain ⟨Aa2, ca2, rfl, -, ha2, -⟩ := EO.form q2.a; obtain ⟨At2, ct2, rfl, -, ht2, -⟩ := EO.form q2.t; obtain ⟨Ax2, cx2, rfl, -, hx2, -⟩ := EO.form q2.x; obtain ⟨Ar2, cr2, rfl, -, hr2, -⟩ := EO.form q2.r; obtain ⟨An2, cn2, rfl, -, hn2, -⟩ := EO.form q2.n; obtain ⟨Ah2, ch2, rfl, -, hh2, -⟩ := EO.form q2.h; obtain ⟨As2, cs2, rfl, -, hs2, -⟩ := EO.form q2.s; have HQ1 := Z' (fun wx hb => q1.later (w' := wx) hb); have HQ2 := Z' (fun wx hb => q2.later (w' := wx) hb); obtain ⟨o_a, o_b, o_r, hbw⟩ := new3 w [.slice Aa1 C.attrs.length ca1, .slice At1 C.toks.length ct1, .slice Ax1 C.texts.length cx1, .slice Ar1 C.regs.length cr1, .slice An1 C.nodes.length cn1, .slice Ah1 C.heads.length ch1, .slice As1 C.rels.length cs1] [.slice Aa2 D.attrs.length ca2, .slice At2 D.toks.length ct2, .slice Ax2 D.texts.length cx2, .slice Ar2 D.regs.length cr2, .slice An2 D.nodes.length cn2, .slice Ah2 D.heads.length ch2, .slice As2 D.rels.length cs2] [.slice none 0 0, .slice none 0 0, .slice none 0 0, .slice none 0 0, .slice none 0 0, .slice none 0 0, .slice none 0 0] 30 30 30
 have hsz : (((w.alloc (.cells #[.slice Aa1 C.attrs.length ca1, .slice At1 C.toks.length ct1, .slice Ax1 C.texts.length cx1, .slice Ar1 C.regs.length cr1, .slice An1 C.nodes.length cn1, .slice Ah1 C.heads.length ch1, .slice As1 C.rels.length cs1] 30)).alloc (.cells #[.slice Aa2 D.attrs.length ca2, .slice At2 D.toks.length ct2, .slice Ax2 D.texts.length cx2, .slice Ar2 D.regs.length cr2, .slice An2 D.nodes.length cn2, .slice Ah2 D.heads.length ch2, .slice As2 D.rels.length cs2] 30)).alloc (.cells #[.slice none 0 0, .slice none 0 0, .slice none 0 0, .slice none 0 0, .slice none 0 0, .slice none 0 0, .slice none 0 0] 30)).heap.size = w.heap.size + 1 + 1 + 1 := by simp
 go_enter Tryz.func21, Tryz.ntmps21
 go_upto_region 1 with (fail)
 generalize (((w.alloc (.cells #[.slice Aa1 C.attrs.length ca1, .slice At1 C.toks.length ct1, .slice Ax1 C.texts.length cx1, .slice Ar1 C.regs.length cr1, .slice An1 C.nodes.length cn1, .slice Ah1 C.heads.length ch1, .slice As1 C.rels.length cs1] 30)).alloc (.cells #[.slice Aa2 D.attrs.length ca2, .slice At2 D.toks.length ct2, .slice Ax2 D.texts.length cx2, .slice Ar2 D.regs.length cr2, .slice An2 D.nodes.length cn2, .slice Ah2 D.heads.length ch2, .slice As2 D.rels.length cs2] 30)).alloc (.cells #[.slice none 0 0, .slice none 0 0, .slice none 0 0, .slice none 0 0, .slice none 0 0, .slice none 0 0, .slice none 0 0] 30)) = wb at o_a o_b o_r hbw hsz  |-; obtain ⟨B, hB⟩ : ∃ B, B = w.heap.size := ⟨_, rfl⟩; rw [<- hB] at o_a o_b o_r hsz hbw |-; have HB := Z' hB; clear hB; rw [<- HB.out] at HQ1 HQ2; clear q1 q2; obtain ⟨p0, p1, p2, p3, p4, p5, p6⟩ := o_a.cells7; obtain ⟨q0, q1, q2, q3, q4, q5, q6⟩ := o_b.cells7
 go_wp2_with fail
 refine (valid6_any _ (HQ1.out _ hbw)).mono ?_; rintro e w1 ⟨⟨v1, rfl, hv1⟩, hb1⟩; clear p0 p1 p2 p3 p4 p5 p6 q0 q1 q2 q3 q4 q5 q6; replace o_a := o_a.below hb1 (by omega); replace o_b := o_b.below hb1 (by omega); replace o_r := o_r.below hb1 (by omega); replace hbw := belowB hbw (by omega) hb1; have hs_hb1 := hb1.size; clear hb1
 cases v1
 ·skip
  obtain ⟨r9_0, r9_1, r9_2, r9_3, r9_4, r9_5, r9_6⟩ := o_r.cells7; obtain ⟨fr9_0, fr9_1, fr9_2, fr9_3, fr9_4, fr9_5, fr9_6⟩ := o_r.frozens7; have oz := o_r.set7' (.slice none 0 0) (.slice none 0 0) (.slice none 0 0) (.slice none 0 0) (.slice none 0 0) (.slice none 0 0) (.slice none 0 0); have hbz := Below.set7' hbw (g := B + 1 + 1) (by omega) (.slice none 0 0) (.slice none 0 0) (.slice none 0 0) (.slice none 0 0) (.slice none 0 0) (.slice none 0 0) (.slice none 0 0)
  go_wp2_with fail
  clear r9_0 r9_1 r9_2 r9_3 r9_4 r9_5 r9_6 fr9_0 fr9_1 fr9_2 fr9_3 fr9_4 fr9_5 fr9_6; generalize (((((((w1.setCell ⟨B + 1 + 1, 0, none⟩ (.slice none 0 0)).setCell ⟨B + 1 + 1, 1, none⟩ (.slice none 0 0)).setCell ⟨B + 1 + 1, 2, none⟩ (.slice none 0 0)).setCell ⟨B + 1 + 1, 3, none⟩ (.slice none 0 0)).setCell ⟨B + 1 + 1, 4, none⟩ (.slice none 0 0)).setCell ⟨B + 1 + 1, 5, none⟩ (.slice none 0 0)).setCell ⟨B + 1 + 1, 6, none⟩ (.slice none 0 0)) = wz at oz hbz |-; obtain ⟨z90, z91, z92, z93, z94, z95, z96⟩ := oz.cells7; exact bodyPost_ret (v := .tuple #[.agg #[.slice none 0 0, .slice none 0 0, .slice none 0 0, .slice none 0 0, .slice none 0 0, .slice none 0 0, .slice none 0 0], .int .i64 1]) (by simp [results, Tryz.results21, go_sem, z90, z91, z92, z93, z94, z95, z96]) rfl ⟨ConcatRes.no (by decide), HB.out ▸ hbz⟩
 have HV1 := Z' (hv1 rfl); clear hv1; obtain ⟨p0, p1, p2, p3, p4, p5, p6⟩ := o_a.cells7; obtain ⟨q0, q1, q2, q3, q4, q5, q6⟩ := o_b.cells7
 go_wp2_with fail
 refine (valid6_any _ (HQ2.out _ hbw)).mono ?_; rintro e w2 ⟨⟨v2, rfl, hv2⟩, hb2⟩; clear p0 p1 p2 p3 p4 p5 p6 q0 q1 q2 q3 q4 q5 q6; replace o_a := o_a.below hb2 (by omega); replace o_b := o_b.below hb2 (by omega); replace o_r := o_r.below hb2 (by omega); replace hbw := belowB hbw (by omega) hb2; have hs_hb2 := hb2.size; clear hb2
 cases v2
 ·skip
  obtain ⟨r9_0, r9_1, r9_2, r9_3, r9_4, r9_5, r9_6⟩ := o_r.cells7; obtain ⟨fr9_0, fr9_1, fr9_2, fr9_3, fr9_4, fr9_5, fr9_6⟩ := o_r.frozens7; have oz := o_r.set7' (.slice none 0 0) (.slice none 0 0) (.slice none 0 0) (.slice none 0 0) (.slice none 0 0) (.slice none 0 0) (.slice none 0 0); have hbz := Below.set7' hbw (g := B + 1 + 1) (by omega) (.slice none 0 0) (.slice none 0 0) (.slice none 0 0) (.slice none 0 0) (.slice none 0 0) (.slice none 0 0) (.slice none 0 0)
  go_wp2_with fail
  clear r9_0 r9_1 r9_2 r9_3 r9_4 r9_5 r9_6 fr9_0 fr9_1 fr9_2 fr9_3 fr9_4 fr9_5 fr9_6; generalize (((((((w2.setCell ⟨B + 1 + 1, 0, none⟩ (.slice none 0 0)).setCell ⟨B + 1 + 1, 1, none⟩ (.slice none 0 0)).setCell ⟨B + 1 + 1, 2, none⟩ (.slice none 0 0)).setCell ⟨B + 1 + 1, 3, none⟩ (.slice none 0 0)).setCell ⟨B + 1 + 1, 4, none⟩ (.slice none 0 0)).setCell ⟨B + 1 + 1, 5, none⟩ (.slice none 0 0)).setCell ⟨B + 1 + 1, 6, none⟩ (.slice none 0 0)) = wz at oz hbz |-; obtain ⟨z90, z91, z92, z93, z94, z95, z96⟩ := oz.cells7; exact bodyPost_ret (v := .tuple #[.agg #[.slice none 0 0, .slice none 0 0, .slice none 0 0, .slice none 0 0, .slice none 0 0, .slice none 0 0, .slice none 0 0], .int .i64 1]) (by simp [results, Tryz.results21, go_sem, z90, z91, z92, z93, z94, z95, z96]) rfl ⟨ConcatRes.no (by decide), HB.out ▸ hbz⟩
 have HV2 := Z' (hv2 rfl); clear hv2; obtain ⟨p0, p1, p2, p3, p4, p5, p6⟩ := o_a.cells7; obtain ⟨q0, q1, q2, q3, q4, q5, q6⟩ := o_b.cells7
 go_wp2_with fail
 refine (sameAttrs6_any _ (HQ1.out _ hbw).a (HQ2.out _ hbw).a).mono ?_; rintro e w3 ⟨⟨v3, rfl, hv3⟩, hb3⟩; clear p0 p1 p2 p3 p4 p5 p6 q0 q1 q2 q3 q4 q5 q6; replace o_a := o_a.below hb3 (by omega); replace o_b := o_b.below hb3 (by omega); replace o_r := o_r.below hb3 (by omega); replace hbw := belowB hbw (by omega) hb3; have hs_hb3 := hb3.size; clear hb3 hv3
 cases v3
 ·skip
  obtain ⟨r9_0, r9_1, r9_2, r9_3, r9_4, r9_5, r9_6⟩ := o_r.cells7; obtain ⟨fr9_0, fr9_1, fr9_2, fr9_3, fr9_4, fr9_5, fr9_6⟩ := o_r.frozens7; have oz := o_r.set7' (.slice none 0 0) (.slice none 0 0) (.slice none 0 0) (.slice none 0 0) (.slice none 0 0) (.slice none 0 0) (.slice none 0 0); have hbz := Below.set7' hbw (g := B + 1 + 1) (by omega) (.slice none 0 0) (.slice none 0 0) (.slice none 0 0) (.slice none 0 0) (.slice none 0 0) (.slice none 0 0) (.slice none 0 0)
  go_wp2_with fail
  clear r9_0 r9_1 r9_2 r9_3 r9_4 r9_5 r9_6 fr9_0 fr9_1 fr9_2 fr9_3 fr9_4 fr9_5 fr9_6; generalize (((((((w3.setCell ⟨B + 1 + 1, 0, none⟩ (.slice none 0 0)).setCell ⟨B + 1 + 1, 1, none⟩ (.slice none 0 0)).setCell ⟨B + 1 + 1, 2, none⟩ (.slice none 0 0)).setCell ⟨B + 1 + 1, 3, none⟩ (.slice none 0 0)).setCell ⟨B + 1 + 1, 4, none⟩ (.slice none 0 0)).setCell ⟨B + 1 + 1, 5, none⟩ (.slice none 0 0)).setCell ⟨B + 1 + 1, 6, none⟩ (.slice none 0 0)) = wz at oz hbz |-; obtain ⟨z90, z91, z92, z93, z94, z95, z96⟩ := oz.cells7; exact bodyPost_ret (v := .tuple #[.agg #[.slice none 0 0, .slice none 0 0, .slice none 0 0, .slice none 0 0, .slice none 0 0, .slice none 0 0, .slice none 0 0], .int .i64 17]) (by simp [results, Tryz.results21, go_sem, z90, z91, z92, z93, z94, z95, z96]) rfl ⟨ConcatRes.no (by decide), HB.out ▸ hbz⟩
 obtain ⟨p0, p1, p2, p3, p4, p5, p6⟩ := o_a.cells7; obtain ⟨q0, q1, q2, q3, q4, q5, q6⟩ := o_b.cells7
 go_wp2_with fail
 clear p0 p1 p2 p3 p4 p5 p6 q0 q1 q2 q3 q4 q5 q6
 go_loopg [39] (D.texts.length + 1) (fun q v wr => ∃ j : Nat, q = D.texts.length + 1 - j /\ j <= D.texts.length /\ v = .int .i64 (j : Int) /\ Below w3.heap.size w3 wr)
 case atStart => exact ⟨0, rfl, Nat.zero_le _, rfl, Below.refl _ _⟩
 case round =>
  obtain ⟨j, rfl, hj, rfl, hbr⟩ := hrel; replace o_a := o_a.below hbr (by omega); replace o_b := o_b.below hbr (by omega); replace o_r := o_r.below hbr (by omega); replace hbw := belowB hbw (by omega) hbr; have hwr := hbr.size
  by_cases hlt : j < D.texts.length
  ·obtain ⟨b, off, m, rfl, -, k0, k1, k2, k3, hm, sn, z1, z2⟩ := SpnsO.get (HQ2.out _ hbw).x hlt; obtain ⟨tx, htx⟩ : ∃ tx, tx = D.texts[j] := ⟨_, rfl⟩; rw [<- htx] at k0 k1 k2 hm sn z1 z2; obtain ⟨nm, l0, h0, ks⟩ := tx; clear htx
   dsimp only at k0 k1 k2 hm sn z1 z2
   obtain ⟨Am, cm, rfl, -, -, -⟩ := EO.form hm; obtain ⟨o_t, hbt⟩ := new1 wr [.string nm, .int .i64 l0, .int .i64 h0, .slice Am ks.length cm] 89; have hb2 := belowB hbw (by omega) hbt; have hbr2 := belowB hbr (by omega) hbt; have o_a2 := o_a.below hbt (by omega); have o_r2 := o_r.below hbt (by omega); have hgt := o_t.lt
   go_upto_region 8 with (fail)
   generalize (wr.alloc (.cells #[.string nm, .int .i64 l0, .int .i64 h0, .slice Am ks.length cm] 89)) = wt at o_t hb2 hbr2 o_a2 o_r2 hgt |-; clear k0 k1 k2 k3 hbt hm o_a o_b o_r hbr hbw; generalize wr.heap.size = g at o_t hgt hwr |-; have t0 := o_t.c0; obtain ⟨p0, p1, p2, p3, p4, p5, p6⟩ := o_a2.cells7
   go_wp2_with fail
   refine (findText6_grow nm _ (HQ1.out _ hb2)).mono ?_; rintro e w4 ⟨⟨kk, rfl⟩, hb4⟩; clear t0 p0 p1 p2 p3 p4 p5 p6; replace o_r2 := o_r2.below hb4 (by omega); replace hb2 := belowB hb2 (by omega) hb4; replace hbr2 := belowB hbr2 (by omega) hb4; clear hb4 o_t o_a2
   by_cases hkk : 0 <= kk
   ·have d1 : decide (0 <= kk) = true := decide_eq_true hkk; clear hkk; obtain ⟨r9_0, r9_1, r9_2, r9_3, r9_4, r9_5, r9_6⟩ := o_r2.cells7; obtain ⟨fr9_0, fr9_1, fr9_2, fr9_3, fr9_4, fr9_5, fr9_6⟩ := o_r2.frozens7; have oz := o_r2.set7' (.slice none 0 0) (.slice none 0 0) (.slice none 0 0) (.slice none 0 0) (.slice none 0 0) (.slice none 0 0) (.slice none 0 0); have hbz := Below.set7' hb2 (g := B + 1 + 1) (by omega) (.slice none 0 0) (.slice none 0 0) (.slice none 0 0) (.slice none 0 0) (.slice none 0 0) (.slice none 0 0) (.slice none 0 0)
    go_wp2_with fail
    clear r9_0 r9_1 r9_2 r9_3 r9_4 r9_5 r9_6 fr9_0 fr9_1 fr9_2 fr9_3 fr9_4 fr9_5 fr9_6; generalize (((((((w4.setCell ⟨B + 1 + 1, 0, none⟩ (.slice none 0 0)).setCell ⟨B + 1 + 1, 1, none⟩ (.slice none 0 0)).setCell ⟨B + 1 + 1, 2, none⟩ (.slice none 0 0)).setCell ⟨B + 1 + 1, 3, none⟩ (.slice none 0 0)).setCell ⟨B + 1 + 1, 4, none⟩ (.slice none 0 0)).setCell ⟨B + 1 + 1, 5, none⟩ (.slice none 0 0)).setCell ⟨B + 1 + 1, 6, none⟩ (.slice none 0 0)) = wz at oz hbz |-; obtain ⟨z90, z91, z92, z93, z94, z95, z96⟩ := oz.cells7; exact bodyPost_ret (v := .tuple #[.agg #[.slice none 0 0, .slice none 0 0, .slice none 0 0, .slice none 0 0, .slice none 0 0, .slice none 0 0, .slice none 0 0], .int .i64 5]) (by simp [results, Tryz.results21, go_sem, z90, z91, z92, z93, z94, z95, z96]) rfl ⟨ConcatRes.no (by decide), HB.out ▸ hbz⟩
   ·have d1 : decide (0 <= kk) = false := decide_eq_false hkk; clear hkk
    go_wp2
    go_roundg (D.texts.length + 1 - (j + 1))
    case measure => omega
    case rel =>
     have hfew := HV2.out.texts.few; exact ⟨j + 1, rfl, by omega, congrArg (Value.int .i64) (show wrap64 ((j : Int) + 1) = ((j + 1 : Nat) : Int) by unfold wrap64; omega), hbr2⟩
  ·skip
   obtain ⟨p0, p1, p2, p3, p4, p5, p6⟩ := o_a.cells7; obtain ⟨q0, q1, q2, q3, q4, q5, q6⟩ := o_b.cells7
   go_upto_region 11 with (fail)
   refine wp_reg_f [some 50, some 51, some 52, some 53, some 54, some 55, some 8, some 9] [?v5_0, ?v5_1, ?v5_2, ?v5_3, ?v5_4, ?v5_5, ?v5_6, ?v5_7] [[], [0], [1], [], [3], [4], [2], [5]] [(2, _)] ⟨rfl, trivial⟩ rfl (by kernel_rfl) rfl rfl (by kernel_rfl) (by kernel_rfl) ⟨?s5_0, ?s5_1, ?s5_2, ?s5_3, ?s5_4, ?s5_5, ?s5_6, ?s5_7, trivial⟩ ?p5
   all_goals try (intro t9 w9 hT9 K9 hK9; simp only [OV, FV, List.getD_cons_succ, List.getD_cons_zero, Option.getD_some]; intros)
   case s5_0 | s5_1 | s5_2 | s5_3 | s5_4 | s5_5 | s5_6 | s5_7 =>
    have d9_0 := grow_cell hT9 p1; have d9_1 := grow_cell hT9 p4
    go_simp; exact hK9 _ (Grow.refl _)
   intro w9 hb9
   simp only [putL, Act.put, List.setIfInBounds_toArray, List.set_cons_succ, List.set_cons_zero]
   clear p0 p1 p2 p3 p4 p5 p6 q0 q1 q2 q3 q4 q5 q6 hbr; replace o_a := o_a.below hb9 (by omega); replace o_b := o_b.below hb9 (by omega); replace o_r := o_r.below hb9 (by omega); replace hbw := belowB hbw (by omega) hb9; have hs_hb9 := hb9.size; obtain ⟨wp, hwp⟩ : ∃ wp : World, wp = w9 := ⟨_, rfl⟩; rw [<- hwp] at o_a o_b o_r hbw hs_hb9 |-; clear hwp hb9 w9; have H1 := HV1.out.toks.few; have H2 := HV2.out.toks.few; have H3 := HV1.out.texts.few; have H4 := HV2.out.texts.few; have H5 := HV1.out.regs.few; have H6 := HV2.out.regs.few; have H7 := HV1.out.nodes.few; have H8 := HV2.out.nodes.few; have z0 : IntKind.i64.wrap ((C.toks.length : Int) + (D.toks.length : Int)) = ((C.toks.length + D.toks.length : Nat) : Int) := (IntWalk.i64_in ((C.toks.length : Int) + (D.toks.length : Int)) (by omega)).trans (by omega); have z1 : IntKind.i64.wrap ((C.texts.length : Int) + (D.texts.length : Int)) = ((C.texts.length + D.texts.length : Nat) : Int) := (IntWalk.i64_in ((C.texts.length : Int) + (D.texts.length : Int)) (by omega)).trans (by omega)
   have z2 : IntKind.i64.wrap ((C.regs.length : Int) + (D.regs.length : Int)) = ((C.regs.length + D.regs.length : Nat) : Int) := (IntWalk.i64_in ((C.regs.length : Int) + (D.regs.length : Int)) (by omega)).trans (by omega); have z3 : IntKind.i64.wrap ((C.nodes.length : Int) + (D.nodes.length : Int)) = ((C.nodes.length + D.nodes.length : Nat) : Int) := (IntWalk.i64_in ((C.nodes.length : Int) + (D.nodes.length : Int)) (by omega)).trans (by omega); have p1 := o_a.c1; have p2 := o_a.c2; have p3 := o_a.c3; have p4 := o_a.c4; have q1 := o_b.c1; have q2 := o_b.c2; have q3 := o_b.c3; have q4 := o_b.c4
   rcases (show (4096 < C.toks.length + D.toks.length) \/ (C.toks.length + D.toks.length <= 4096 /\ 64 < C.texts.length + D.texts.length) \/ (C.toks.length + D.toks.length <= 4096 /\ C.texts.length + D.texts.length <= 64 /\ 1024 < C.regs.length + D.regs.length) \/ (C.toks.length + D.toks.length <= 4096 /\ C.texts.length + D.texts.length <= 64 /\ C.regs.length + D.regs.length <= 1024 /\ 2048 < C.nodes.length + D.nodes.length) \/ (C.toks.length + D.toks.length <= 4096 /\ C.texts.length + D.texts.length <= 64 /\ C.regs.length + D.regs.length <= 1024 /\ C.nodes.length + D.nodes.length <= 2048) by omega) with hc | hc | hc | hc | hc
   ·skip
    have e0m : decide ((4096 : Int) < (C.toks.length : Int) + (D.toks.length : Int)) = true := decide_eq_true (by omega); have e0 : decide ((4096 : Int) < ((C.toks.length + D.toks.length : Nat) : Int)) = true := decide_eq_true (by omega); have e0n : decide (4096 < C.toks.length + D.toks.length) = true := decide_eq_true (by omega); clear hc
    go_upto_region 13 with (fail)
    obtain ⟨r9_0, r9_1, r9_2, r9_3, r9_4, r9_5, r9_6⟩ := o_r.cells7; obtain ⟨fr9_0, fr9_1, fr9_2, fr9_3, fr9_4, fr9_5, fr9_6⟩ := o_r.frozens7; have oz := o_r.set7' (.slice none 0 0) (.slice none 0 0) (.slice none 0 0) (.slice none 0 0) (.slice none 0 0) (.slice none 0 0) (.slice none 0 0); have hbz := Below.set7' hbw (g := B + 1 + 1) (by omega) (.slice none 0 0) (.slice none 0 0) (.slice none 0 0) (.slice none 0 0) (.slice none 0 0) (.slice none 0 0) (.slice none 0 0)
    go_wp2_with fail
    clear r9_0 r9_1 r9_2 r9_3 r9_4 r9_5 r9_6 fr9_0 fr9_1 fr9_2 fr9_3 fr9_4 fr9_5 fr9_6; generalize (((((((wp.setCell ⟨B + 1 + 1, 0, none⟩ (.slice none 0 0)).setCell ⟨B + 1 + 1, 1, none⟩ (.slice none 0 0)).setCell ⟨B + 1 + 1, 2, none⟩ (.slice none 0 0)).setCell ⟨B + 1 + 1, 3, none⟩ (.slice none 0 0)).setCell ⟨B + 1 + 1, 4, none⟩ (.slice none 0 0)).setCell ⟨B + 1 + 1, 5, none⟩ (.slice none 0 0)).setCell ⟨B + 1 + 1, 6, none⟩ (.slice none 0 0)) = wz at oz hbz |-; obtain ⟨z90, z91, z92, z93, z94, z95, z96⟩ := oz.cells7; exact bodyPost_ret (v := .tuple #[.agg #[.slice none 0 0, .slice none 0 0, .slice none 0 0, .slice none 0 0, .slice none 0 0, .slice none 0 0, .slice none 0 0], .int .i64 2]) (by simp [results, Tryz.results21, go_sem, z90, z91, z92, z93, z94, z95, z96]) rfl ⟨ConcatRes.no (by decide), HB.out ▸ hbz⟩
   ·skip
    have e0m : decide ((4096 : Int) < (C.toks.length : Int) + (D.toks.length : Int)) = false := decide_eq_false (by omega); have e0 : decide ((4096 : Int) < ((C.toks.length + D.toks.length : Nat) : Int)) = false := decide_eq_false (by omega); have e0n : decide (4096 < C.toks.length + D.toks.length) = false := decide_eq_false (by omega); have e1m : decide ((64 : Int) < (C.texts.length : Int) + (D.texts.length : Int)) = true := decide_eq_true (by omega); have e1 : decide ((64 : Int) < ((C.texts.length + D.texts.length : Nat) : Int)) = true := decide_eq_true (by omega); have e1n : decide (64 < C.texts.length + D.texts.length) = true := decide_eq_true (by omega); clear hc
    go_upto_region 13 with (fail)
    obtain ⟨r9_0, r9_1, r9_2, r9_3, r9_4, r9_5, r9_6⟩ := o_r.cells7; obtain ⟨fr9_0, fr9_1, fr9_2, fr9_3, fr9_4, fr9_5, fr9_6⟩ := o_r.frozens7; have oz := o_r.set7' (.slice none 0 0) (.slice none 0 0) (.slice none 0 0) (.slice none 0 0) (.slice none 0 0) (.slice none 0 0) (.slice none 0 0); have hbz := Below.set7' hbw (g := B + 1 + 1) (by omega) (.slice none 0 0) (.slice none 0 0) (.slice none 0 0) (.slice none 0 0) (.slice none 0 0) (.slice none 0 0) (.slice none 0 0)
    go_wp2_with fail
    clear r9_0 r9_1 r9_2 r9_3 r9_4 r9_5 r9_6 fr9_0 fr9_1 fr9_2 fr9_3 fr9_4 fr9_5 fr9_6; generalize (((((((wp.setCell ⟨B + 1 + 1, 0, none⟩ (.slice none 0 0)).setCell ⟨B + 1 + 1, 1, none⟩ (.slice none 0 0)).setCell ⟨B + 1 + 1, 2, none⟩ (.slice none 0 0)).setCell ⟨B + 1 + 1, 3, none⟩ (.slice none 0 0)).setCell ⟨B + 1 + 1, 4, none⟩ (.slice none 0 0)).setCell ⟨B + 1 + 1, 5, none⟩ (.slice none 0 0)).setCell ⟨B + 1 + 1, 6, none⟩ (.slice none 0 0)) = wz at oz hbz |-; obtain ⟨z90, z91, z92, z93, z94, z95, z96⟩ := oz.cells7; exact bodyPost_ret (v := .tuple #[.agg #[.slice none 0 0, .slice none 0 0, .slice none 0 0, .slice none 0 0, .slice none 0 0, .slice none 0 0, .slice none 0 0], .int .i64 2]) (by simp [results, Tryz.results21, go_sem, z90, z91, z92, z93, z94, z95, z96]) rfl ⟨ConcatRes.no (by decide), HB.out ▸ hbz⟩
   ·skip
    have e0m : decide ((4096 : Int) < (C.toks.length : Int) + (D.toks.length : Int)) = false := decide_eq_false (by omega); have e0 : decide ((4096 : Int) < ((C.toks.length + D.toks.length : Nat) : Int)) = false := decide_eq_false (by omega); have e0n : decide (4096 < C.toks.length + D.toks.length) = false := decide_eq_false (by omega); have e1m : decide ((64 : Int) < (C.texts.length : Int) + (D.texts.length : Int)) = false := decide_eq_false (by omega); have e1 : decide ((64 : Int) < ((C.texts.length + D.texts.length : Nat) : Int)) = false := decide_eq_false (by omega); have e1n : decide (64 < C.texts.length + D.texts.length) = false := decide_eq_false (by omega); have e2m : decide ((1024 : Int) < (C.regs.length : Int) + (D.regs.length : Int)) = true := decide_eq_true (by omega); have e2 : decide ((1024 : Int) < ((C.regs.length + D.regs.length : Nat) : Int)) = true := decide_eq_true (by omega)
    have e2n : decide (1024 < C.regs.length + D.regs.length) = true := decide_eq_true (by omega); clear hc
    go_upto_region 13 with (fail)
    obtain ⟨r9_0, r9_1, r9_2, r9_3, r9_4, r9_5, r9_6⟩ := o_r.cells7; obtain ⟨fr9_0, fr9_1, fr9_2, fr9_3, fr9_4, fr9_5, fr9_6⟩ := o_r.frozens7; have oz := o_r.set7' (.slice none 0 0) (.slice none 0 0) (.slice none 0 0) (.slice none 0 0) (.slice none 0 0) (.slice none 0 0) (.slice none 0 0); have hbz := Below.set7' hbw (g := B + 1 + 1) (by omega) (.slice none 0 0) (.slice none 0 0) (.slice none 0 0) (.slice none 0 0) (.slice none 0 0) (.slice none 0 0) (.slice none 0 0)
    go_wp2_with fail
    clear r9_0 r9_1 r9_2 r9_3 r9_4 r9_5 r9_6 fr9_0 fr9_1 fr9_2 fr9_3 fr9_4 fr9_5 fr9_6; generalize (((((((wp.setCell ⟨B + 1 + 1, 0, none⟩ (.slice none 0 0)).setCell ⟨B + 1 + 1, 1, none⟩ (.slice none 0 0)).setCell ⟨B + 1 + 1, 2, none⟩ (.slice none 0 0)).setCell ⟨B + 1 + 1, 3, none⟩ (.slice none 0 0)).setCell ⟨B + 1 + 1, 4, none⟩ (.slice none 0 0)).setCell ⟨B + 1 + 1, 5, none⟩ (.slice none 0 0)).setCell ⟨B + 1 + 1, 6, none⟩ (.slice none 0 0)) = wz at oz hbz |-; obtain ⟨z90, z91, z92, z93, z94, z95, z96⟩ := oz.cells7; exact bodyPost_ret (v := .tuple #[.agg #[.slice none 0 0, .slice none 0 0, .slice none 0 0, .slice none 0 0, .slice none 0 0, .slice none 0 0, .slice none 0 0], .int .i64 2]) (by simp [results, Tryz.results21, go_sem, z90, z91, z92, z93, z94, z95, z96]) rfl ⟨ConcatRes.no (by decide), HB.out ▸ hbz⟩
   ·skip
    have e0m : decide ((4096 : Int) < (C.toks.length : Int) + (D.toks.length : Int)) = false := decide_eq_false (by omega); have e0 : decide ((4096 : Int) < ((C.toks.length + D.toks.length : Nat) : Int)) = false := decide_eq_false (by omega); have e0n : decide (4096 < C.toks.length + D.toks.length) = false := decide_eq_false (by omega); have e1m : decide ((64 : Int) < (C.texts.length : Int) + (D.texts.length : Int)) = false := decide_eq_false (by omega); have e1 : decide ((64 : Int) < ((C.texts.length + D.texts.length : Nat) : Int)) = false := decide_eq_false (by omega); have e1n : decide (64 < C.texts.length + D.texts.length) = false := decide_eq_false (by omega); have e2m : decide ((1024 : Int) < (C.regs.length : Int) + (D.regs.length : Int)) = false := decide_eq_false (by omega); have e2 : decide ((1024 : Int) < ((C.regs.length + D.regs.length : Nat) : Int)) = false := decide_eq_false (by omega)
    have e2n : decide (1024 < C.regs.length + D.regs.length) = false := decide_eq_false (by omega); have e3m : decide ((2048 : Int) < (C.nodes.length : Int) + (D.nodes.length : Int)) = true := decide_eq_true (by omega); have e3 : decide ((2048 : Int) < ((C.nodes.length + D.nodes.length : Nat) : Int)) = true := decide_eq_true (by omega); have e3n : decide (2048 < C.nodes.length + D.nodes.length) = true := decide_eq_true (by omega); clear hc
    go_upto_region 13 with (fail)
    obtain ⟨r9_0, r9_1, r9_2, r9_3, r9_4, r9_5, r9_6⟩ := o_r.cells7; obtain ⟨fr9_0, fr9_1, fr9_2, fr9_3, fr9_4, fr9_5, fr9_6⟩ := o_r.frozens7; have oz := o_r.set7' (.slice none 0 0) (.slice none 0 0) (.slice none 0 0) (.slice none 0 0) (.slice none 0 0) (.slice none 0 0) (.slice none 0 0); have hbz := Below.set7' hbw (g := B + 1 + 1) (by omega) (.slice none 0 0) (.slice none 0 0) (.slice none 0 0) (.slice none 0 0) (.slice none 0 0) (.slice none 0 0) (.slice none 0 0)
    go_wp2_with fail
    clear r9_0 r9_1 r9_2 r9_3 r9_4 r9_5 r9_6 fr9_0 fr9_1 fr9_2 fr9_3 fr9_4 fr9_5 fr9_6; generalize (((((((wp.setCell ⟨B + 1 + 1, 0, none⟩ (.slice none 0 0)).setCell ⟨B + 1 + 1, 1, none⟩ (.slice none 0 0)).setCell ⟨B + 1 + 1, 2, none⟩ (.slice none 0 0)).setCell ⟨B + 1 + 1, 3, none⟩ (.slice none 0 0)).setCell ⟨B + 1 + 1, 4, none⟩ (.slice none 0 0)).setCell ⟨B + 1 + 1, 5, none⟩ (.slice none 0 0)).setCell ⟨B + 1 + 1, 6, none⟩ (.slice none 0 0)) = wz at oz hbz |-; obtain ⟨z90, z91, z92, z93, z94, z95, z96⟩ := oz.cells7; exact bodyPost_ret (v := .tuple #[.agg #[.slice none 0 0, .slice none 0 0, .slice none 0 0, .slice none 0 0, .slice none 0 0, .slice none 0 0, .slice none 0 0], .int .i64 2]) (by simp [results, Tryz.results21, go_sem, z90, z91, z92, z93, z94, z95, z96]) rfl ⟨ConcatRes.no (by decide), HB.out ▸ hbz⟩
   ·skip
    have e0m : decide ((4096 : Int) < (C.toks.length : Int) + (D.toks.length : Int)) = false := decide_eq_false (by omega); have e0 : decide ((4096 : Int) < ((C.toks.length + D.toks.length : Nat) : Int)) = false := decide_eq_false (by omega); have e0n : decide (4096 < C.toks.length + D.toks.length) = false := decide_eq_false (by omega); have e1m : decide ((64 : Int) < (C.texts.length : Int) + (D.texts.length : Int)) = false := decide_eq_false (by omega); have e1 : decide ((64 : Int) < ((C.texts.length + D.texts.length : Nat) : Int)) = false := decide_eq_false (by omega); have e1n : decide (64 < C.texts.length + D.texts.length) = false := decide_eq_false (by omega); have e2m : decide ((1024 : Int) < (C.regs.length : Int) + (D.regs.length : Int)) = false := decide_eq_false (by omega); have e2 : decide ((1024 : Int) < ((C.regs.length + D.regs.length : Nat) : Int)) = false := decide_eq_false (by omega)
    have e2n : decide (1024 < C.regs.length + D.regs.length) = false := decide_eq_false (by omega); have e3m : decide ((2048 : Int) < (C.nodes.length : Int) + (D.nodes.length : Int)) = false := decide_eq_false (by omega); have e3 : decide ((2048 : Int) < ((C.nodes.length + D.nodes.length : Nat) : Int)) = false := decide_eq_false (by omega); have e3n : decide (2048 < C.nodes.length + D.nodes.length) = false := decide_eq_false (by omega)
    go_upto_region 14 with (fail)
    clear e0 e0n e0m e1 e1n e1m e2 e2n e2m e3 e3n e3m hc z0 z1 z2 z3 p1 p2 p3 p4 q1 q2 q3 q4; obtain ⟨i0, hi0, hz0, hz1, hz2⟩ := info_parts att_info; obtain ⟨esa, hea, hla, hra, hoa⟩ := EO.src (HQ1.out _ hbw).a fun _ _ h => h.one; have hfa : C.attrs.length <= 8 := HV1.out.attrs.few; obtain ⟨va, w5, happ, hrow, hgr, hnb⟩ := run_append_src (P := Tryz.prog) wp wp.heap.size 23 23 62 i0 _ 2 24 Tryz.underlying23 hi0 hz0 hz1 hz2 rfl (by decide) (.slice none 0 0) 0 [] (World.ownsRow_nil _ _ _ _) Aa1 C.attrs.length ca1 esa.flatten hla hra.rd hoa (by unfold maxLen; omega) (by omega) (Nat.le_refl _); rw [Nat.zero_add, List.nil_append] at hrow; have hgr : wp.grownBy w5 none := hgr; obtain ⟨Av, cv, rfl, hv1, hv2⟩ := own_form hrow; obtain ⟨o_c, hbc⟩ := new1 w5 [.slice Av C.attrs.length cv, .slice none 0 0, .slice none 0 0, .slice none 0 0, .slice none 0 0, .slice none 0 0, .slice none 0 0] 30; have p0 := o_a.c0
    go_upto_region 15 with (at_builtin; refine wpList_append_eq rfl (.const (.slice none 0 0)) (.tmp 92) 23 rfl _ _ _ rfl rfl happ ?_)
    clear p0 happ; have hb5 := Below.of_grown hgr; have hs5 := hb5.size; have hs6 : (w5.alloc (.cells #[.slice Av C.attrs.length cv, .slice none 0 0, .slice none 0 0, .slice none 0 0, .slice none 0 0, .slice none 0 0, .slice none 0 0] 30)).heap.size = w5.heap.size + 1 := by simp
    replace o_a := (o_a.below hb5 (by omega)).below hbc (by omega); replace o_b := (o_b.below hb5 (by omega)).below hbc (by omega); replace o_r := (o_r.below hb5 (by omega)).below hbc (by omega); replace hbw := belowB (belowB hbw (by omega) hb5) (by omega) hbc; have HA : AttrsO S w5 (.slice Av C.attrs.length cv) C.attrs := ⟨esa, hea, SO.of_own hrow fun k hk h => by have := hS k h; have := HB.out; omega⟩; have HA := Z' (EO.weak' (T := fun k => S k \/ k = w5.heap.size) (EO.later HA hbc) fun k hk => hk.elim .inl fun e => .inr (Nat.le_of_eq e.symm)); clear hrow hgr hnb hea hla hra hoa hb5 hbc hi0 hz0 hz1 hz2; generalize hW6 : (w5.alloc (.cells #[.slice Av C.attrs.length cv, .slice none 0 0, .slice none 0 0, .slice none 0 0, .slice none 0 0, .slice none 0 0, .slice none 0 0] 30)) = w6 at o_a o_b o_r o_c hbw HA hs6 |-; clear hW6; generalize w5.heap.size = gc at o_c HA hs5 hs6; obtain ⟨i1, hi1, hy0, hy1, hy2⟩ := info_parts row_info
    obtain ⟨es1, he1, hl1, hr1, ho1⟩ := EO.src (HQ1.out _ hbw).t fun _ _ h => h.one; obtain ⟨es2, he2, hl2, hr2, ho2⟩ := EO.src (HQ2.out _ hbw).t fun _ _ h => h.one; obtain ⟨B3, hB3⟩ : ∃ B3, B3 = w6.heap.size := ⟨_, rfl⟩; have hgB : B <= gc := by omega
    have hgB3 : gc < B3 := by omega
    have hBB : B <= B3 := by omega
    have n1 : ¬ (B = gc \/ B3 <= B) := by omega
    have n2 : ¬ (B + 1 = gc \/ B3 <= B + 1) := by omega
    have hb3 : B3 <= w6.heap.size := Nat.le_of_eq hB3; have pA := o_a.c1; have pB := o_b.c1; refine wp_reg_m (fun a b => Chg (fun k => k = gc \/ B3 <= k) a b) (fun L u w8 => AM B3 28 1 gc [.slice Av C.attrs.length cv, .slice none 0 0, .slice none 0 0, .slice none 0 0, .slice none 0 0, .slice none 0 0, .slice none 0 0] 1 C.toks.length es1.flatten D.toks.length es2.flatten (L 2) (L 5) (L 7) (u 2) (u 5) w8) ((fun a => Chg.refl _ a)) ((fun _ _ _ h h' => h.trans h')) [some 95, some 96, some 97, some 98, some 99, some 100, some 101, none] [isV ?v1_0, isV (.slice At1 C.toks.length ct1), (fun _ _ => True), isV ?v1_3, isV (.slice At2 D.toks.length ct2), (fun _ _ => True), isV ?v1_6, anyV] rfl (by kernel_rfl) rfl rfl ?n1 ?k1 ⟨?s1_0, ?s1_1, ?s1_2, ?s1_3, ?s1_4, ?s1_5, ?s1_6, ?s1_7, trivial⟩ ?p1
    case s1_0 =>
     intro L9 u9 t9 w9 hT9 hL9 hD9 hV9 hO9 hM9 K9 hK9; have o9_2 := hO9.l 2; clear hV9 hO9; clear hL9 hD9; go_simp
     (refine hK9 _ _ ((fun a => Chg.refl _ a) w9) ?_ hM9; exact rfl)
    case s1_1 =>
     intro L9 u9 t9 w9 hT9 hL9 hD9 hV9 hO9 hM9 K9 hK9; have p9_0 : t9[95]? = some ?v1_0 := hV9.l 0 95; clear hV9 hO9; clear hL9 hD9; have d9a := hT9.cell pA n1; have d9b := hT9.cell pB n2; go_simp
     (refine hK9 _ _ ((fun a => Chg.refl _ a) w9) ?_ hM9; exact rfl)
    case s1_2 =>
     intro L9 u9 t9 w9 hT9 hL9 hD9 hV9 hO9 hM9 K9 hK9; have p9_1 : t9[96]? = some ((.slice At1 C.toks.length ct1)) := hV9.l 1 96; clear hV9 hO9; obtain ⟨v9, w9', hr9, ho9, hg9, -⟩ := run_append_src (P := Tryz.prog) w9 B3 24 24 28 i1 _ 1 24 Tryz.underlying24 hi1 hy0 hy1 hy2 rfl (by decide) (.slice none 0 0) 0 [] (World.ownsRow_nil _ _ _ _) At1 C.toks.length ct1 es1.flatten hl1 (hr1.on hgB hBB hT9) ho1 (by unfold maxLen; omega) (by omega) hM9.hB; rw [Nat.zero_add, List.nil_append] at ho9; have hg9 : w9.grownBy w9' none := hg9; rw [if_pos (wanted_of9 rfl)]; exact wp_append_eq (.const (.slice none 0 0)) (.tmp 96) 24 rfl _ _ v9 rfl (ev_tmp9 p9_1) hr9 (hK9 _ _ (grown_chg hg9 (by simp)) trivial (hM9.a2 hL9 ho9 hg9))
    case s1_3 =>
     intro L9 u9 t9 w9 hT9 hL9 hD9 hV9 hO9 hM9 K9 hK9; have o9_3 := hO9.l 3; clear hV9 hO9; clear hL9 hD9; go_simp
     (refine hK9 _ _ ((fun a => Chg.refl _ a) w9) ?_ hM9; exact rfl)
    case s1_4 =>
     intro L9 u9 t9 w9 hT9 hL9 hD9 hV9 hO9 hM9 K9 hK9; have p9_3 : t9[98]? = some ?v1_3 := hV9.l 3 98; clear hV9 hO9; clear hL9 hD9; have d9a := hT9.cell pA n1; have d9b := hT9.cell pB n2; go_simp
     (refine hK9 _ _ ((fun a => Chg.refl _ a) w9) ?_ hM9; exact rfl)
    case s1_5 =>
     intro L9 u9 t9 w9 hT9 hL9 hD9 hV9 hO9 hM9 K9 hK9; obtain ⟨x9_2, p9_2, q9_2⟩ := hV9.g 2 97 rfl rfl (by kernel_rfl); obtain ⟨q9_2, e9_2⟩ := q9_2; replace q9_2 : ((fun _ _ => True)) x9_2 w9 := q9_2; have p9_4 : t9[99]? = some ((.slice At2 D.toks.length ct2)) := hV9.l 4 99; clear hV9 hO9; have r9 := hM9.r2 (hD9 2 rfl) hL9; subst e9_2; obtain ⟨v9, w9', hr9, ho9, hg9, -⟩ := run_append_src (P := Tryz.prog) w9 B3 24 24 28 i1 _ 1 24 Tryz.underlying24 hi1 hy0 hy1 hy2 rfl (by decide) _ _ _ r9 At2 D.toks.length ct2 es2.flatten hl2 (hr2.on hgB hBB hT9) ho2 (by unfold maxLen; omega) (by omega) hM9.hB; have r8 := own_lt r9; have m9 := Z' (hM9.a5 (hD9 2 rfl) hL9 ho9 hg9); have g9 := grown_chg (gc := gc) hg9 r8; clear hM9 r9 r8 ho9 hg9; rw [if_pos (wanted_of9 rfl)]; exact wp_append_eq (.tmp 97) (.tmp 99) 24 rfl _ _ v9 (ev_tmp9 p9_2) (ev_tmp9 p9_4) hr9 (hK9 _ _ g9 trivial m9.out)
    case s1_6 =>
     intro L9 u9 t9 w9 hT9 hL9 hD9 hV9 hO9 hM9 K9 hK9; have o9_10 := hO9.l 10; clear hV9 hO9; clear hL9 hD9; go_simp
     (refine hK9 _ _ ((fun a => Chg.refl _ a) w9) ?_ hM9; exact rfl)
    case s1_7 =>
     intro L9 u9 t9 w9 hT9 hL9 hD9 hV9 hO9 hM9 K9 hK9; obtain ⟨x9_5, p9_5, q9_5⟩ := hV9.g 5 100 rfl rfl (by kernel_rfl); obtain ⟨q9_5, e9_5⟩ := q9_5; replace q9_5 : ((fun _ _ => True)) x9_5 w9 := q9_5; have p9_6 : t9[101]? = some ?v1_6 := hV9.l 6 101; clear hV9 hO9; have d9a := hT9.cell pA n1; have d9b := hT9.cell pB n2; have r9 := hM9.r5 (hD9 5 rfl); obtain ⟨A9, c9, hf9, -, -⟩ := own_form r9; have e9 := e9_5; rw [hf9] at e9; subst e9; clear e9_5; have o9 := hM9.c0 hL9; have d9 := o9.cell 1; have f9 := o9.frozen 1; have HM : Hid (AM B3 28 1 gc [.slice Av C.attrs.length cv, .slice none 0 0, .slice none 0 0, .slice none 0 0, .slice none 0 0, .slice none 0 0, .slice none 0 0] 1 C.toks.length es1.flatten D.toks.length es2.flatten (L9 2) (L9 5) true (u9 2) (u9 5) (w9.setCell ⟨gc, 1, none⟩ (.slice A9 (C.toks.length + D.toks.length) c9))) := by
      rw [<- hf9]; exact hM9.s7 (hD9 5 rfl) hL9
     clear hM9 hD9 hL9 hf9 r9 o9; go_simp; exact hK9 undef _ ((Chg.refl _ w9).setCell (p := ⟨gc, 1, none⟩) (.inl rfl) _) trivial HM.out
    case n1 =>
     intro L9 u9 h9; have h1 := h9 2 (by decide); have h2 := h9 5 (by decide); have h3 := h9 7 (by decide)
     show AM B3 28 1 gc [.slice Av C.attrs.length cv, .slice none 0 0, .slice none 0 0, .slice none 0 0, .slice none 0 0, .slice none 0 0, .slice none 0 0] 1 C.toks.length es1.flatten D.toks.length es2.flatten (L9 2) (L9 5) (L9 7) _ _ _
     rw [h1, h2, h3]; exact AM.start (w := World.drew w6) o_c hb3 hgB3 _ _
    case k1 =>
     intro i9 v9 w9 x9 h9 g9
     match i9, h9 with
     | 0, h9 => exact h9
     | 1, h9 => exact h9
     | 2, h9 => (replace h9 : (fun _ _ => True) v9 w9 := h9); exact trivial
     | 3, h9 => exact h9
     | 4, h9 => exact h9
     | 5, h9 => (replace h9 : (fun _ _ => True) v9 w9 := h9); exact trivial
     | 6, h9 => exact h9
     | 7, h9 => exact h9
     | _ + 8, h9 => exact trivial
    intro u9 w9 hE9 hM9 hu9; have r9_0 : u9 0 = ?v1_0 := hu9 0 (by decide); have r9_1 : u9 1 = (.slice At1 C.toks.length ct1) := hu9 1 (by decide); have r9_2 : (fun _ _ => True) (u9 2) w9 := hu9 2 (by decide); have r9_3 : u9 3 = ?v1_3 := hu9 3 (by decide); have r9_4 : u9 4 = (.slice At2 D.toks.length ct2) := hu9 4 (by decide); have r9_5 : (fun _ _ => True) (u9 5) w9 := hu9 5 (by decide); have r9_6 : u9 6 = ?v1_6 := hu9 6 (by decide); clear hu9
    simp only [putAll, Act.put, List.setIfInBounds_toArray, List.set_cons_succ, List.set_cons_zero, List.getD_cons_succ, List.getD_cons_zero, Nat.reduceAdd, Nat.zero_add]
    simp only [r9_0, r9_1, r9_3, r9_4, r9_6]
    clear r9_0 r9_1 r9_3 r9_4 r9_6; replace hE9 : Chg (fun k => k = gc \/ B3 <= k) w6 w9 := (Chg.refl _ w6).drew.trans hE9; have hrow := hM9.r5 rfl; have o_c9 := hM9.c1 rfl; clear r9_2 r9_5 hM9 o_c pA pB n1 n2; generalize u9 2 = vj at |-; generalize u9 5 = vk at hrow o_c9 |-; obtain ⟨Ak1, ck1, rfl, hkl1, hkm1⟩ := own_form hrow; have o_c : Own w9 gc 30 [.slice Av C.attrs.length cv, .slice Ak1 (C.toks.length + D.toks.length) ck1, .slice none 0 0, .slice none 0 0, .slice none 0 0, .slice none 0 0, .slice none 0 0] := o_c9; have hE8 : Chg (fun k => k = gc \/ w6.heap.size <= k) w6 w9 := hB3 ▸ hE9; have hbx : Below gc w6 w9 := hE9.below (fun k hk h => by rcases h with h | h <;> omega) (by omega); have HA := Z' (EO.step HA.out hE8); replace o_a := o_a.below hbx (by omega); replace o_b := o_b.below hbx (by omega); replace o_r := o_r.below hbx (by omega); replace hbw := hbw.trans (hbx.mono (by omega))
    have hs9_1 := hbx.size; clear o_c9 hE8 hbx hi1 hy0 hy1 hy2 hl1 hl2 hr1 hr2 ho1 ho2 u9; have HT : RowsO (fun k => S k \/ k = gc) w9 (.slice Ak1 (C.toks.length + D.toks.length) ck1) (C.toks ++ D.toks) :=
     ⟨es1 ++ es2, (he1.mono fun _ _ _ h => h.join hgB hBB hE9).app (he2.mono fun _ _ _ h => h.join hgB hBB hE9), by
      rw [List.length_append, List.flatten_append]; exact SO.of_own hrow fun k hk h => by
       rcases h with h | h
       ·have := hS k h; have := HB.out; omega
       ·omega⟩
    have HT := Z' HT; clear hrow he1 he2 hE9 hgB hgB3 hBB hb3 hB3; generalize w9 = w7 at o_a o_b o_r o_c HA HT hbw hs9_1 |-
    go_upto_region 16 with (fail)
    obtain ⟨i1, hi1, hy0, hy1, hy2⟩ := info_parts txt_info; obtain ⟨es1, he1, hl1, hr1, ho1⟩ := EO.src (HQ1.out _ hbw).x fun _ _ h => h.one; obtain ⟨es2, he2, hl2, hr2, ho2⟩ := EO.src (HQ2.out _ hbw).x fun _ _ h => h.one; obtain ⟨B3, hB3⟩ : ∃ B3, B3 = w7.heap.size := ⟨_, rfl⟩; have hgB : B <= gc := by omega
    have hgB3 : gc < B3 := by omega
    have hBB : B <= B3 := by omega
    have n1 : ¬ (B = gc \/ B3 <= B) := by omega
    have n2 : ¬ (B + 1 = gc \/ B3 <= B + 1) := by omega
    have hb3 : B3 <= w7.heap.size := Nat.le_of_eq hB3; have pA := o_a.c2; have pB := o_b.c2; refine wp_reg_m (fun a b => Chg (fun k => k = gc \/ B3 <= k) a b) (fun L u w8 => AM B3 89 4 gc [.slice Av C.attrs.length cv, .slice Ak1 (C.toks.length + D.toks.length) ck1, .slice none 0 0, .slice none 0 0, .slice none 0 0, .slice none 0 0, .slice none 0 0] 2 C.texts.length es1.flatten D.texts.length es2.flatten (L 2) (L 5) (L 7) (u 2) (u 5) w8) ((fun a => Chg.refl _ a)) ((fun _ _ _ h h' => h.trans h')) [some 102, some 103, some 104, some 105, some 106, some 107, some 108, none] [isV ?v2_0, isV (.slice Ax1 C.texts.length cx1), (fun _ _ => True), isV ?v2_3, isV (.slice Ax2 D.texts.length cx2), (fun _ _ => True), isV ?v2_6, anyV] rfl (by kernel_rfl) rfl rfl ?n2 ?k2 ⟨?s2_0, ?s2_1, ?s2_2, ?s2_3, ?s2_4, ?s2_5, ?s2_6, ?s2_7, trivial⟩ ?p2
    case s2_0 =>
     intro L9 u9 t9 w9 hT9 hL9 hD9 hV9 hO9 hM9 K9 hK9; have o9_2 := hO9.l 2; clear hV9 hO9; clear hL9 hD9; go_simp
     (refine hK9 _ _ ((fun a => Chg.refl _ a) w9) ?_ hM9; exact rfl)
    case s2_1 =>
     intro L9 u9 t9 w9 hT9 hL9 hD9 hV9 hO9 hM9 K9 hK9; have p9_0 : t9[102]? = some ?v2_0 := hV9.l 0 102; clear hV9 hO9; clear hL9 hD9; have d9a := hT9.cell pA n1; have d9b := hT9.cell pB n2; go_simp
     (refine hK9 _ _ ((fun a => Chg.refl _ a) w9) ?_ hM9; exact rfl)
    case s2_2 =>
     intro L9 u9 t9 w9 hT9 hL9 hD9 hV9 hO9 hM9 K9 hK9; have p9_1 : t9[103]? = some ((.slice Ax1 C.texts.length cx1)) := hV9.l 1 103; clear hV9 hO9; obtain ⟨v9, w9', hr9, ho9, hg9, -⟩ := run_append_src (P := Tryz.prog) w9 B3 25 25 89 i1 _ 4 56 Tryz.underlying25 hi1 hy0 hy1 hy2 rfl (by decide) (.slice none 0 0) 0 [] (World.ownsRow_nil _ _ _ _) Ax1 C.texts.length cx1 es1.flatten hl1 (hr1.on hgB hBB hT9) ho1 (by unfold maxLen; omega) (by omega) hM9.hB; rw [Nat.zero_add, List.nil_append] at ho9; have hg9 : w9.grownBy w9' none := hg9; rw [if_pos (wanted_of9 rfl)]; exact wp_append_eq (.const (.slice none 0 0)) (.tmp 103) 25 rfl _ _ v9 rfl (ev_tmp9 p9_1) hr9 (hK9 _ _ (grown_chg hg9 (by simp)) trivial (hM9.a2 hL9 ho9 hg9))
    case s2_3 =>
     intro L9 u9 t9 w9 hT9 hL9 hD9 hV9 hO9 hM9 K9 hK9; have o9_3 := hO9.l 3; clear hV9 hO9; clear hL9 hD9; go_simp
     (refine hK9 _ _ ((fun a => Chg.refl _ a) w9) ?_ hM9; exact rfl)
    case s2_4 =>
     intro L9 u9 t9 w9 hT9 hL9 hD9 hV9 hO9 hM9 K9 hK9; have p9_3 : t9[105]? = some ?v2_3 := hV9.l 3 105; clear hV9 hO9; clear hL9 hD9; have d9a := hT9.cell pA n1; have d9b := hT9.cell pB n2; go_simp
     (refine hK9 _ _ ((fun a => Chg.refl _ a) w9) ?_ hM9; exact rfl)
    case s2_5 =>
     intro L9 u9 t9 w9 hT9 hL9 hD9 hV9 hO9 hM9 K9 hK9; obtain ⟨x9_2, p9_2, q9_2⟩ := hV9.g 2 104 rfl rfl (by kernel_rfl); obtain ⟨q9_2, e9_2⟩ := q9_2; replace q9_2 : ((fun _ _ => True)) x9_2 w9 := q9_2; have p9_4 : t9[106]? = some ((.slice Ax2 D.texts.length cx2)) := hV9.l 4 106; clear hV9 hO9; have r9 := hM9.r2 (hD9 2 rfl) hL9; subst e9_2; obtain ⟨v9, w9', hr9, ho9, hg9, -⟩ := run_append_src (P := Tryz.prog) w9 B3 25 25 89 i1 _ 4 56 Tryz.underlying25 hi1 hy0 hy1 hy2 rfl (by decide) _ _ _ r9 Ax2 D.texts.length cx2 es2.flatten hl2 (hr2.on hgB hBB hT9) ho2 (by unfold maxLen; omega) (by omega) hM9.hB; have r8 := own_lt r9; have m9 := Z' (hM9.a5 (hD9 2 rfl) hL9 ho9 hg9); have g9 := grown_chg (gc := gc) hg9 r8; clear hM9 r9 r8 ho9 hg9; rw [if_pos (wanted_of9 rfl)]; exact wp_append_eq (.tmp 104) (.tmp 106) 25 rfl _ _ v9 (ev_tmp9 p9_2) (ev_tmp9 p9_4) hr9 (hK9 _ _ g9 trivial m9.out)
    case s2_6 =>
     intro L9 u9 t9 w9 hT9 hL9 hD9 hV9 hO9 hM9 K9 hK9; have o9_10 := hO9.l 10; clear hV9 hO9; clear hL9 hD9; go_simp
     (refine hK9 _ _ ((fun a => Chg.refl _ a) w9) ?_ hM9; exact rfl)
    case s2_7 =>
     intro L9 u9 t9 w9 hT9 hL9 hD9 hV9 hO9 hM9 K9 hK9; obtain ⟨x9_5, p9_5, q9_5⟩ := hV9.g 5 107 rfl rfl (by kernel_rfl); obtain ⟨q9_5, e9_5⟩ := q9_5; replace q9_5 : ((fun _ _ => True)) x9_5 w9 := q9_5; have p9_6 : t9[108]? = some ?v2_6 := hV9.l 6 108; clear hV9 hO9; have d9a := hT9.cell pA n1; have d9b := hT9.cell pB n2; have r9 := hM9.r5 (hD9 5 rfl); obtain ⟨A9, c9, hf9, -, -⟩ := own_form r9; have e9 := e9_5; rw [hf9] at e9; subst e9; clear e9_5; have o9 := hM9.c0 hL9; have d9 := o9.cell 2; have f9 := o9.frozen 2; have HM : Hid (AM B3 89 4 gc [.slice Av C.attrs.length cv, .slice Ak1 (C.toks.length + D.toks.length) ck1, .slice none 0 0, .slice none 0 0, .slice none 0 0, .slice none 0 0, .slice none 0 0] 2 C.texts.length es1.flatten D.texts.length es2.flatten (L9 2) (L9 5) true (u9 2) (u9 5) (w9.setCell ⟨gc, 2, none⟩ (.slice A9 (C.texts.length + D.texts.length) c9))) := by
      rw [<- hf9]; exact hM9.s7 (hD9 5 rfl) hL9
     clear hM9 hD9 hL9 hf9 r9 o9; go_simp; exact hK9 undef _ ((Chg.refl _ w9).setCell (p := ⟨gc, 2, none⟩) (.inl rfl) _) trivial HM.out
    case n2 =>
     intro L9 u9 h9; have h1 := h9 2 (by decide); have h2 := h9 5 (by decide); have h3 := h9 7 (by decide)
     show AM B3 89 4 gc [.slice Av C.attrs.length cv, .slice Ak1 (C.toks.length + D.toks.length) ck1, .slice none 0 0, .slice none 0 0, .slice none 0 0, .slice none 0 0, .slice none 0 0] 2 C.texts.length es1.flatten D.texts.length es2.flatten (L9 2) (L9 5) (L9 7) _ _ _
     rw [h1, h2, h3]; exact AM.start (w := World.drew w7) o_c hb3 hgB3 _ _
    case k2 =>
     intro i9 v9 w9 x9 h9 g9
     match i9, h9 with
     | 0, h9 => exact h9
     | 1, h9 => exact h9
     | 2, h9 => (replace h9 : (fun _ _ => True) v9 w9 := h9); exact trivial
     | 3, h9 => exact h9
     | 4, h9 => exact h9
     | 5, h9 => (replace h9 : (fun _ _ => True) v9 w9 := h9); exact trivial
     | 6, h9 => exact h9
     | 7, h9 => exact h9
     | _ + 8, h9 => exact trivial
    intro u9 w9 hE9 hM9 hu9; have r9_0 : u9 0 = ?v2_0 := hu9 0 (by decide); have r9_1 : u9 1 = (.slice Ax1 C.texts.length cx1) := hu9 1 (by decide); have r9_2 : (fun _ _ => True) (u9 2) w9 := hu9 2 (by decide); have r9_3 : u9 3 = ?v2_3 := hu9 3 (by decide); have r9_4 : u9 4 = (.slice Ax2 D.texts.length cx2) := hu9 4 (by decide); have r9_5 : (fun _ _ => True) (u9 5) w9 := hu9 5 (by decide); have r9_6 : u9 6 = ?v2_6 := hu9 6 (by decide); clear hu9
    simp only [putAll, Act.put, List.setIfInBounds_toArray, List.set_cons_succ, List.set_cons_zero, List.getD_cons_succ, List.getD_cons_zero, Nat.reduceAdd, Nat.zero_add]
    simp only [r9_0, r9_1, r9_3, r9_4, r9_6]
    clear r9_0 r9_1 r9_3 r9_4 r9_6; replace hE9 : Chg (fun k => k = gc \/ B3 <= k) w7 w9 := (Chg.refl _ w7).drew.trans hE9; have hrow := hM9.r5 rfl; have o_c9 := hM9.c1 rfl; clear r9_2 r9_5 hM9 o_c pA pB n1 n2; generalize u9 2 = vj at |-; generalize u9 5 = vk at hrow o_c9 |-; obtain ⟨Ak2, ck2, rfl, hkl2, hkm2⟩ := own_form hrow; have o_c : Own w9 gc 30 [.slice Av C.attrs.length cv, .slice Ak1 (C.toks.length + D.toks.length) ck1, .slice Ak2 (C.texts.length + D.texts.length) ck2, .slice none 0 0, .slice none 0 0, .slice none 0 0, .slice none 0 0] := o_c9; have hE8 : Chg (fun k => k = gc \/ w7.heap.size <= k) w7 w9 := hB3 ▸ hE9; have hbx : Below gc w7 w9 := hE9.below (fun k hk h => by rcases h with h | h <;> omega) (by omega); replace o_a := o_a.below hbx (by omega); replace o_b := o_b.below hbx (by omega); replace o_r := o_r.below hbx (by omega); replace hbw := hbw.trans (hbx.mono (by omega))
    have hs9_2 := hbx.size; clear o_c9 hE8 hbx hi1 hy0 hy1 hy2 hl1 hl2 hr1 hr2 ho1 ho2 u9; have HES := Z' (he1.app he2); have HRW : Hid (w9.ownsRow B3 89 4 (.slice Ak2 (C.texts.length + D.texts.length) ck2) (C.texts.length + D.texts.length) (es1 ++ es2).flatten) := (by rw [List.flatten_append]; exact hrow); have HE9 := Z' hE9; clear hrow he1 he2 hE9; generalize es1 ++ es2 = ess at HES HRW; generalize w9 = w8 at o_a o_b o_r o_c hbw hs9_2 HRW HE9 |-; obtain ⟨NX, hNX⟩ : ∃ NX, NX = C.texts.length + D.texts.length := ⟨_, rfl⟩; rw [<- hNX] at o_c HRW hkl2; have HNX := Z' hNX; clear hNX; have pA := o_a.c2
    go_wp2_with fail
    clear pA
    go_loopg [11] (D.texts.length + 1) (fun q v wr => ∃ (j i : Nat) (es : List (List Value)), q = D.texts.length + 1 - j /\ j <= D.texts.length /\ Hid (i = C.texts.length + j) /\ v = .int .i64 (i : Int) /\ Hid (Els 4 (ESpn (fun k => S k \/ B <= k) w7) es (upTo C.texts D.texts (sh C.toks.length) j)) /\ Hid (wr.ownsRow B3 89 4 (.slice Ak2 NX ck2) NX es.flatten) /\ Below B3 w8 wr)
    case atStart => exact ⟨0, C.texts.length, ess, rfl, Nat.zero_le _, rfl, rfl, (by rw [upTo_zero]; exact HES), HRW, Below.refl _ _⟩
    case round =>
     obtain ⟨j, i, es, rfl, hj, HI, rfl, HEJ, HRJ, hbr⟩ := hrel; replace o_a := o_a.below hbr (by omega); replace o_b := o_b.below hbr (by omega); replace o_r := o_r.below hbr (by omega); replace o_c := o_c.below hbr (by omega); have hwr := hbr.size
     by_cases hlt : j < D.texts.length
     ·skip
      have hiN : i < NX := by have := HI.out; have := HNX.out; omega
      have hN9 : NX <= 5000 := by have := HNX.out; omega
      obtain ⟨gr, cr, hq, -, -⟩ := HRJ.out.form (by omega)
      injection hq with hq1 hq2 hq3
      subst hq1 hq3; have hBg : B3 <= gr := own_lt HRJ.out gr rfl; have hget : (upTo C.texts D.texts (sh C.toks.length) j)[i]? = some D.texts[j] := HI.out ▸ upTo_get C.texts D.texts (sh C.toks.length) hlt; obtain ⟨e, g1, g2, g3⟩ := HEJ.out.at9 hget; have hin := text_in HV2.out.texts hlt; have hstep := upTo_step C.texts D.texts (sh C.toks.length) hlt; rw [<- HI.out] at hstep; obtain ⟨tx, htx⟩ : ∃ tx, tx = D.texts[j] := ⟨_, rfl⟩; rw [<- htx] at g3 hin hstep; obtain ⟨nm, l0, h0, ks⟩ := tx; clear htx hget; obtain ⟨m, rfl, s1, s2, s3, s4⟩ := g3
      dsimp only at g1 g2 hin s1 s2 s3 s4
      have HST := Z' hstep; have HG1 := Z' g1; have HE3 : Hid (ESpn (fun k => S k \/ B <= k) w7 (sh C.toks.length ⟨nm, l0, h0, ks⟩) [.string nm, .int .i64 (l0 + (C.toks.length : Int)), .int .i64 (h0 + (C.toks.length : Int)), m]) := ⟨m, rfl, s1, ⟨by show _ <= l0 + _; omega, by show l0 + _ <= _; omega⟩, ⟨by show _ <= h0 + _; omega, by show h0 + _ <= _; omega⟩, s4⟩; clear hstep s1 s2 s3 s4; have z1 : IntKind.i64.wrap (l0 + (C.toks.length : Int)) = l0 + (C.toks.length : Int) := IntWalk.i64_in _ (by omega); have z2 : IntKind.i64.wrap (h0 + (C.toks.length : Int)) = h0 + (C.toks.length : Int) := IntWalk.i64_in _ (by omega); have k1 : wr.cell? ⟨gr, i * 4 + 1, none⟩ = some (.int .i64 l0) := (HRJ.out.cellAt _ (by omega)).trans (flat_get HEJ.out.wide i _ 1 _ g1 rfl); have f1 := HRJ.out.frozenAt (i * 4 + 1); have c1 := o_c.c2; have hb1 : Below B3 wr (wr.setCell ⟨gr, i * 4 + 1, none⟩ (.int .i64 (l0 + (C.toks.length : Int)))) := (Below.refl B3 wr).setCell hBg _
      have HR1 : Hid ((wr.setCell ⟨gr, i * 4 + 1, none⟩ (.int .i64 (l0 + (C.toks.length : Int)))).ownsRow B3 89 4 (.slice (some ⟨gr, 0, none⟩) NX ck2) NX (es.set i [.string nm, .int .i64 (l0 + (C.toks.length : Int)), .int .i64 h0, m]).flatten) := by
       have h := (HRJ.out.stored (i * 4 + 1) (.int .i64 (l0 + (C.toks.length : Int)))).1; rw [flat_set HEJ.out.wide i _ 1 _ g1 (by decide)] at h; exact h
      clear g1
      go_upto_region 21 with (fail)
      generalize hW1 : wr.setCell ⟨gr, i * 4 + 1, none⟩ (.int .i64 (l0 + (C.toks.length : Int))) = w20 at HR1 hb1 |-; clear hW1; replace o_a := o_a.below hb1 (by omega); replace o_b := o_b.below hb1 (by omega); replace o_r := o_r.below hb1 (by omega); replace o_c := o_c.below hb1 (by omega); have hbr2 := hbr.trans hb1; have hs20 := hb1.size; clear k1 f1 c1 z1 hb1 hbr; have hwd : ∀ e ∈ es.set i [.string nm, .int .i64 (l0 + (C.toks.length : Int)), .int .i64 h0, m], e.length = 4 := fun e he => (List.mem_or_eq_of_mem_set he).elim (HEJ.out.wide e) (fun h => h ▸ rfl); have g1 : (es.set i [.string nm, .int .i64 (l0 + (C.toks.length : Int)), .int .i64 h0, m])[i]? = some [.string nm, .int .i64 (l0 + (C.toks.length : Int)), .int .i64 h0, m] := set_at9 HG1.out; have k2 : w20.cell? ⟨gr, i * 4 + 2, none⟩ = some (.int .i64 h0) := (HR1.out.cellAt _ (by omega)).trans (flat_get hwd i _ 2 _ g1 rfl); have f2 := HR1.out.frozenAt (i * 4 + 2)
      have c2 := o_c.c2; have hb2 : Below B3 w20 (w20.setCell ⟨gr, i * 4 + 2, none⟩ (.int .i64 (h0 + (C.toks.length : Int)))) := (Below.refl B3 w20).setCell hBg _; have HR2 : Hid ((w20.setCell ⟨gr, i * 4 + 2, none⟩ (.int .i64 (h0 + (C.toks.length : Int)))).ownsRow B3 89 4 (.slice (some ⟨gr, 0, none⟩) NX ck2) NX (es.set i [.string nm, .int .i64 (l0 + (C.toks.length : Int)), .int .i64 (h0 + (C.toks.length : Int)), m]).flatten) := by
       have h := (HR1.out.stored (i * 4 + 2) (.int .i64 (h0 + (C.toks.length : Int)))).1; rw [flat_set hwd i _ 2 _ g1 (by decide), List.set_set] at h; exact h
      clear g1 hwd
      go_upto_region 19 with (fail)
      generalize hW2 : w20.setCell ⟨gr, i * 4 + 2, none⟩ (.int .i64 (h0 + (C.toks.length : Int))) = w21 at HR2 hb2 |-; clear hW2; have hbr3 := hbr2.trans hb2; clear k2 f2 c2 z2 hb2 hbr2
      go_wp2
      go_roundg (D.texts.length + 1 - (j + 1))
      case measure => omega
      case rel => exact ⟨j + 1, i + 1, _, rfl, by omega, (by show i + 1 = _; have := HI.out; omega), by go_num, HST.out ▸ HEJ.out.set rfl HE3.out, HR2.out, hbr3⟩
     ·skip
      obtain rfl : j = D.texts.length := by omega
      obtain rfl : NX = i := by have := HI.out; have := HNX.out; omega
      rw [upTo_all] at HEJ; have c1 := o_c.c2
      go_upto_region 22 with (fail)
      clear c1; have HCB : Chg (fun k => k = gc \/ B3 <= k) w7 wr := HE9.out.trans (Chg.of_below hbr fun k _ h => .inr h); have HCH : Chg (fun k => k = gc \/ w7.heap.size <= k) w7 wr := hB3 ▸ HCB; have hgB : B <= gc := by omega
      have hBB : B <= B3 := by omega
      have HX : SpnsO (fun k => S k \/ k = gc) wr (.slice Ak2 NX ck2) (C.texts ++ D.texts.map (sh C.toks.length)) :=
       ⟨_, HEJ.out.mono fun _ _ _ h => h.join hgB hBB HCB, by
        rw [List.length_append, List.length_map, <- HNX.out]; exact SO.of_own HRJ.out fun k hk h => by
         rcases h with h | h
         ·have := hS k h; have := HB.out; omega
         ·omega⟩
      have HX := Z' HX; have HA := Z' (EO.step HA.out HCH); have HT := Z' (RowsO.step HT.out HCH); replace hbw := hbw.trans (hbr.mono (by omega)); clear HCB HCH hgB hBB HEJ HRJ HE9 hbr hB3 HES HRW HI; generalize wr = w10 at o_a o_b o_r o_c hbw hwr HX HA HT |-; obtain ⟨i1, hi1, hy0, hy1, hy2⟩ := info_parts reg_info; obtain ⟨es1, he1, hl1, hr1, ho1⟩ := EO.src (HQ1.out _ hbw).r fun _ _ h => h.one; obtain ⟨es2, he2, hl2, hr2, ho2⟩ := EO.src (HQ2.out _ hbw).r fun _ _ h => h.one; obtain ⟨B3, hB3⟩ : ∃ B3, B3 = w10.heap.size := ⟨_, rfl⟩; have hgB : B <= gc := by omega
      have hgB3 : gc < B3 := by omega
      have hBB : B <= B3 := by omega
      have n1 : ¬ (B = gc \/ B3 <= B) := by omega
      have n2 : ¬ (B + 1 = gc \/ B3 <= B + 1) := by omega
      have hb3 : B3 <= w10.heap.size := Nat.le_of_eq hB3; have pA := o_a.c3; have pB := o_b.c3; refine wp_reg_m (fun a b => Chg (fun k => k = gc \/ B3 <= k) a b) (fun L u w8 => AM B3 98 4 gc [.slice Av C.attrs.length cv, .slice Ak1 (C.toks.length + D.toks.length) ck1, .slice Ak2 NX ck2, .slice none 0 0, .slice none 0 0, .slice none 0 0, .slice none 0 0] 3 C.regs.length es1.flatten D.regs.length es2.flatten (L 2) (L 5) (L 7) (u 2) (u 5) w8) ((fun a => Chg.refl _ a)) ((fun _ _ _ h h' => h.trans h')) [some 139, some 140, some 141, some 142, some 143, some 144, some 145, none] [isV ?v3_0, isV (.slice Ar1 C.regs.length cr1), (fun _ _ => True), isV ?v3_3, isV (.slice Ar2 D.regs.length cr2), (fun _ _ => True), isV ?v3_6, anyV] rfl (by kernel_rfl) rfl rfl ?n3 ?k3 ⟨?s3_0, ?s3_1, ?s3_2, ?s3_3, ?s3_4, ?s3_5, ?s3_6, ?s3_7, trivial⟩ ?p3
      case s3_0 =>
       intro L9 u9 t9 w9 hT9 hL9 hD9 hV9 hO9 hM9 K9 hK9; have o9_2 := hO9.l 2; clear hV9 hO9; clear hL9 hD9; go_simp
       (refine hK9 _ _ ((fun a => Chg.refl _ a) w9) ?_ hM9; exact rfl)
      case s3_1 =>
       intro L9 u9 t9 w9 hT9 hL9 hD9 hV9 hO9 hM9 K9 hK9; have p9_0 : t9[139]? = some ?v3_0 := hV9.l 0 139; clear hV9 hO9; clear hL9 hD9; have d9a := hT9.cell pA n1; have d9b := hT9.cell pB n2; go_simp
       (refine hK9 _ _ ((fun a => Chg.refl _ a) w9) ?_ hM9; exact rfl)
      case s3_2 =>
       intro L9 u9 t9 w9 hT9 hL9 hD9 hV9 hO9 hM9 K9 hK9; have p9_1 : t9[140]? = some ((.slice Ar1 C.regs.length cr1)) := hV9.l 1 140; clear hV9 hO9; obtain ⟨v9, w9', hr9, ho9, hg9, -⟩ := run_append_src (P := Tryz.prog) w9 B3 26 26 98 i1 _ 4 56 Tryz.underlying26 hi1 hy0 hy1 hy2 rfl (by decide) (.slice none 0 0) 0 [] (World.ownsRow_nil _ _ _ _) Ar1 C.regs.length cr1 es1.flatten hl1 (hr1.on hgB hBB hT9) ho1 (by unfold maxLen; omega) (by omega) hM9.hB; rw [Nat.zero_add, List.nil_append] at ho9; have hg9 : w9.grownBy w9' none := hg9; rw [if_pos (wanted_of9 rfl)]; exact wp_append_eq (.const (.slice none 0 0)) (.tmp 140) 26 rfl _ _ v9 rfl (ev_tmp9 p9_1) hr9 (hK9 _ _ (grown_chg hg9 (by simp)) trivial (hM9.a2 hL9 ho9 hg9))
      case s3_3 =>
       intro L9 u9 t9 w9 hT9 hL9 hD9 hV9 hO9 hM9 K9 hK9; have o9_3 := hO9.l 3; clear hV9 hO9; clear hL9 hD9; go_simp
       (refine hK9 _ _ ((fun a => Chg.refl _ a) w9) ?_ hM9; exact rfl)
      case s3_4 =>
       intro L9 u9 t9 w9 hT9 hL9 hD9 hV9 hO9 hM9 K9 hK9; have p9_3 : t9[142]? = some ?v3_3 := hV9.l 3 142; clear hV9 hO9; clear hL9 hD9; have d9a := hT9.cell pA n1; have d9b := hT9.cell pB n2; go_simp
       (refine hK9 _ _ ((fun a => Chg.refl _ a) w9) ?_ hM9; exact rfl)
      case s3_5 =>
       intro L9 u9 t9 w9 hT9 hL9 hD9 hV9 hO9 hM9 K9 hK9; obtain ⟨x9_2, p9_2, q9_2⟩ := hV9.g 2 141 rfl rfl (by kernel_rfl); obtain ⟨q9_2, e9_2⟩ := q9_2; replace q9_2 : ((fun _ _ => True)) x9_2 w9 := q9_2; have p9_4 : t9[143]? = some ((.slice Ar2 D.regs.length cr2)) := hV9.l 4 143; clear hV9 hO9; have r9 := hM9.r2 (hD9 2 rfl) hL9; subst e9_2; obtain ⟨v9, w9', hr9, ho9, hg9, -⟩ := run_append_src (P := Tryz.prog) w9 B3 26 26 98 i1 _ 4 56 Tryz.underlying26 hi1 hy0 hy1 hy2 rfl (by decide) _ _ _ r9 Ar2 D.regs.length cr2 es2.flatten hl2 (hr2.on hgB hBB hT9) ho2 (by unfold maxLen; omega) (by omega) hM9.hB; have r8 := own_lt r9; have m9 := Z' (hM9.a5 (hD9 2 rfl) hL9 ho9 hg9); have g9 := grown_chg (gc := gc) hg9 r8; clear hM9 r9 r8 ho9 hg9; rw [if_pos (wanted_of9 rfl)]; exact wp_append_eq (.tmp 141) (.tmp 143) 26 rfl _ _ v9 (ev_tmp9 p9_2) (ev_tmp9 p9_4) hr9 (hK9 _ _ g9 trivial m9.out)
      case s3_6 =>
       intro L9 u9 t9 w9 hT9 hL9 hD9 hV9 hO9 hM9 K9 hK9; have o9_10 := hO9.l 10; clear hV9 hO9; clear hL9 hD9; go_simp
       (refine hK9 _ _ ((fun a => Chg.refl _ a) w9) ?_ hM9; exact rfl)
      case s3_7 =>
       intro L9 u9 t9 w9 hT9 hL9 hD9 hV9 hO9 hM9 K9 hK9; obtain ⟨x9_5, p9_5, q9_5⟩ := hV9.g 5 144 rfl rfl (by kernel_rfl); obtain ⟨q9_5, e9_5⟩ := q9_5; replace q9_5 : ((fun _ _ => True)) x9_5 w9 := q9_5; have p9_6 : t9[145]? = some ?v3_6 := hV9.l 6 145; clear hV9 hO9; have d9a := hT9.cell pA n1; have d9b := hT9.cell pB n2; have r9 := hM9.r5 (hD9 5 rfl); obtain ⟨A9, c9, hf9, -, -⟩ := own_form r9; have e9 := e9_5; rw [hf9] at e9; subst e9; clear e9_5; have o9 := hM9.c0 hL9; have d9 := o9.cell 3; have f9 := o9.frozen 3; have HM : Hid (AM B3 98 4 gc [.slice Av C.attrs.length cv, .slice Ak1 (C.toks.length + D.toks.length) ck1, .slice Ak2 NX ck2, .slice none 0 0, .slice none 0 0, .slice none 0 0, .slice none 0 0] 3 C.regs.length es1.flatten D.regs.length es2.flatten (L9 2) (L9 5) true (u9 2) (u9 5) (w9.setCell ⟨gc, 3, none⟩ (.slice A9 (C.regs.length + D.regs.length) c9))) := by
        rw [<- hf9]; exact hM9.s7 (hD9 5 rfl) hL9
       clear hM9 hD9 hL9 hf9 r9 o9; go_simp; exact hK9 undef _ ((Chg.refl _ w9).setCell (p := ⟨gc, 3, none⟩) (.inl rfl) _) trivial HM.out
      case n3 =>
       intro L9 u9 h9; have h1 := h9 2 (by decide); have h2 := h9 5 (by decide); have h3 := h9 7 (by decide)
       show AM B3 98 4 gc [.slice Av C.attrs.length cv, .slice Ak1 (C.toks.length + D.toks.length) ck1, .slice Ak2 NX ck2, .slice none 0 0, .slice none 0 0, .slice none 0 0, .slice none 0 0] 3 C.regs.length es1.flatten D.regs.length es2.flatten (L9 2) (L9 5) (L9 7) _ _ _
       rw [h1, h2, h3]; exact AM.start (w := World.drew w10) o_c hb3 hgB3 _ _
      case k3 =>
       intro i9 v9 w9 x9 h9 g9
       match i9, h9 with
       | 0, h9 => exact h9
       | 1, h9 => exact h9
       | 2, h9 => (replace h9 : (fun _ _ => True) v9 w9 := h9); exact trivial
       | 3, h9 => exact h9
       | 4, h9 => exact h9
       | 5, h9 => (replace h9 : (fun _ _ => True) v9 w9 := h9); exact trivial
       | 6, h9 => exact h9
       | 7, h9 => exact h9
       | _ + 8, h9 => exact trivial
      intro u9 w9 hE9 hM9 hu9; have r9_0 : u9 0 = ?v3_0 := hu9 0 (by decide); have r9_1 : u9 1 = (.slice Ar1 C.regs.length cr1) := hu9 1 (by decide); have r9_2 : (fun _ _ => True) (u9 2) w9 := hu9 2 (by decide); have r9_3 : u9 3 = ?v3_3 := hu9 3 (by decide); have r9_4 : u9 4 = (.slice Ar2 D.regs.length cr2) := hu9 4 (by decide); have r9_5 : (fun _ _ => True) (u9 5) w9 := hu9 5 (by decide); have r9_6 : u9 6 = ?v3_6 := hu9 6 (by decide); clear hu9
      simp only [putAll, Act.put, List.setIfInBounds_toArray, List.set_cons_succ, List.set_cons_zero, List.getD_cons_succ, List.getD_cons_zero, Nat.reduceAdd, Nat.zero_add]
      simp only [r9_0, r9_1, r9_3, r9_4, r9_6]
      clear r9_0 r9_1 r9_3 r9_4 r9_6; replace hE9 : Chg (fun k => k = gc \/ B3 <= k) w10 w9 := (Chg.refl _ w10).drew.trans hE9; have hrow := hM9.r5 rfl; have o_c9 := hM9.c1 rfl; clear r9_2 r9_5 hM9 o_c pA pB n1 n2; generalize u9 2 = vj at |-; generalize u9 5 = vk at hrow o_c9 |-; obtain ⟨Ak3, ck3, rfl, hkl3, hkm3⟩ := own_form hrow; have o_c : Own w9 gc 30 [.slice Av C.attrs.length cv, .slice Ak1 (C.toks.length + D.toks.length) ck1, .slice Ak2 NX ck2, .slice Ak3 (C.regs.length + D.regs.length) ck3, .slice none 0 0, .slice none 0 0, .slice none 0 0] := o_c9; have hE8 : Chg (fun k => k = gc \/ w10.heap.size <= k) w10 w9 := hB3 ▸ hE9; have hbx : Below gc w10 w9 := hE9.below (fun k hk h => by rcases h with h | h <;> omega) (by omega); replace o_a := o_a.below hbx (by omega); replace o_b := o_b.below hbx (by omega); replace o_r := o_r.below hbx (by omega); replace hbw := hbw.trans (hbx.mono (by omega))
      have hs9_3 := hbx.size; clear o_c9 hE8 hbx hi1 hy0 hy1 hy2 hl1 hl2 hr1 hr2 ho1 ho2 u9; have HES := Z' (he1.app he2); have HRW : Hid (w9.ownsRow B3 98 4 (.slice Ak3 (C.regs.length + D.regs.length) ck3) (C.regs.length + D.regs.length) (es1 ++ es2).flatten) := (by rw [List.flatten_append]; exact hrow); have HE9 := Z' hE9; clear hrow he1 he2 hE9; generalize es1 ++ es2 = ess at HES HRW; generalize w9 = w11 at o_a o_b o_r o_c hbw hs9_3 HRW HE9 |-; obtain ⟨NR, hNR⟩ : ∃ NR, NR = C.regs.length + D.regs.length := ⟨_, rfl⟩; rw [<- hNR] at o_c HRW hkl3; have HNR := Z' hNR; clear hNR; have pA := o_a.c3
      go_wp2_with fail
      clear pA
      go_loopg [12] (D.regs.length + 1) (fun q v wr => ∃ (j i : Nat) (es : List (List Value)), q = D.regs.length + 1 - j /\ j <= D.regs.length /\ Hid (i = C.regs.length + j) /\ v = .int .i64 (i : Int) /\ Hid (Els 4 (ESpn (fun k => S k \/ B <= k) w10) es (upTo C.regs D.regs (sh C.toks.length) j)) /\ Hid (wr.ownsRow B3 98 4 (.slice Ak3 NR ck3) NR es.flatten) /\ Below B3 w11 wr)
      case atStart => exact ⟨0, C.regs.length, ess, rfl, Nat.zero_le _, rfl, rfl, (by rw [upTo_zero]; exact HES), HRW, Below.refl _ _⟩
      case round =>
       obtain ⟨j, i, es, rfl, hj, HI, rfl, HEJ, HRJ, hbr⟩ := hrel; replace o_a := o_a.below hbr (by omega); replace o_b := o_b.below hbr (by omega); replace o_r := o_r.below hbr (by omega); replace o_c := o_c.below hbr (by omega); have hwr := hbr.size
       by_cases hlt : j < D.regs.length
       ·skip
        have hiN : i < NR := by have := HI.out; have := HNR.out; omega
        have hN9 : NR <= 5000 := by have := HNR.out; omega
        obtain ⟨gr, cr, hq, -, -⟩ := HRJ.out.form (by omega)
        injection hq with hq1 hq2 hq3
        subst hq1 hq3; have hBg : B3 <= gr := own_lt HRJ.out gr rfl; have hget : (upTo C.regs D.regs (sh C.toks.length) j)[i]? = some D.regs[j] := HI.out ▸ upTo_get C.regs D.regs (sh C.toks.length) hlt; obtain ⟨e, g1, g2, g3⟩ := HEJ.out.at9 hget; have hin := any_in HV2.out.texts (HV2.out.regs.all.inT j hlt hlt); have hstep := upTo_step C.regs D.regs (sh C.toks.length) hlt; rw [<- HI.out] at hstep; obtain ⟨tx, htx⟩ : ∃ tx, tx = D.regs[j] := ⟨_, rfl⟩; rw [<- htx] at g3 hin hstep; obtain ⟨nm, l0, h0, ks⟩ := tx; clear htx hget; obtain ⟨m, rfl, s1, s2, s3, s4⟩ := g3
        dsimp only at g1 g2 hin s1 s2 s3 s4
        have HST := Z' hstep; have HG1 := Z' g1; have HE3 : Hid (ESpn (fun k => S k \/ B <= k) w10 (sh C.toks.length ⟨nm, l0, h0, ks⟩) [.string nm, .int .i64 (l0 + (C.toks.length : Int)), .int .i64 (h0 + (C.toks.length : Int)), m]) := ⟨m, rfl, s1, ⟨by show _ <= l0 + _; omega, by show l0 + _ <= _; omega⟩, ⟨by show _ <= h0 + _; omega, by show h0 + _ <= _; omega⟩, s4⟩; clear hstep s1 s2 s3 s4; have z1 : IntKind.i64.wrap (l0 + (C.toks.length : Int)) = l0 + (C.toks.length : Int) := IntWalk.i64_in _ (by omega); have z2 : IntKind.i64.wrap (h0 + (C.toks.length : Int)) = h0 + (C.toks.length : Int) := IntWalk.i64_in _ (by omega); have k1 : wr.cell? ⟨gr, i * 4 + 1, none⟩ = some (.int .i64 l0) := (HRJ.out.cellAt _ (by omega)).trans (flat_get HEJ.out.wide i _ 1 _ g1 rfl); have f1 := HRJ.out.frozenAt (i * 4 + 1); have c1 := o_c.c3; have hb1 : Below B3 wr (wr.setCell ⟨gr, i * 4 + 1, none⟩ (.int .i64 (l0 + (C.toks.length : Int)))) := (Below.refl B3 wr).setCell hBg _
        have HR1 : Hid ((wr.setCell ⟨gr, i * 4 + 1, none⟩ (.int .i64 (l0 + (C.toks.length : Int)))).ownsRow B3 98 4 (.slice (some ⟨gr, 0, none⟩) NR ck3) NR (es.set i [.string nm, .int .i64 (l0 + (C.toks.length : Int)), .int .i64 h0, m]).flatten) := by
         have h := (HRJ.out.stored (i * 4 + 1) (.int .i64 (l0 + (C.toks.length : Int)))).1; rw [flat_set HEJ.out.wide i _ 1 _ g1 (by decide)] at h; exact h
        clear g1
        go_upto_region 27 with (fail)
        generalize hW1 : wr.setCell ⟨gr, i * 4 + 1, none⟩ (.int .i64 (l0 + (C.toks.length : Int))) = w20 at HR1 hb1 |-; clear hW1; replace o_a := o_a.below hb1 (by omega); replace o_b := o_b.below hb1 (by omega); replace o_r := o_r.below hb1 (by omega); replace o_c := o_c.below hb1 (by omega); have hbr2 := hbr.trans hb1; have hs20 := hb1.size; clear k1 f1 c1 z1 hb1 hbr; have hwd : ∀ e ∈ es.set i [.string nm, .int .i64 (l0 + (C.toks.length : Int)), .int .i64 h0, m], e.length = 4 := fun e he => (List.mem_or_eq_of_mem_set he).elim (HEJ.out.wide e) (fun h => h ▸ rfl); have g1 : (es.set i [.string nm, .int .i64 (l0 + (C.toks.length : Int)), .int .i64 h0, m])[i]? = some [.string nm, .int .i64 (l0 + (C.toks.length : Int)), .int .i64 h0, m] := set_at9 HG1.out; have k2 : w20.cell? ⟨gr, i * 4 + 2, none⟩ = some (.int .i64 h0) := (HR1.out.cellAt _ (by omega)).trans (flat_get hwd i _ 2 _ g1 rfl)
        have f2 := HR1.out.frozenAt (i * 4 + 2); have c2 := o_c.c3; have hb2 : Below B3 w20 (w20.setCell ⟨gr, i * 4 + 2, none⟩ (.int .i64 (h0 + (C.toks.length : Int)))) := (Below.refl B3 w20).setCell hBg _; have HR2 : Hid ((w20.setCell ⟨gr, i * 4 + 2, none⟩ (.int .i64 (h0 + (C.toks.length : Int)))).ownsRow B3 98 4 (.slice (some ⟨gr, 0, none⟩) NR ck3) NR (es.set i [.string nm, .int .i64 (l0 + (C.toks.length : Int)), .int .i64 (h0 + (C.toks.length : Int)), m]).flatten) := by
         have h := (HR1.out.stored (i * 4 + 2) (.int .i64 (h0 + (C.toks.length : Int)))).1; rw [flat_set hwd i _ 2 _ g1 (by decide), List.set_set] at h; exact h
        clear g1 hwd
        go_upto_region 25 with (fail)
        generalize hW2 : w20.setCell ⟨gr, i * 4 + 2, none⟩ (.int .i64 (h0 + (C.toks.length : Int))) = w21 at HR2 hb2 |-; clear hW2; have hbr3 := hbr2.trans hb2; clear k2 f2 c2 z2 hb2 hbr2
        go_wp2
        go_roundg (D.regs.length + 1 - (j + 1))
        case measure => omega
        case rel => exact ⟨j + 1, i + 1, _, rfl, by omega, (by show i + 1 = _; have := HI.out; omega), by go_num, HST.out ▸ HEJ.out.set rfl HE3.out, HR2.out, hbr3⟩
       ·skip
        obtain rfl : j = D.regs.length := by omega
        obtain rfl : NR = i := by have := HI.out; have := HNR.out; omega
        rw [upTo_all] at HEJ; have c1 := o_c.c3
        go_upto_region 28 with (fail)
        clear c1; have HCB : Chg (fun k => k = gc \/ B3 <= k) w10 wr := HE9.out.trans (Chg.of_below hbr fun k _ h => .inr h); have HCH : Chg (fun k => k = gc \/ w10.heap.size <= k) w10 wr := hB3 ▸ HCB; have hgB : B <= gc := by omega
        have hBB : B <= B3 := by omega
        have HR : SpnsO (fun k => S k \/ k = gc) wr (.slice Ak3 NR ck3) (C.regs ++ D.regs.map (sh C.toks.length)) :=
         ⟨_, HEJ.out.mono fun _ _ _ h => h.join hgB hBB HCB, by
          rw [List.length_append, List.length_map, <- HNR.out]; exact SO.of_own HRJ.out fun k hk h => by
           rcases h with h | h
           ·have := hS k h; have := HB.out; omega
           ·omega⟩
        have HR := Z' HR; have HA := Z' (EO.step HA.out HCH); have HT := Z' (RowsO.step HT.out HCH); have HX := Z' (SpnsO.step HX.out HCH); replace hbw := hbw.trans (hbr.mono (by omega)); clear HCB HCH hgB hBB HEJ HRJ HE9 hbr hB3 HES HRW HI; generalize wr = w13 at o_a o_b o_r o_c hbw hwr HR HA HT HX |-; obtain ⟨i1, hi1, hy0, hy1, hy2⟩ := info_parts nod_info; obtain ⟨es1, he1, hl1, hr1, ho1⟩ := EO.src (HQ1.out _ hbw).n fun _ _ h => h.one; obtain ⟨es2, he2, hl2, hr2, ho2⟩ := EO.src (HQ2.out _ hbw).n fun _ _ h => h.one; obtain ⟨B3, hB3⟩ : ∃ B3, B3 = w13.heap.size := ⟨_, rfl⟩; have hgB : B <= gc := by omega
        have hgB3 : gc < B3 := by omega
        have hBB : B <= B3 := by omega
        have n1 : ¬ (B = gc \/ B3 <= B) := by omega
        have n2 : ¬ (B + 1 = gc \/ B3 <= B + 1) := by omega
        have hb3 : B3 <= w13.heap.size := Nat.le_of_eq hB3; have pA := o_a.c4; have pB := o_b.c4; refine wp_reg_m (fun a b => Chg (fun k => k = gc \/ B3 <= k) a b) (fun L u w8 => AM B3 105 4 gc [.slice Av C.attrs.length cv, .slice Ak1 (C.toks.length + D.toks.length) ck1, .slice Ak2 NX ck2, .slice Ak3 NR ck3, .slice none 0 0, .slice none 0 0, .slice none 0 0] 4 C.nodes.length es1.flatten D.nodes.length es2.flatten (L 2) (L 5) (L 7) (u 2) (u 5) w8) ((fun a => Chg.refl _ a)) ((fun _ _ _ h h' => h.trans h')) [some 176, some 177, some 178, some 179, some 180, some 181, some 182, none] [isV ?v4_0, isV (.slice An1 C.nodes.length cn1), (fun _ _ => True), isV ?v4_3, isV (.slice An2 D.nodes.length cn2), (fun _ _ => True), isV ?v4_6, anyV] rfl (by kernel_rfl) rfl rfl ?n4 ?k4 ⟨?s4_0, ?s4_1, ?s4_2, ?s4_3, ?s4_4, ?s4_5, ?s4_6, ?s4_7, trivial⟩ ?p4
        case s4_0 =>
         intro L9 u9 t9 w9 hT9 hL9 hD9 hV9 hO9 hM9 K9 hK9; have o9_2 := hO9.l 2; clear hV9 hO9; clear hL9 hD9; go_simp
         (refine hK9 _ _ ((fun a => Chg.refl _ a) w9) ?_ hM9; exact rfl)
        case s4_1 =>
         intro L9 u9 t9 w9 hT9 hL9 hD9 hV9 hO9 hM9 K9 hK9; have p9_0 : t9[176]? = some ?v4_0 := hV9.l 0 176; clear hV9 hO9; clear hL9 hD9; have d9a := hT9.cell pA n1; have d9b := hT9.cell pB n2; go_simp
         (refine hK9 _ _ ((fun a => Chg.refl _ a) w9) ?_ hM9; exact rfl)
        case s4_2 =>
         intro L9 u9 t9 w9 hT9 hL9 hD9 hV9 hO9 hM9 K9 hK9; have p9_1 : t9[177]? = some ((.slice An1 C.nodes.length cn1)) := hV9.l 1 177; clear hV9 hO9; obtain ⟨v9, w9', hr9, ho9, hg9, -⟩ := run_append_src (P := Tryz.prog) w9 B3 27 27 105 i1 _ 4 40 Tryz.underlying27 hi1 hy0 hy1 hy2 rfl (by decide) (.slice none 0 0) 0 [] (World.ownsRow_nil _ _ _ _) An1 C.nodes.length cn1 es1.flatten hl1 (hr1.on hgB hBB hT9) ho1 (by unfold maxLen; omega) (by omega) hM9.hB; rw [Nat.zero_add, List.nil_append] at ho9; have hg9 : w9.grownBy w9' none := hg9; rw [if_pos (wanted_of9 rfl)]; exact wp_append_eq (.const (.slice none 0 0)) (.tmp 177) 27 rfl _ _ v9 rfl (ev_tmp9 p9_1) hr9 (hK9 _ _ (grown_chg hg9 (by simp)) trivial (hM9.a2 hL9 ho9 hg9))
        case s4_3 =>
         intro L9 u9 t9 w9 hT9 hL9 hD9 hV9 hO9 hM9 K9 hK9; have o9_3 := hO9.l 3; clear hV9 hO9; clear hL9 hD9; go_simp
         (refine hK9 _ _ ((fun a => Chg.refl _ a) w9) ?_ hM9; exact rfl)
        case s4_4 =>
         intro L9 u9 t9 w9 hT9 hL9 hD9 hV9 hO9 hM9 K9 hK9; have p9_3 : t9[179]? = some ?v4_3 := hV9.l 3 179; clear hV9 hO9; clear hL9 hD9; have d9a := hT9.cell pA n1; have d9b := hT9.cell pB n2; go_simp
         (refine hK9 _ _ ((fun a => Chg.refl _ a) w9) ?_ hM9; exact rfl)
        case s4_5 =>
         intro L9 u9 t9 w9 hT9 hL9 hD9 hV9 hO9 hM9 K9 hK9; obtain ⟨x9_2, p9_2, q9_2⟩ := hV9.g 2 178 rfl rfl (by kernel_rfl); obtain ⟨q9_2, e9_2⟩ := q9_2; replace q9_2 : ((fun _ _ => True)) x9_2 w9 := q9_2; have p9_4 : t9[180]? = some ((.slice An2 D.nodes.length cn2)) := hV9.l 4 180; clear hV9 hO9; have r9 := hM9.r2 (hD9 2 rfl) hL9; subst e9_2; obtain ⟨v9, w9', hr9, ho9, hg9, -⟩ := run_append_src (P := Tryz.prog) w9 B3 27 27 105 i1 _ 4 40 Tryz.underlying27 hi1 hy0 hy1 hy2 rfl (by decide) _ _ _ r9 An2 D.nodes.length cn2 es2.flatten hl2 (hr2.on hgB hBB hT9) ho2 (by unfold maxLen; omega) (by omega) hM9.hB; have r8 := own_lt r9; have m9 := Z' (hM9.a5 (hD9 2 rfl) hL9 ho9 hg9); have g9 := grown_chg (gc := gc) hg9 r8; clear hM9 r9 r8 ho9 hg9; rw [if_pos (wanted_of9 rfl)]; exact wp_append_eq (.tmp 178) (.tmp 180) 27 rfl _ _ v9 (ev_tmp9 p9_2) (ev_tmp9 p9_4) hr9 (hK9 _ _ g9 trivial m9.out)
        case s4_6 =>
         intro L9 u9 t9 w9 hT9 hL9 hD9 hV9 hO9 hM9 K9 hK9; have o9_10 := hO9.l 10; clear hV9 hO9; clear hL9 hD9; go_simp
         (refine hK9 _ _ ((fun a => Chg.refl _ a) w9) ?_ hM9; exact rfl)
        case s4_7 =>
         intro L9 u9 t9 w9 hT9 hL9 hD9 hV9 hO9 hM9 K9 hK9; obtain ⟨x9_5, p9_5, q9_5⟩ := hV9.g 5 181 rfl rfl (by kernel_rfl); obtain ⟨q9_5, e9_5⟩ := q9_5; replace q9_5 : ((fun _ _ => True)) x9_5 w9 := q9_5; have p9_6 : t9[182]? = some ?v4_6 := hV9.l 6 182; clear hV9 hO9; have d9a := hT9.cell pA n1; have d9b := hT9.cell pB n2; have r9 := hM9.r5 (hD9 5 rfl); obtain ⟨A9, c9, hf9, -, -⟩ := own_form r9; have e9 := e9_5; rw [hf9] at e9; subst e9; clear e9_5; have o9 := hM9.c0 hL9; have d9 := o9.cell 4; have f9 := o9.frozen 4; have HM : Hid (AM B3 105 4 gc [.slice Av C.attrs.length cv, .slice Ak1 (C.toks.length + D.toks.length) ck1, .slice Ak2 NX ck2, .slice Ak3 NR ck3, .slice none 0 0, .slice none 0 0, .slice none 0 0] 4 C.nodes.length es1.flatten D.nodes.length es2.flatten (L9 2) (L9 5) true (u9 2) (u9 5) (w9.setCell ⟨gc, 4, none⟩ (.slice A9 (C.nodes.length + D.nodes.length) c9))) := by
          rw [<- hf9]; exact hM9.s7 (hD9 5 rfl) hL9
         clear hM9 hD9 hL9 hf9 r9 o9; go_simp; exact hK9 undef _ ((Chg.refl _ w9).setCell (p := ⟨gc, 4, none⟩) (.inl rfl) _) trivial HM.out
        case n4 =>
         intro L9 u9 h9; have h1 := h9 2 (by decide); have h2 := h9 5 (by decide); have h3 := h9 7 (by decide)
         show AM B3 105 4 gc [.slice Av C.attrs.length cv, .slice Ak1 (C.toks.length + D.toks.length) ck1, .slice Ak2 NX ck2, .slice Ak3 NR ck3, .slice none 0 0, .slice none 0 0, .slice none 0 0] 4 C.nodes.length es1.flatten D.nodes.length es2.flatten (L9 2) (L9 5) (L9 7) _ _ _
         rw [h1, h2, h3]; exact AM.start (w := World.drew w13) o_c hb3 hgB3 _ _
        case k4 =>
         intro i9 v9 w9 x9 h9 g9
         match i9, h9 with
         | 0, h9 => exact h9
         | 1, h9 => exact h9
         | 2, h9 => (replace h9 : (fun _ _ => True) v9 w9 := h9); exact trivial
         | 3, h9 => exact h9
         | 4, h9 => exact h9
         | 5, h9 => (replace h9 : (fun _ _ => True) v9 w9 := h9); exact trivial
         | 6, h9 => exact h9
         | 7, h9 => exact h9
         | _ + 8, h9 => exact trivial
        intro u9 w9 hE9 hM9 hu9; have r9_0 : u9 0 = ?v4_0 := hu9 0 (by decide); have r9_1 : u9 1 = (.slice An1 C.nodes.length cn1) := hu9 1 (by decide); have r9_2 : (fun _ _ => True) (u9 2) w9 := hu9 2 (by decide); have r9_3 : u9 3 = ?v4_3 := hu9 3 (by decide); have r9_4 : u9 4 = (.slice An2 D.nodes.length cn2) := hu9 4 (by decide); have r9_5 : (fun _ _ => True) (u9 5) w9 := hu9 5 (by decide); have r9_6 : u9 6 = ?v4_6 := hu9 6 (by decide); clear hu9
        simp only [putAll, Act.put, List.setIfInBounds_toArray, List.set_cons_succ, List.set_cons_zero, List.getD_cons_succ, List.getD_cons_zero, Nat.reduceAdd, Nat.zero_add]
        simp only [r9_0, r9_1, r9_3, r9_4, r9_6]
        clear r9_0 r9_1 r9_3 r9_4 r9_6; replace hE9 : Chg (fun k => k = gc \/ B3 <= k) w13 w9 := (Chg.refl _ w13).drew.trans hE9; have hrow := hM9.r5 rfl; have o_c9 := hM9.c1 rfl; clear r9_2 r9_5 hM9 o_c pA pB n1 n2; generalize u9 2 = vj at |-; generalize u9 5 = vk at hrow o_c9 |-; obtain ⟨Ak4, ck4, rfl, hkl4, hkm4⟩ := own_form hrow; have o_c : Own w9 gc 30 [.slice Av C.attrs.length cv, .slice Ak1 (C.toks.length + D.toks.length) ck1, .slice Ak2 NX ck2, .slice Ak3 NR ck3, .slice Ak4 (C.nodes.length + D.nodes.length) ck4, .slice none 0 0, .slice none 0 0] := o_c9; have hE8 : Chg (fun k => k = gc \/ w13.heap.size <= k) w13 w9 := hB3 ▸ hE9; have hbx : Below gc w13 w9 := hE9.below (fun k hk h => by rcases h with h | h <;> omega) (by omega); replace o_a := o_a.below hbx (by omega); replace o_b := o_b.below hbx (by omega); replace o_r := o_r.below hbx (by omega); replace hbw := hbw.trans (hbx.mono (by omega))
        have hs9_4 := hbx.size; clear o_c9 hE8 hbx hi1 hy0 hy1 hy2 hl1 hl2 hr1 hr2 ho1 ho2 u9; have HES := Z' (he1.app he2); have HRW : Hid (w9.ownsRow B3 105 4 (.slice Ak4 (C.nodes.length + D.nodes.length) ck4) (C.nodes.length + D.nodes.length) (es1 ++ es2).flatten) := (by rw [List.flatten_append]; exact hrow); have HE9 := Z' hE9; clear hrow he1 he2 hE9; generalize es1 ++ es2 = ess at HES HRW; generalize w9 = w14 at o_a o_b o_r o_c hbw hs9_4 HRW HE9 |-; obtain ⟨NN, hNN⟩ : ∃ NN, NN = C.nodes.length + D.nodes.length := ⟨_, rfl⟩; rw [<- hNN] at o_c HRW hkl4; have HNN := Z' hNN; clear hNN
        go_wp2_with fail
        go_loopg [13] (D.nodes.length + 1) (fun q v wr => ∃ (j i : Nat) (es : List (List Value)), q = D.nodes.length + 1 - j /\ j <= D.nodes.length /\ Hid (i = C.nodes.length + j) /\ v = .int .i64 (i : Int) /\ Hid (Els 4 ENode es (upTo C.nodes D.nodes (shN C.toks.length C.nodes.length) j)) /\ Hid (wr.ownsRow B3 105 4 (.slice Ak4 NN ck4) NN es.flatten) /\ Below B3 w14 wr)
        case atStart => exact ⟨0, C.nodes.length, ess, rfl, Nat.zero_le _, rfl, rfl, (by rw [upTo_zero]; exact HES), HRW, Below.refl _ _⟩
        case round =>
         obtain ⟨j, i, es, rfl, hj, HI, rfl, HEJ, HRJ, hbr⟩ := hrel; replace o_a := o_a.below hbr (by omega); replace o_b := o_b.below hbr (by omega); replace o_r := o_r.below hbr (by omega); replace o_c := o_c.below hbr (by omega); have hwr := hbr.size
         by_cases hlt : j < D.nodes.length
         ·skip
          have hiN : i < NN := by have := HI.out; have := HNN.out; omega
          have hN9 : NN <= 5000 := by have := HNN.out; omega
          obtain ⟨gr, cr, hq, -, -⟩ := HRJ.out.form (by omega)
          injection hq with hq1 hq2 hq3
          subst hq1 hq3; have hBg : B3 <= gr := own_lt HRJ.out gr rfl; have hget : (upTo C.nodes D.nodes (shN C.toks.length C.nodes.length) j)[i]? = some D.nodes[j] := HI.out ▸ upTo_get C.nodes D.nodes (shN C.toks.length C.nodes.length) hlt; obtain ⟨e, g1, g2, g3⟩ := HEJ.out.at9 hget; have hin := any_in HV2.out.texts (HV2.out.nodes.all.inT j hlt hlt); have hpr := HV2.out.nodes.all.par j hlt hlt; have hstep := upTo_step C.nodes D.nodes (shN C.toks.length C.nodes.length) hlt; rw [<- HI.out] at hstep; obtain ⟨tx, htx⟩ : ∃ tx, tx = D.nodes[j] := ⟨_, rfl⟩; rw [<- htx] at g3 hin hpr hstep; obtain ⟨nm, l0, h0, p0⟩ := tx; clear htx hget; obtain ⟨rfl, s1, s2, s3, s4⟩ := g3
          dsimp only at g1 g2 hin hpr s1 s2 s3 s4
          have HST := Z' hstep; have HG1 := Z' g1; have HWD := Z' HEJ.out.wide; have HEQ : Hid (∀ y, es.set i y = es.set i y) := fun _ => rfl; obtain ⟨es9, hes⟩ : ∃ x, x = es := ⟨_, rfl⟩; have HRK : Hid (wr.ownsRow B3 105 4 (.slice (some ⟨gr, 0, none⟩) NN ck4) NN es9.flatten) := hes ▸ HRJ; replace HG1 : Hid (es9[i]? = some [.string nm, .int .i64 l0, .int .i64 h0, .int .i64 p0]) := hes ▸ HG1; replace HWD : Hid (∀ e ∈ es9, e.length = 4) := hes ▸ HWD; replace HEQ : Hid (∀ y, es9.set i y = es.set i y) := hes ▸ HEQ; clear hes hstep g1 HRJ; have HNM := Z' s1; clear s1 s2 s3 s4; have z1 : IntKind.i64.wrap (l0 + (C.toks.length : Int)) = l0 + (C.toks.length : Int) := IntWalk.i64_in _ (by omega); have z2 : IntKind.i64.wrap (h0 + (C.toks.length : Int)) = h0 + (C.toks.length : Int) := IntWalk.i64_in _ (by omega); have k1 : wr.cell? ⟨gr, i * 4 + 1, none⟩ = some (.int .i64 l0) := (HRK.out.cellAt _ (by omega)).trans (flat_get HWD.out i _ 1 _ HG1.out rfl)
          have f1 := HRK.out.frozenAt (i * 4 + 1); have c1 := o_c.c4; have hb1 : Below B3 wr (wr.setCell ⟨gr, i * 4 + 1, none⟩ (.int .i64 (l0 + (C.toks.length : Int)))) := (Below.refl B3 wr).setCell hBg _; obtain ⟨es8, HWD8, HG8, HEQ8, HRL⟩ : ∃ es8 : List (List Value), Hid (∀ e ∈ es8, e.length = 4) /\ Hid (es8[i]? = some [.string nm, .int .i64 (l0 + (C.toks.length : Int)), .int .i64 h0, .int .i64 p0]) /\ Hid (∀ y, es8.set i y = es.set i y) /\ Hid ((wr.setCell ⟨gr, i * 4 + 1, none⟩ (.int .i64 (l0 + (C.toks.length : Int)))).ownsRow B3 105 4 (.slice (some ⟨gr, 0, none⟩) NN ck4) NN es8.flatten) := by
           refine ⟨es9.set i [.string nm, .int .i64 (l0 + (C.toks.length : Int)), .int .i64 h0, .int .i64 p0], fun e he => (List.mem_or_eq_of_mem_set he).elim (HWD.out e) (fun h => h ▸ rfl), set_at9 HG1.out, fun y => by rw [List.set_set]; exact HEQ.out y, ?_⟩; have h := (HRK.out.stored (i * 4 + 1) (.int .i64 (l0 + (C.toks.length : Int)))).1; rw [flat_set HWD.out i _ 1 _ HG1.out (by decide)] at h; exact h
          clear HWD HG1 HEQ HRK es9; obtain ⟨es9, rfl⟩ : ∃ x, x = es8 := ⟨_, rfl⟩; have HWD := HWD8; have HG1 := HG8; have HEQ := HEQ8; clear HWD8 HG8 HEQ8
          go_upto_region 33 with (fail)
          generalize hW9 : wr.setCell ⟨gr, i * 4 + 1, none⟩ (.int .i64 (l0 + (C.toks.length : Int))) = w20 at HRL hb1 |-; clear hW9; replace o_a := o_a.below hb1 (by omega); replace o_b := o_b.below hb1 (by omega); replace o_r := o_r.below hb1 (by omega); replace o_c := o_c.below hb1 (by omega); have hs_w20 := hb1.size; replace hbr := hbr.trans hb1; clear k1 f1 c1 hb1; have k1 : w20.cell? ⟨gr, i * 4 + 2, none⟩ = some (.int .i64 h0) := (HRL.out.cellAt _ (by omega)).trans (flat_get HWD.out i _ 2 _ HG1.out rfl); have f1 := HRL.out.frozenAt (i * 4 + 2); have c1 := o_c.c4; have hb1 : Below B3 w20 (w20.setCell ⟨gr, i * 4 + 2, none⟩ (.int .i64 (h0 + (C.toks.length : Int)))) := (Below.refl B3 w20).setCell hBg _; obtain ⟨es8, HWD8, HG8, HEQ8, HRM⟩ : ∃ es8 : List (List Value), Hid (∀ e ∈ es8, e.length = 4) /\ Hid (es8[i]? = some [.string nm, .int .i64 (l0 + (C.toks.length : Int)), .int .i64 (h0 + (C.toks.length : Int)), .int .i64 p0]) /\ Hid (∀ y, es8.set i y = es.set i y) /\ Hid ((w20.setCell ⟨gr, i * 4 + 2, none⟩ (.int .i64 (h0 + (C.toks.length : Int)))).ownsRow B3 105 4 (.slice (some ⟨gr, 0, none⟩) NN ck4) NN es8.flatten) := by
           refine ⟨es9.set i [.string nm, .int .i64 (l0 + (C.toks.length : Int)), .int .i64 (h0 + (C.toks.length : Int)), .int .i64 p0], fun e he => (List.mem_or_eq_of_mem_set he).elim (HWD.out e) (fun h => h ▸ rfl), set_at9 HG1.out, fun y => by rw [List.set_set]; exact HEQ.out y, ?_⟩; have h := (HRL.out.stored (i * 4 + 2) (.int .i64 (h0 + (C.toks.length : Int)))).1; rw [flat_set HWD.out i _ 2 _ HG1.out (by decide)] at h; exact h
          clear HWD HG1 HEQ HRL es9; obtain ⟨es9, rfl⟩ : ∃ x, x = es8 := ⟨_, rfl⟩; have HWD := HWD8; have HG1 := HG8; have HEQ := HEQ8; clear HWD8 HG8 HEQ8
          go_upto_region 34 with (fail)
          generalize hW9 : w20.setCell ⟨gr, i * 4 + 2, none⟩ (.int .i64 (h0 + (C.toks.length : Int))) = w21 at HRM hb1 |-; clear hW9; replace o_a := o_a.below hb1 (by omega); replace o_b := o_b.below hb1 (by omega); replace o_r := o_r.below hb1 (by omega); replace o_c := o_c.below hb1 (by omega); have hs_w21 := hb1.size; replace hbr := hbr.trans hb1; clear k1 f1 c1 hb1; clear z1 z2
          by_cases hp : 0 <= p0
          ·skip
           have k1 : w21.cell? ⟨gr, i * 4 + 3, none⟩ = some (.int .i64 p0) := (HRM.out.cellAt _ (by omega)).trans (flat_get HWD.out i _ 3 _ HG1.out rfl); have c1 := o_c.c4; have t1 : decide ((0 : Int) <= p0) = true := decide_eq_true (by omega); have z3 : IntKind.i64.wrap (p0 + (C.nodes.length : Int)) = p0 + (C.nodes.length : Int) := IntWalk.i64_in _ (by omega); have hp9 := Z' hp; clear hp
           go_upto_region 35 with (fail)
           clear k1 c1 t1; have k1 : w21.cell? ⟨gr, i * 4 + 3, none⟩ = some (.int .i64 p0) := (HRM.out.cellAt _ (by omega)).trans (flat_get HWD.out i _ 3 _ HG1.out rfl); have f1 := HRM.out.frozenAt (i * 4 + 3); have c1 := o_c.c4; have hb1 : Below B3 w21 (w21.setCell ⟨gr, i * 4 + 3, none⟩ (.int .i64 (p0 + (C.nodes.length : Int)))) := (Below.refl B3 w21).setCell hBg _; obtain ⟨es8, HWD8, HG8, HEQ8, HRN⟩ : ∃ es8 : List (List Value), Hid (∀ e ∈ es8, e.length = 4) /\ Hid (es8[i]? = some [.string nm, .int .i64 (l0 + (C.toks.length : Int)), .int .i64 (h0 + (C.toks.length : Int)), .int .i64 (p0 + (C.nodes.length : Int))]) /\ Hid (∀ y, es8.set i y = es.set i y) /\ Hid ((w21.setCell ⟨gr, i * 4 + 3, none⟩ (.int .i64 (p0 + (C.nodes.length : Int)))).ownsRow B3 105 4 (.slice (some ⟨gr, 0, none⟩) NN ck4) NN es8.flatten) := by
            refine ⟨es9.set i [.string nm, .int .i64 (l0 + (C.toks.length : Int)), .int .i64 (h0 + (C.toks.length : Int)), .int .i64 (p0 + (C.nodes.length : Int))], fun e he => (List.mem_or_eq_of_mem_set he).elim (HWD.out e) (fun h => h ▸ rfl), set_at9 HG1.out, fun y => by rw [List.set_set]; exact HEQ.out y, ?_⟩; have h := (HRM.out.stored (i * 4 + 3) (.int .i64 (p0 + (C.nodes.length : Int)))).1; rw [flat_set HWD.out i _ 3 _ HG1.out (by decide)] at h; exact h
           clear HWD HG1 HEQ HRM es9; obtain ⟨es9, rfl⟩ : ∃ x, x = es8 := ⟨_, rfl⟩; have HWD := HWD8; have HG1 := HG8; have HEQ := HEQ8; clear HWD8 HG8 HEQ8
           go_upto_region 31 with (fail)
           generalize hW9 : w21.setCell ⟨gr, i * 4 + 3, none⟩ (.int .i64 (p0 + (C.nodes.length : Int))) = w22 at HRN hb1 |-; clear hW9; replace o_a := o_a.below hb1 (by omega); replace o_b := o_b.below hb1 (by omega); replace o_r := o_r.below hb1 (by omega); replace o_c := o_c.below hb1 (by omega); have hs_w22 := hb1.size; replace hbr := hbr.trans hb1; clear k1 f1 c1 hb1; have hp := hp9.out; have HE3 : Hid (ENode (shN C.toks.length C.nodes.length (nm, l0, h0, p0)) [.string nm, .int .i64 (l0 + (C.toks.length : Int)), .int .i64 (h0 + (C.toks.length : Int)), .int .i64 (p0 + (C.nodes.length : Int))]) := ⟨by simp [shN, hp], HNM.out, by simp only [shN, I64]; omega, by simp only [shN, I64]; omega, by simp only [shN, I64, hp, if_true, if_false]; omega⟩; have HFE : Hid (Els 4 ENode es9 (upTo C.nodes D.nodes (shN C.toks.length C.nodes.length) (j + 1))) := by
            have h := HEJ.out.set (i := i) (e := [.string nm, .int .i64 (l0 + (C.toks.length : Int)), .int .i64 (h0 + (C.toks.length : Int)), .int .i64 (p0 + (C.nodes.length : Int))]) rfl HE3.out; rw [HST.out, <- HEQ.out, set_self9 HG1.out] at h; exact h
           clear hp
           go_wp2
           go_roundg (D.nodes.length + 1 - (j + 1))
           case measure => omega
           case rel => exact ⟨j + 1, i + 1, es9, rfl, by omega, (by show i + 1 = _; have := HI.out; omega), by go_num, HFE, HRN, hbr⟩
          ·skip
           have k1 : w21.cell? ⟨gr, i * 4 + 3, none⟩ = some (.int .i64 p0) := (HRM.out.cellAt _ (by omega)).trans (flat_get HWD.out i _ 3 _ HG1.out rfl); have c1 := o_c.c4; have t1 : decide ((0 : Int) <= p0) = false := decide_eq_false (by omega); have hp9 := Z' hp; clear hp
           go_upto_region 31 with (fail)
           clear k1 c1 t1; have hp := hp9.out; have HE3 : Hid (ENode (shN C.toks.length C.nodes.length (nm, l0, h0, p0)) [.string nm, .int .i64 (l0 + (C.toks.length : Int)), .int .i64 (h0 + (C.toks.length : Int)), .int .i64 p0]) := ⟨by simp [shN, hp], HNM.out, by simp only [shN, I64]; omega, by simp only [shN, I64]; omega, by simp only [shN, I64, hp, if_true, if_false]; omega⟩; have HFE : Hid (Els 4 ENode es9 (upTo C.nodes D.nodes (shN C.toks.length C.nodes.length) (j + 1))) := by
            have h := HEJ.out.set (i := i) (e := [.string nm, .int .i64 (l0 + (C.toks.length : Int)), .int .i64 (h0 + (C.toks.length : Int)), .int .i64 p0]) rfl HE3.out; rw [HST.out, <- HEQ.out, set_self9 HG1.out] at h; exact h
           clear hp
           go_wp2
           go_roundg (D.nodes.length + 1 - (j + 1))
           case measure => omega
           case rel => exact ⟨j + 1, i + 1, es9, rfl, by omega, (by show i + 1 = _; have := HI.out; omega), by go_num, HFE, HRM, hbr⟩
         ·skip
          obtain rfl : j = D.nodes.length := by omega
          obtain rfl : NN = i := by have := HI.out; have := HNN.out; omega
          rw [upTo_all] at HEJ; have c1 := o_c.c4
          go_upto_region 36 with (fail)
          clear c1; have HCB : Chg (fun k => k = gc \/ B3 <= k) w13 wr := HE9.out.trans (Chg.of_below hbr fun k _ h => .inr h); have HCH : Chg (fun k => k = gc \/ w13.heap.size <= k) w13 wr := hB3 ▸ HCB; have hgB : B <= gc := by omega
          have hBB : B <= B3 := by omega
          have HN : NodesO (fun k => S k \/ k = gc) wr (.slice Ak4 NN ck4) (C.nodes ++ D.nodes.map (shN C.toks.length C.nodes.length)) :=
           ⟨_, HEJ.out.mono fun _ _ _ h => h, by
            rw [List.length_append, List.length_map, <- HNN.out]; exact SO.of_own HRJ.out fun k hk h => by
             rcases h with h | h
             ·have := hS k h; have := HB.out; omega
             ·omega⟩
          have HN := Z' HN; have HA := Z' (EO.step HA.out HCH); have HT := Z' (RowsO.step HT.out HCH); have HX := Z' (SpnsO.step HX.out HCH); have HR := Z' (SpnsO.step HR.out HCH); replace hbw := hbw.trans (hbr.mono (by omega)); clear HCB HCH hgB hBB HEJ HRJ HE9 hbr hB3 HES HRW HI; generalize wr = w16 at o_a o_b o_r o_c hbw hwr HN HA HT HX HR |-; have hm1 : C.heads.length <= 4096 := by have := HV1.out.heads.many; have := HV1.out.toks.few; omega
          have hm2 : D.heads.length <= 4096 := by have := HV2.out.heads.many; have := HV2.out.toks.few; omega
          have zh : IntKind.i64.wrap ((C.heads.length : Int) + (D.heads.length : Int)) = ((C.heads.length + D.heads.length : Nat) : Int) := (IntWalk.i64_in ((C.heads.length : Int) + (D.heads.length : Int)) (by omega)).trans (by omega); have pA := o_a.c5; have pB := o_b.c5
          by_cases h0 : 0 < C.heads.length + D.heads.length
          ·skip
           have e0 : decide ((0 : Int) < ((C.heads.length + D.heads.length : Nat) : Int)) = true := decide_eq_true (by omega); have e0n : decide (0 < C.heads.length + D.heads.length) = true := decide_eq_true (by omega)
           go_upto_region 37 with (fail)
           clear e0 e0n zh pA pB h0; obtain ⟨p0, p1, p2, p3, p4, p5, p6⟩ := o_a.cells7
           go_wp2_with fail
           refine (allHeads6_any (S := (fun k => S k \/ k = gc)) _ ((HQ1.out _ hbw).weak fun k h => h.elim .inl fun h => .inr (by omega)) (fun k h => h.elim (fun h => by have := hS k h; have := HB.out; omega) fun h => by omega) (by have := HV1.out.toks.few; omega)).mono ?_; rintro e w17 ⟨⟨vh, vs, HH, RR, rfl, hh, hs, ha1⟩, hbw17⟩; clear p0 p1 p2 p3 p4 p5 p6; obtain ⟨Avh, cvh, rfl, -, -, hh⟩ := EO.form hh; obtain ⟨Avs, cvs, rfl, -, -, hs⟩ := EO.form hs; have hchw17 : Chg (fun k => k = gc \/ w16.heap.size <= k) w16 w17 := Chg.of_below hbw17 fun k _ h => .inr h; replace o_a := o_a.below hbw17 (by omega); replace o_b := o_b.below hbw17 (by omega); replace o_r := o_r.below hbw17 (by omega); replace o_c := o_c.below hbw17 (by omega); have hs_w17 := hbw17.size; replace HA := Z' (EO.step HA.out hchw17); replace HT := Z' (RowsO.step HT.out hchw17); replace HX := Z' (SpnsO.step HX.out hchw17)
           replace HR := Z' (SpnsO.step HR.out hchw17); replace HN := Z' (EO.step HN.out hchw17); replace hbw := belowB hbw (by omega) hbw17; clear hchw17; have HALL1 := Z' (ha1.len HV1.out.heads); clear ha1; have HO1 := Z' hh; have HP1 := Z' hs; clear hh hs
           go_upto_region 38 with (fail)
           obtain ⟨q0, q1, q2, q3, q4, q5, q6⟩ := o_b.cells7
           go_wp2_with fail
           refine (allHeads6_any (S := (fun k => S k \/ k = gc)) _ ((HQ2.out _ hbw).weak fun k h => h.elim .inl fun h => .inr (by omega)) (fun k h => h.elim (fun h => by have := hS k h; have := HB.out; omega) fun h => by omega) (by have := HV2.out.toks.few; omega)).mono ?_; rintro e w18 ⟨⟨vk, vt, KK, TT, rfl, hk, ht, ha2⟩, hbw18⟩; clear q0 q1 q2 q3 q4 q5 q6; obtain ⟨Avk, cvk, rfl, -, -, hk⟩ := EO.form hk; obtain ⟨Avt, cvt, rfl, -, -, ht⟩ := EO.form ht; have hchw18 : Chg (fun k => k = gc \/ w17.heap.size <= k) w17 w18 := Chg.of_below hbw18 fun k _ h => .inr h; replace o_a := o_a.below hbw18 (by omega); replace o_b := o_b.below hbw18 (by omega); replace o_r := o_r.below hbw18 (by omega); replace o_c := o_c.below hbw18 (by omega); have hs_w18 := hbw18.size; replace HA := Z' (EO.step HA.out hchw18); replace HT := Z' (RowsO.step HT.out hchw18); replace HX := Z' (SpnsO.step HX.out hchw18)
           replace HR := Z' (SpnsO.step HR.out hchw18); replace HN := Z' (EO.step HN.out hchw18); replace hbw := belowB hbw (by omega) hbw18; clear hchw18; have HALL2 := Z' (ha2.len HV2.out.heads); clear ha2; have HO2 := Z' hk; have HP2 := Z' ht; clear hk ht; replace HO1 := Z' (EO.below HO1.out hbw18); replace HP1 := Z' (EO.below HP1.out hbw18); clear hbw17 hbw18
           go_upto_region 39 with (fail)
           obtain ⟨i1, hi1, hy0, hy1, hy2⟩ := info_parts int_info9; obtain ⟨i2, hi2, hx0, hx1, hx2⟩ := info_parts strg_info; obtain ⟨es1, he1, hl1, hr1, ho1⟩ := EO.src HO1.out fun _ _ h => h.one; obtain ⟨es2, he2, hl2, hr2, ho2⟩ := EO.src HP1.out fun _ _ h => h.one; obtain ⟨es3, he3, hl3, hr3, ho3⟩ := EO.src HP2.out fun _ _ h => h.one; have hN1 : HH.length = C.toks.length := HALL1.out.1; have hN2 : RR.length = C.toks.length := HALL1.out.2.1; have hN3 : TT.length = D.toks.length := HALL2.out.2.1; have hN4 : KK.length = D.toks.length := HALL2.out.1; have hf1 := HV1.out.toks.few; have hf2 := HV2.out.toks.few; obtain ⟨B4, hB4⟩ : ∃ B4, B4 = w18.heap.size := ⟨_, rfl⟩; have hgB4 : gc < B4 := by omega
           obtain ⟨v1, x1, hap1, hrow1, hgr1, -⟩ := run_append_src (P := Tryz.prog) w18 B4 22 22 3 i1 _ 1 8 Tryz.underlying22 hi1 hy0 hy1 hy2 rfl (by decide) (.slice none 0 0) 0 [] (World.ownsRow_nil _ _ _ _) Avh HH.length cvh es1.flatten hl1 hr1.rd ho1 (by unfold maxLen; omega) (by omega) (by omega); rw [Nat.zero_add, List.nil_append] at hrow1; have hgr1 : w18.grownBy x1 none := hgr1; have hbx1 := Below.of_grown hgr1; obtain ⟨v3, x3, hap3, hrow3, hgr3, -⟩ := run_append_src (P := Tryz.prog) x1 B4 28 28 9 i2 _ 1 16 Tryz.underlying28 hi2 hx0 hx1 hx2 rfl (by decide) (.slice none 0 0) 0 [] (World.ownsRow_nil _ _ _ _) Avs RR.length cvs es2.flatten hl2 (hr2.rd.below hbx1) ho2 (by unfold maxLen; omega) (by omega) (by have := hbx1.size; omega); rw [Nat.zero_add, List.nil_append] at hrow3; have hgr3 : x1.grownBy x3 none := hgr3; have hbx3 := Below.of_grown hgr3; have hbx13 : Below B4 w18 x3 := belowB (hB4 ▸ hbx1) (by have := hbx1.size; omega) hbx3
           obtain ⟨v5, x5, hap5, hrow5, hgr5, -⟩ := run_append_src (P := Tryz.prog) x3 B4 28 28 9 i2 _ 1 16 Tryz.underlying28 hi2 hx0 hx1 hx2 rfl (by decide) v3 RR.length es2.flatten hrow3 Avt TT.length cvt es3.flatten hl3 (hr3.rd.below (hB4 ▸ hbx13)) ho3 (by unfold maxLen; omega) (by omega) (by have := hbx1.size; have := hbx3.size; omega); replace hrow1 := (hrow1.kept hgr3 (by cases v1.ownBlock <;> simp)).kept hgr5 (rows_ne9 (hrow1.kept hgr3 (by cases v1.ownBlock <;> simp)) hrow3 (by decide)); have hbx5 : Below B4 w18 x5 := ⟨hgr5.os.trans hbx13.os, hgr5.tape.trans hbx13.tape, hgr5.output.trans hbx13.output, Nat.le_trans hbx13.size hgr5.size, fun k hk => (hgr5.block k (Nat.lt_of_lt_of_le (by omega) hbx13.size) (fun e => by have := own_lt hrow3 k e.symm; omega)).trans (hbx13.block k hk)⟩; have hs5 : w18.heap.size <= x5.heap.size := hbx5.size; obtain ⟨A1, c1, rfl, -, -⟩ := own_form hrow1
           obtain ⟨A5, c5, rfl, -, -⟩ := own_form hrow5; have o_r0 := o_r; clear o_r; replace o_c := o_c.below hbx5 (by omega); have oc2 := (o_c.set_ 5 (.slice A1 HH.length c1)).set_ 6 (.slice A5 (RR.length + TT.length) c5); have hch : Chg (fun k => k = gc \/ B4 <= k) w18 ((x5.setCell ⟨gc, 5, none⟩ (.slice A1 HH.length c1)).setCell ⟨gc, 6, none⟩ (.slice A5 (RR.length + TT.length) c5)) :=
            ((Chg.of_below hbx5 fun k _ h => .inr h).setCell (p := ⟨gc, 5, none⟩) (.inl rfl) _).setCell (p := ⟨gc, 6, none⟩) (.inl rfl) _
           have hfar : ∀ k, (Value.slice A1 HH.length c1).ownBlock = some k \/ (Value.slice A5 (RR.length + TT.length) c5).ownBlock = some k -> k ≠ gc := fun k h => by
            rcases h with h | h
            ·have := own_lt hrow1 k h; omega
            ·have := own_lt hrow5 k h; omega
           have HR1 := Z' ((hrow1.kept (grownBy_setCell x5 ⟨gc, 5, none⟩ (.slice A1 HH.length c1)) (.inr fun e => hfar _ (.inl e) rfl)).kept (grownBy_setCell _ ⟨gc, 6, none⟩ (.slice A5 (RR.length + TT.length) c5)) (.inr fun e => hfar _ (.inl e) rfl)); have HR5 := Z' ((hrow5.kept (grownBy_setCell x5 ⟨gc, 5, none⟩ (.slice A1 HH.length c1)) (.inr fun e => hfar _ (.inr e) rfl)).kept (grownBy_setCell _ ⟨gc, 6, none⟩ (.slice A5 (RR.length + TT.length) c5)) (.inr fun e => hfar _ (.inr e) rfl)); have k5 := o_c.c5; have f5 := o_c.frozen 5; have k6 := o_c.c6; have f6 := o_c.frozen 6; have HN1 := Z' hN1; have HN2 := Z' hN2; have HN3 := Z' hN3; have HN4 := Z' hN4; have HB4 := Z' hB4; clear hN1 hN2 hN3 hN4 hB4 hfar hrow1 hrow3 hrow5 hgr1 hgr3 hgr5 hbx1 hbx3 hbx13 hbx5 hr1 hr2 hr3 ho1 ho2 ho3 hl1 hl2 hl3 hx0 hx1 hx2 hi2 hy0 hy1 hy2 hi1
           go_upto_region 40 with (at_builtin; first | refine wpList_append_eq rfl (.const (.slice none 0 0)) (.tmp 246) 22 rfl _ _ _ rfl rfl hap1 ?_ | refine wpList_append_eq rfl (.const (.slice none 0 0)) (.tmp 248) 28 rfl _ _ _ rfl rfl hap3 ?_ | refine wpList_append_eq rfl (.tmp 249) (.tmp 250) 28 rfl _ _ _ rfl rfl hap5 ?_)
           clear hap1 hap3 hap5 k5 f5 k6 f6 o_c; generalize hw19 : (x5.setCell ⟨gc, 5, none⟩ (.slice A1 HH.length c1)).setCell ⟨gc, 6, none⟩ (.slice A5 (RR.length + TT.length) c5) = w19 at oc2 hch HR1 HR5 |-; clear hw19; have HKK : Hid (IntsO (fun k => (S k \/ k = gc) \/ B4 <= k) w18 (.slice Avk KK.length cvk) KK) := HB4.out ▸ EO.fresh HO2.out; rw [els_ints9 he1] at HR1; have hs19 := hch.size
           go_wp2_with fail
           go_loopg [256] (KK.length + 1) (fun q v wr => ∃ (j : Nat) (A7 : Option Addr) (c7 : Nat) (L : List Int), q = KK.length + 1 - j /\ j <= KK.length /\ v = .int .i64 (j : Int) /\ Hid (L.length = HH.length + j /\ ∀ x ∈ L, I64 x) /\ Hid (wr.ownsRow B4 3 1 (.slice A7 (HH.length + j) c7) (HH.length + j) (ci L)) /\ Hid (wr.ownsRow B4 9 1 (.slice A5 (RR.length + TT.length) c5) (RR.length + TT.length) (es2.flatten ++ es3.flatten)) /\ Own wr gc 30 [.slice Av C.attrs.length cv, .slice Ak1 (C.toks.length + D.toks.length) ck1, .slice Ak2 NX ck2, .slice Ak3 NR ck3, .slice Ak4 NN ck4, .slice A7 (HH.length + j) c7, .slice A5 (RR.length + TT.length) c5] /\ Chg (fun k => k = gc \/ B4 <= k) w18 wr)
           case atStart => exact ⟨0, A1, c1, HH, rfl, Nat.zero_le _, rfl, ⟨rfl, fun x hx => by have := HALL1.out.2.2 x hx; constructor <;> omega⟩, HR1, HR5, oc2, hch⟩
           case round =>
            clear hch oc2 HR1 HR5 hs19; obtain ⟨j, A7, c7, L, rfl, hj, rfl, HL, HRL, HRS, o_c, hch⟩ := hrel; have hwr := hch.size
            by_cases hlt : j < KK.length
            ·skip
             obtain ⟨b, off, rfl, -, kk, -⟩ := IntsO.get (EO.chg' HKK.out (hch.mono fun k _ h => h.elim (fun e => .inl (.inr e)) .inr)) hlt; obtain ⟨x, hx⟩ : ∃ x, x = KK[j] := ⟨_, rfl⟩; have hxr : -1 <= x /\ x <= D.toks.length := HALL2.out.2.2 _ (hx ▸ List.getElem_mem hlt); rw [<- hx] at kk; clear hx; have HKK2 := HKK
             by_cases hp : 0 <= x
             ·skip
              have t1 : decide ((0 : Int) <= x) = true := decide_eq_true (by omega); have z1 : IntKind.i64.wrap (x + (C.toks.length : Int)) = x + (C.toks.length : Int) := IntWalk.i64_in _ (by omega)
              go_upto_region 45 with (fail)
              clear t1 z1; have hy64 : Hid (I64 (x + (C.toks.length : Int))) := ⟨by omega, by omega⟩; clear hp hxr; obtain ⟨i1, hi1, hy0, hy1, hy2⟩ := info_parts int_info9; obtain ⟨o_n, hbn⟩ := new1 wr [.int .i64 (x + (C.toks.length : Int))] 3; obtain ⟨v6, x6, hap6, hrow6, hgr6, -⟩ := run_append_src (P := Tryz.prog) (wr.alloc (.cells #[.int .i64 (x + (C.toks.length : Int))] 3)) B4 22 22 3 i1 _ 1 8 Tryz.underlying22 hi1 hy0 hy1 hy2 rfl (by decide) (.slice A7 (HH.length + j) c7) (HH.length + j) (ci L) (ownsRow_below HRL.out hbn) (some ⟨wr.heap.size, 0, none⟩) 1 1 [.int .i64 (x + (C.toks.length : Int))] rfl o_n.rd0 (by intro u hu; simp at hu; subst hu; rfl) (by have := HN1.out; have := HN4.out; unfold maxLen; omega) (by have := HN1.out; have := HN4.out; omega) (by have := HB4.out; rw [size1]; omega); have hne : (Value.slice A7 (HH.length + j) c7).ownBlock ≠ some gc := fun e => by have := own_lt HRL.out gc e; omega
              have HRS6 := (ownsRow_below HRS.out hbn).kept hgr6 (rows_ne9 (ownsRow_below HRS.out hbn) (ownsRow_below HRL.out hbn) (by decide)); have hch6 := (hch.alloc (.cells #[.int .i64 (x + (C.toks.length : Int))] 3)).trans (grown_chg (gc := gc) hgr6 (own_lt HRL.out)); have o_c6 := grown_own hgr6 (o_c.below hbn o_c.lt) hne; obtain ⟨A6, c6, rfl, -, -⟩ := own_form hrow6; have k5 := o_c.c5; have f5 := o_c6.frozen 5; have k55 := o_c6.c5; have o_c7 := o_c6.set_ 5 (.slice A6 (HH.length + j + 1) c6); have hch7 := hch6.setCell (p := ⟨gc, 5, none⟩) (.inl rfl) (.slice A6 (HH.length + j + 1) c6); have HR7 := Z' (hrow6.kept (grownBy_setCell x6 ⟨gc, 5, none⟩ (.slice A6 (HH.length + j + 1) c6)) (.inr fun e => by have := own_lt hrow6 gc e; omega)); have HS7 := Z' (HRS6.kept (grownBy_setCell x6 ⟨gc, 5, none⟩ (.slice A6 (HH.length + j + 1) c6)) (.inr fun e => by have := own_lt HRS6 gc e; omega))
              have HL7 : Hid ((L ++ [x + (C.toks.length : Int)]).length = HH.length + (j + 1) /\ ∀ z ∈ L ++ [x + (C.toks.length : Int)], I64 z) := ⟨by rw [List.length_append, HL.out.1]; rfl, fun z hz => (List.mem_append.1 hz).elim (HL.out.2 z) fun h => by rw [List.mem_singleton.1 h]; exact hy64.out⟩; have e7 : ci L ++ [.int .i64 (x + (C.toks.length : Int))] = ci (L ++ [x + (C.toks.length : Int)]) := by simp [ci]
              rw [e7] at HR7; clear e7 hrow6 HRS6 hch6 hgr6 hne hi1 hy0 hy1 hy2 o_c o_n hch HRL HRS HL
              go_upto_region 46 with (at_builtin; refine wpList_append_eq rfl (.tmp 266) (.tmp 268) 22 rfl _ _ _ rfl rfl hap6 ?_)
              clear hap6 k5 f5 k55 kk; generalize hw20 : x6.setCell ⟨gc, 5, none⟩ (.slice A6 (HH.length + j + 1) c6) = w20 at o_c7 hch7 HR7 HS7 |-; clear hw20
              go_wp2
              go_roundg (KK.length + 1 - (j + 1))
              case measure => omega
              case rel => exact ⟨j + 1, A6, c6, L ++ [x + (C.toks.length : Int)], rfl, by omega, by have h9 := HN4.out; exact congrArg (Value.int .i64) (show wrap64 ((j : Int) + 1) = ((j + 1 : Nat) : Int) by unfold wrap64; omega), HL7, HR7, HS7, o_c7, hch7⟩
             ·skip
              have t1 : decide ((0 : Int) <= x) = false := decide_eq_false (by omega)
              go_upto_region 45 with (fail)
              clear t1; have hy64 : Hid (I64 (x)) := ⟨by omega, by omega⟩; clear hp hxr; obtain ⟨i1, hi1, hy0, hy1, hy2⟩ := info_parts int_info9; obtain ⟨o_n, hbn⟩ := new1 wr [.int .i64 (x)] 3; obtain ⟨v6, x6, hap6, hrow6, hgr6, -⟩ := run_append_src (P := Tryz.prog) (wr.alloc (.cells #[.int .i64 (x)] 3)) B4 22 22 3 i1 _ 1 8 Tryz.underlying22 hi1 hy0 hy1 hy2 rfl (by decide) (.slice A7 (HH.length + j) c7) (HH.length + j) (ci L) (ownsRow_below HRL.out hbn) (some ⟨wr.heap.size, 0, none⟩) 1 1 [.int .i64 (x)] rfl o_n.rd0 (by intro u hu; simp at hu; subst hu; rfl) (by have := HN1.out; have := HN4.out; unfold maxLen; omega) (by have := HN1.out; have := HN4.out; omega) (by have := HB4.out; rw [size1]; omega); have hne : (Value.slice A7 (HH.length + j) c7).ownBlock ≠ some gc := fun e => by have := own_lt HRL.out gc e; omega
              have HRS6 := (ownsRow_below HRS.out hbn).kept hgr6 (rows_ne9 (ownsRow_below HRS.out hbn) (ownsRow_below HRL.out hbn) (by decide)); have hch6 := (hch.alloc (.cells #[.int .i64 (x)] 3)).trans (grown_chg (gc := gc) hgr6 (own_lt HRL.out)); have o_c6 := grown_own hgr6 (o_c.below hbn o_c.lt) hne; obtain ⟨A6, c6, rfl, -, -⟩ := own_form hrow6; have k5 := o_c.c5; have f5 := o_c6.frozen 5; have k55 := o_c6.c5; have o_c7 := o_c6.set_ 5 (.slice A6 (HH.length + j + 1) c6); have hch7 := hch6.setCell (p := ⟨gc, 5, none⟩) (.inl rfl) (.slice A6 (HH.length + j + 1) c6); have HR7 := Z' (hrow6.kept (grownBy_setCell x6 ⟨gc, 5, none⟩ (.slice A6 (HH.length + j + 1) c6)) (.inr fun e => by have := own_lt hrow6 gc e; omega)); have HS7 := Z' (HRS6.kept (grownBy_setCell x6 ⟨gc, 5, none⟩ (.slice A6 (HH.length + j + 1) c6)) (.inr fun e => by have := own_lt HRS6 gc e; omega)); have HL7 : Hid ((L ++ [x]).length = HH.length + (j + 1) /\ ∀ z ∈ L ++ [x], I64 z) := ⟨by rw [List.length_append, HL.out.1]; rfl, fun z hz => (List.mem_append.1 hz).elim (HL.out.2 z) fun h => by rw [List.mem_singleton.1 h]; exact hy64.out⟩
              have e7 : ci L ++ [.int .i64 (x)] = ci (L ++ [x]) := by simp [ci]
              rw [e7] at HR7; clear e7 hrow6 HRS6 hch6 hgr6 hne hi1 hy0 hy1 hy2 o_c o_n hch HRL HRS HL
              go_upto_region 46 with (at_builtin; refine wpList_append_eq rfl (.tmp 266) (.tmp 268) 22 rfl _ _ _ rfl rfl hap6 ?_)
              clear hap6 k5 f5 k55 kk; generalize hw20 : x6.setCell ⟨gc, 5, none⟩ (.slice A6 (HH.length + j + 1) c6) = w20 at o_c7 hch7 HR7 HS7 |-; clear hw20
              go_wp2
              go_roundg (KK.length + 1 - (j + 1))
              case measure => omega
              case rel => exact ⟨j + 1, A6, c6, L ++ [x], rfl, by omega, by have h9 := HN4.out; exact congrArg (Value.int .i64) (show wrap64 ((j : Int) + 1) = ((j + 1 : Nat) : Int) by unfold wrap64; omega), HL7, HR7, HS7, o_c7, hch7⟩
            ·skip
             obtain rfl : j = KK.length := by omega
             have HE1 : Hid (IntsO (fun k => S k \/ k = gc) wr (.slice A7 (HH.length + KK.length) c7) L) := ⟨_, Els.one1 fun x hx => ⟨rfl, HL.out.2 x hx⟩, by
              rw [flat1, HL.out.1]; exact SO.of_own HRL.out fun k hk h => by
               rcases h with h | h
               ·have := hS k h; have := HB.out; omega
               ·omega⟩
             have HE2 : Hid (StrsO (fun k => S k \/ k = gc) wr (.slice A5 (RR.length + TT.length) c5) (RR ++ TT)) := ⟨es2 ++ es3, he2.app he3, by
              rw [List.length_append, List.flatten_append]; exact SO.of_own HRS.out fun k hk h => by
               rcases h with h | h
               ·have := hS k h; have := HB.out; omega
               ·omega⟩
             have hch8 : Chg (fun k => k = gc \/ w18.heap.size <= k) w18 wr := HB4.out ▸ hch; have hbx : Below gc w18 wr := hch.below (fun k hk h => by rcases h with h | h <;> omega) (by have := HB4.out; omega); have o_r := o_r0.below hbx (by omega); replace hbw := hbw.trans (hbx.mono (by omega)); replace HA := Z' (EO.step HA.out hch8); replace HT := Z' (RowsO.step HT.out hch8); replace HX := Z' (SpnsO.step HX.out hch8); replace HR := Z' (SpnsO.step HR.out hch8); replace HN := Z' (EO.step HN.out hch8); clear hch8 hch hbx HRL HRS HL HKK HO1 HO2 HP1 HP2 HALL1 HALL2 he1 he2 he3; obtain ⟨LH, rfl⟩ : ∃ x, x = L := ⟨_, rfl⟩; obtain ⟨LR, hLR⟩ : ∃ x, x = RR ++ TT := ⟨_, rfl⟩; rw [<- hLR] at HE2; clear hLR; obtain ⟨s0, s1, s2, s3, s4, s5, s6⟩ := o_c.cells7; have hrg : B + 1 + 1 < gc := by omega
             obtain ⟨r9_0, r9_1, r9_2, r9_3, r9_4, r9_5, r9_6⟩ := o_r.cells7; obtain ⟨fr9_0, fr9_1, fr9_2, fr9_3, fr9_4, fr9_5, fr9_6⟩ := o_r.frozens7; have HZ : Hid (Below B w ((((((((wr.setCell ⟨B + 1 + 1, 0, none⟩ (.slice Av C.attrs.length cv)).setCell ⟨B + 1 + 1, 1, none⟩ (.slice Ak1 (C.toks.length + D.toks.length) ck1)).setCell ⟨B + 1 + 1, 2, none⟩ (.slice Ak2 NX ck2)).setCell ⟨B + 1 + 1, 3, none⟩ (.slice Ak3 NR ck3)).setCell ⟨B + 1 + 1, 4, none⟩ (.slice Ak4 NN ck4)).setCell ⟨B + 1 + 1, 5, none⟩ (.slice A7 (HH.length + KK.length) c7)).setCell ⟨B + 1 + 1, 6, none⟩ (.slice A5 (RR.length + TT.length) c5)))) := Below.set7' hbw (g := B + 1 + 1) (by omega) (.slice Av C.attrs.length cv) (.slice Ak1 (C.toks.length + D.toks.length) ck1) (.slice Ak2 NX ck2) (.slice Ak3 NR ck3) (.slice Ak4 NN ck4) (.slice A7 (HH.length + KK.length) c7) (.slice A5 (RR.length + TT.length) c5); have HC : Hid (Chg (fun k => S k \/ k = gc) wr ((((((((wr.setCell ⟨B + 1 + 1, 0, none⟩ (.slice Av C.attrs.length cv)).setCell ⟨B + 1 + 1, 1, none⟩ (.slice Ak1 (C.toks.length + D.toks.length) ck1)).setCell ⟨B + 1 + 1, 2, none⟩ (.slice Ak2 NX ck2)).setCell ⟨B + 1 + 1, 3, none⟩ (.slice Ak3 NR ck3)).setCell ⟨B + 1 + 1, 4, none⟩ (.slice Ak4 NN ck4)).setCell ⟨B + 1 + 1, 5, none⟩ (.slice A7 (HH.length + KK.length) c7)).setCell ⟨B + 1 + 1, 6, none⟩ (.slice A5 (RR.length + TT.length) c5)))) := by
              have hr2 : (fun k => S k \/ k = gc) (B + 1 + 1) := .inl (HB.out ▸ hr); exact (((((((Chg.refl _ _).setCell (p := ⟨B + 1 + 1, 0, none⟩) hr2 _).setCell (p := ⟨B + 1 + 1, 1, none⟩) hr2 _).setCell (p := ⟨B + 1 + 1, 2, none⟩) hr2 _).setCell (p := ⟨B + 1 + 1, 3, none⟩) hr2 _).setCell (p := ⟨B + 1 + 1, 4, none⟩) hr2 _).setCell (p := ⟨B + 1 + 1, 5, none⟩) hr2 _).setCell (p := ⟨B + 1 + 1, 6, none⟩) hr2 _
             have oz := o_r.set7' (.slice Av C.attrs.length cv) (.slice Ak1 (C.toks.length + D.toks.length) ck1) (.slice Ak2 NX ck2) (.slice Ak3 NR ck3) (.slice Ak4 NN ck4) (.slice A7 (HH.length + KK.length) c7) (.slice A5 (RR.length + TT.length) c5)
             go_wp2_with fail
             clear r9_0 r9_1 r9_2 r9_3 r9_4 r9_5 r9_6 fr9_0 fr9_1 fr9_2 fr9_3 fr9_4 fr9_5 fr9_6 s0 s1 s2 s3 s4 s5 s6; generalize (((((((wr.setCell ⟨B + 1 + 1, 0, none⟩ (.slice Av C.attrs.length cv)).setCell ⟨B + 1 + 1, 1, none⟩ (.slice Ak1 (C.toks.length + D.toks.length) ck1)).setCell ⟨B + 1 + 1, 2, none⟩ (.slice Ak2 NX ck2)).setCell ⟨B + 1 + 1, 3, none⟩ (.slice Ak3 NR ck3)).setCell ⟨B + 1 + 1, 4, none⟩ (.slice Ak4 NN ck4)).setCell ⟨B + 1 + 1, 5, none⟩ (.slice A7 (HH.length + KK.length) c7)).setCell ⟨B + 1 + 1, 6, none⟩ (.slice A5 (RR.length + TT.length) c5)) = wz at oz HZ HC |-; obtain ⟨z90, z91, z92, z93, z94, z95, z96⟩ := oz.cells7; have q9 : CorC (fun k => S k \/ k = gc) wr (.slice Av C.attrs.length cv) (.slice Ak1 (C.toks.length + D.toks.length) ck1) (.slice Ak2 NX ck2) (.slice Ak3 NR ck3) (.slice Ak4 NN ck4) (.slice A7 (HH.length + KK.length) c7) (.slice A5 (RR.length + TT.length) c5) ⟨C.attrs, C.toks ++ D.toks, C.texts ++ D.texts.map (sh C.toks.length), C.regs ++ D.regs.map (sh C.toks.length), C.nodes ++ D.nodes.map (shN C.toks.length C.nodes.length), LH, LR⟩ := ⟨HA.out, HT.out, HX.out, HR.out, HN.out, HE1.out, HE2.out⟩
             have q8 := (q9.chg HC.out).weak (T := S) fun k h => .inl h; exact bodyPost_ret (v := .tuple #[.agg #[.slice Av C.attrs.length cv, .slice Ak1 (C.toks.length + D.toks.length) ck1, .slice Ak2 NX ck2, .slice Ak3 NR ck3, .slice Ak4 NN ck4, .slice A7 (HH.length + KK.length) c7, .slice A5 (RR.length + TT.length) c5], .int .i64 0]) (by simp [results, Tryz.results21, go_sem, z90, z91, z92, z93, z94, z95, z96]) rfl ⟨.inr ⟨_, _, rfl, ⟨_, _, _, _, _, _, _, rfl, q8⟩, ⟨rfl, rfl, rfl⟩, HV1.out, HV2.out⟩, HB.out ▸ HZ.out⟩
          ·skip
           have e0 : decide ((0 : Int) < ((C.heads.length + D.heads.length : Nat) : Int)) = false := decide_eq_false (by omega); have e0n : decide (0 < C.heads.length + D.heads.length) = false := decide_eq_false (by omega)
           go_upto_region 47 with (fail)
           clear e0 e0n zh pA pB h0; obtain ⟨LH, hLH⟩ : ∃ L : List Int, L = [] := ⟨_, rfl⟩; obtain ⟨LR, hLR⟩ : ∃ L : List ByteArray, L = [] := ⟨_, rfl⟩; obtain ⟨s0, s1, s2, s3, s4, s5, s6⟩ := o_c.cells7; have hrg : B + 1 + 1 < gc := by omega
           obtain ⟨r9_0, r9_1, r9_2, r9_3, r9_4, r9_5, r9_6⟩ := o_r.cells7; obtain ⟨fr9_0, fr9_1, fr9_2, fr9_3, fr9_4, fr9_5, fr9_6⟩ := o_r.frozens7; have HZ : Hid (Below B w ((((((((w16.setCell ⟨B + 1 + 1, 0, none⟩ (.slice Av C.attrs.length cv)).setCell ⟨B + 1 + 1, 1, none⟩ (.slice Ak1 (C.toks.length + D.toks.length) ck1)).setCell ⟨B + 1 + 1, 2, none⟩ (.slice Ak2 NX ck2)).setCell ⟨B + 1 + 1, 3, none⟩ (.slice Ak3 NR ck3)).setCell ⟨B + 1 + 1, 4, none⟩ (.slice Ak4 NN ck4)).setCell ⟨B + 1 + 1, 5, none⟩ (.slice none 0 0)).setCell ⟨B + 1 + 1, 6, none⟩ (.slice none 0 0)))) := Below.set7' hbw (g := B + 1 + 1) (by omega) (.slice Av C.attrs.length cv) (.slice Ak1 (C.toks.length + D.toks.length) ck1) (.slice Ak2 NX ck2) (.slice Ak3 NR ck3) (.slice Ak4 NN ck4) (.slice none 0 0) (.slice none 0 0); have HC : Hid (Chg (fun k => S k \/ k = gc) w16 ((((((((w16.setCell ⟨B + 1 + 1, 0, none⟩ (.slice Av C.attrs.length cv)).setCell ⟨B + 1 + 1, 1, none⟩ (.slice Ak1 (C.toks.length + D.toks.length) ck1)).setCell ⟨B + 1 + 1, 2, none⟩ (.slice Ak2 NX ck2)).setCell ⟨B + 1 + 1, 3, none⟩ (.slice Ak3 NR ck3)).setCell ⟨B + 1 + 1, 4, none⟩ (.slice Ak4 NN ck4)).setCell ⟨B + 1 + 1, 5, none⟩ (.slice none 0 0)).setCell ⟨B + 1 + 1, 6, none⟩ (.slice none 0 0)))) := by
            have hr2 : (fun k => S k \/ k = gc) (B + 1 + 1) := .inl (HB.out ▸ hr); exact (((((((Chg.refl _ _).setCell (p := ⟨B + 1 + 1, 0, none⟩) hr2 _).setCell (p := ⟨B + 1 + 1, 1, none⟩) hr2 _).setCell (p := ⟨B + 1 + 1, 2, none⟩) hr2 _).setCell (p := ⟨B + 1 + 1, 3, none⟩) hr2 _).setCell (p := ⟨B + 1 + 1, 4, none⟩) hr2 _).setCell (p := ⟨B + 1 + 1, 5, none⟩) hr2 _).setCell (p := ⟨B + 1 + 1, 6, none⟩) hr2 _
           have oz := o_r.set7' (.slice Av C.attrs.length cv) (.slice Ak1 (C.toks.length + D.toks.length) ck1) (.slice Ak2 NX ck2) (.slice Ak3 NR ck3) (.slice Ak4 NN ck4) (.slice none 0 0) (.slice none 0 0)
           go_wp2_with fail
           clear r9_0 r9_1 r9_2 r9_3 r9_4 r9_5 r9_6 fr9_0 fr9_1 fr9_2 fr9_3 fr9_4 fr9_5 fr9_6 s0 s1 s2 s3 s4 s5 s6; generalize (((((((w16.setCell ⟨B + 1 + 1, 0, none⟩ (.slice Av C.attrs.length cv)).setCell ⟨B + 1 + 1, 1, none⟩ (.slice Ak1 (C.toks.length + D.toks.length) ck1)).setCell ⟨B + 1 + 1, 2, none⟩ (.slice Ak2 NX ck2)).setCell ⟨B + 1 + 1, 3, none⟩ (.slice Ak3 NR ck3)).setCell ⟨B + 1 + 1, 4, none⟩ (.slice Ak4 NN ck4)).setCell ⟨B + 1 + 1, 5, none⟩ (.slice none 0 0)).setCell ⟨B + 1 + 1, 6, none⟩ (.slice none 0 0)) = wz at oz HZ HC |-; obtain ⟨z90, z91, z92, z93, z94, z95, z96⟩ := oz.cells7; have q9 : CorC (fun k => S k \/ k = gc) w16 (.slice Av C.attrs.length cv) (.slice Ak1 (C.toks.length + D.toks.length) ck1) (.slice Ak2 NX ck2) (.slice Ak3 NR ck3) (.slice Ak4 NN ck4) (.slice none 0 0) (.slice none 0 0) ⟨C.attrs, C.toks ++ D.toks, C.texts ++ D.texts.map (sh C.toks.length), C.regs ++ D.regs.map (sh C.toks.length), C.nodes ++ D.nodes.map (shN C.toks.length C.nodes.length), LH, LR⟩ := ⟨HA.out, HT.out, HX.out, HR.out, HN.out, hLH ▸ EO.nil _ _ _ _, hLR ▸ EO.nil _ _ _ _⟩
           have q8 := (q9.chg HC.out).weak (T := S) fun k h => .inl h; exact bodyPost_ret (v := .tuple #[.agg #[.slice Av C.attrs.length cv, .slice Ak1 (C.toks.length + D.toks.length) ck1, .slice Ak2 NX ck2, .slice Ak3 NR ck3, .slice Ak4 NN ck4, .slice none 0 0, .slice none 0 0], .int .i64 0]) (by simp [results, Tryz.results21, go_sem, z90, z91, z92, z93, z94, z95, z96]) rfl ⟨.inr ⟨_, _, rfl, ⟨_, _, _, _, _, _, _, rfl, q8⟩, ⟨rfl, rfl, rfl⟩, HV1.out, HV2.out⟩, HB.out ▸ HZ.out⟩
theorem concat6_any {S : Nat -> Prop} {a t x r n h s a' t' x' r' n' h' s' : Value} {C D : Cor} (w : World) (q1 : CorC S w a t x r n h s C) (q2 : CorC S w a' t' x' r' n' h' s' D) (hS : ∀ k, S k -> k < w.heap.size) :
  Calls Tryz.prog 21 #[.agg #[a, t, x, r, n, h, s], .agg #[a', t', x', r', n', h', s']] w fun e w' => ConcatRes S C D e w' /\ Below w.heap.size w w' := by
 have hw : ∀ k, (S k \/ k = w.heap.size + 1 + 1) -> S k \/ w.heap.size <= k := fun k h => h.imp id fun h => by omega
 refine (concat6_core (S := fun k => S k \/ k = w.heap.size + 1 + 1) w (q1.fresh.weak hw) (q2.fresh.weak hw) (fun k h => h.elim (fun h => by have := hS k h; omega) fun h => by omega) (.inr rfl)).mono ?_; rintro e w' ⟨h, hb⟩; refine ⟨?_, hb⟩
 rcases h with h | ⟨v, E, e1, ⟨a, t, x, r, n, h, s, e2, q⟩, h2⟩
 ·exact .inl h
 ·exact .inr ⟨v, E, e1, ⟨a, t, x, r, n, h, s, e2, q.weak fun k hk => .inl hk⟩, h2⟩
end Go.Proofs.YtjimfbmegmnocaaGreatDoor
