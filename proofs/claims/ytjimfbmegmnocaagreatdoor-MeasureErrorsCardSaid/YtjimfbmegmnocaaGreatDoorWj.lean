/- Parts of the proof: Wj. No condition of its own. -/
import Derived.Test.YtjimfbmegmnocaaGreatDoorWi
set_option linter.unusedSimpArgs false
set_option linter.unusedVariables false
set_option maxRecDepth 100000
set_option maxHeartbeats 16000000
namespace Go.Proofs.YtjimfbmegmnocaaGreatDoor
open Go.RowKit

theorem mem_take9 {ws : List ByteArray} {i : Nat} {t : ByteArray} (ht : ws[i]? = some t) (x : ByteArray) : x ∈ ws.take (i + 1) ↔ (x ∈ ws.take i \/ x = t) := by
 rw [List.take_add_one, ht, List.mem_append]
 simp
theorem keywords38_any {S S' : Nat -> Prop} (w : World) {a t x r n h s a' t' x' r' n' h' s' : Value} {C D : Cor} (q : CorC S w a t x r n h s C) (q' : CorC S' w a' t' x' r' n' h' s' D) (hF : FitC C) (hG : FitC D) (at_ : Int) (hat1 : at_ <= 9223372036854775807) :
  Calls Tryz.prog 11 #[.agg #[a, t, x, r, n, h, s], .agg #[a', t', x', r', n', h', s'], .int .i64 at_] w fun e w' => ResK C D at_ w.heap.size w' e /\ Below w.heap.size w w' := by
 obtain ⟨Aa, ca, rfl, u1_0, u2_0, -⟩ := EO.form q.a; obtain ⟨At, ct, rfl, u1_1, u2_1, -⟩ := EO.form q.t; obtain ⟨Ax, cx, rfl, u1_2, u2_2, -⟩ := EO.form q.x; obtain ⟨Ar, cr, rfl, u1_3, u2_3, -⟩ := EO.form q.r; obtain ⟨An, cn9, rfl, u1_4, u2_4, -⟩ := EO.form q.n; obtain ⟨Ah, ch, rfl, u1_5, u2_5, -⟩ := EO.form q.h; obtain ⟨As, cs, rfl, u1_6, u2_6, -⟩ := EO.form q.s; obtain ⟨Da, da, rfl, v1_0, v2_0, -⟩ := EO.form q'.a; obtain ⟨Dt, dt, rfl, v1_1, v2_1, -⟩ := EO.form q'.t; obtain ⟨Dx, dx, rfl, v1_2, v2_2, -⟩ := EO.form q'.x; obtain ⟨Dr, dr, rfl, v1_3, v2_3, -⟩ := EO.form q'.r; obtain ⟨Dn, dn, rfl, v1_4, v2_4, -⟩ := EO.form q'.n; obtain ⟨Dh, dh, rfl, v1_5, v2_5, -⟩ := EO.form q'.h; obtain ⟨Ds, ds, rfl, v1_6, v2_6, -⟩ := EO.form q'.s; unfold maxLen at u2_0 u2_1 u2_2 u2_3 u2_4 u2_5 u2_6 v2_0 v2_1 v2_2 v2_3 v2_4 v2_5 v2_6; have hfew := hF.few; have gfew := hG.few; obtain ⟨o_c, o_d, hbw⟩ := new2 w [.slice Aa C.attrs.length ca, .slice At C.toks.length ct, .slice Ax C.texts.length cx, .slice Ar C.regs.length cr, .slice An C.nodes.length cn9, .slice Ah C.heads.length ch, .slice As C.rels.length cs] [.slice Da D.attrs.length da, .slice Dt D.toks.length dt, .slice Dx D.texts.length dx, .slice Dr D.regs.length dr, .slice Dn D.nodes.length dn, .slice Dh D.heads.length dh, .slice Ds D.rels.length ds] 30 30
 have HQ := Z' (q.below hbw); have HR := Z' (q'.below hbw); have hsz : ((w.alloc (.cells #[.slice Aa C.attrs.length ca, .slice At C.toks.length ct, .slice Ax C.texts.length cx, .slice Ar C.regs.length cr, .slice An C.nodes.length cn9, .slice Ah C.heads.length ch, .slice As C.rels.length cs] 30)).alloc (.cells #[.slice Da D.attrs.length da, .slice Dt D.toks.length dt, .slice Dx D.texts.length dx, .slice Dr D.regs.length dr, .slice Dn D.nodes.length dn, .slice Dh D.heads.length dh, .slice Ds D.rels.length ds] 30)).heap.size = w.heap.size + 1 + 1 := by simp
 go_enter Tryz.func11, Tryz.ntmps11
 go_upto_region 1 with (fail)
 generalize ((w.alloc (.cells #[.slice Aa C.attrs.length ca, .slice At C.toks.length ct, .slice Ax C.texts.length cx, .slice Ar C.regs.length cr, .slice An C.nodes.length cn9, .slice Ah C.heads.length ch, .slice As C.rels.length cs] 30)).alloc (.cells #[.slice Da D.attrs.length da, .slice Dt D.toks.length dt, .slice Dx D.texts.length dx, .slice Dr D.regs.length dr, .slice Dn D.nodes.length dn, .slice Dh D.heads.length dh, .slice Ds D.rels.length ds] 30)) = wb at o_c o_d hbw hsz HQ HR |-; obtain ⟨B, hB⟩ : ∃ B, B = w.heap.size := ⟨_, rfl⟩; rw [<- hB] at o_c o_d hsz hbw |-; have HB := Z' hB; clear hB q q'; have b0 := o_c.c0; have e0 := o_d.c0
 by_cases hc1 : at_ < 0
 ·have d1 : decide (at_ < 0) = true := decide_eq_true hc1; have HC : Hid (at_ < 0 \/ (C.attrs.length : Int) <= at_ \/ (D.attrs.length : Int) <= at_) := .inl hc1; clear hc1
  go_wp2
  exact bodyPost_ret (v := .tuple #[.slice none 0 0, .int .i64 1]) (by simp [results, Tryz.results11, go_sem]) rfl ⟨HB.out ▸ .arg HC.out, HB.out ▸ hbw⟩
 have d1 : decide (at_ < 0) = false := decide_eq_false hc1
 by_cases hc2 : (C.attrs.length : Int) <= at_
 ·have d2 : decide ((C.attrs.length : Int) <= at_) = true := decide_eq_true hc2; have HC : Hid (at_ < 0 \/ (C.attrs.length : Int) <= at_ \/ (D.attrs.length : Int) <= at_) := .inr (.inl hc2); clear hc2
  go_wp2
  exact bodyPost_ret (v := .tuple #[.slice none 0 0, .int .i64 1]) (by simp [results, Tryz.results11, go_sem]) rfl ⟨HB.out ▸ .arg HC.out, HB.out ▸ hbw⟩
 have d2 : decide ((C.attrs.length : Int) <= at_) = false := decide_eq_false hc2
 by_cases hc3 : (D.attrs.length : Int) <= at_
 ·have d3 : decide ((D.attrs.length : Int) <= at_) = true := decide_eq_true hc3; have HC : Hid (at_ < 0 \/ (C.attrs.length : Int) <= at_ \/ (D.attrs.length : Int) <= at_) := .inr (.inr hc3); clear hc3
  go_wp2
  exact bodyPost_ret (v := .tuple #[.slice none 0 0, .int .i64 1]) (by simp [results, Tryz.results11, go_sem]) rfl ⟨HB.out ▸ .arg HC.out, HB.out ▸ hbw⟩
 have d3 : decide ((D.attrs.length : Int) <= at_) = false := decide_eq_false hc3; have HC : Hid (¬ (at_ < 0 \/ (C.attrs.length : Int) <= at_ \/ (D.attrs.length : Int) <= at_)) := fun h => h.elim hc1 fun h => h.elim hc2 fun h => hc3 h
 go_upto_region 3 with (fail)
 clear d1 d2 d3; obtain ⟨j, rfl⟩ : ∃ j : Nat, at_ = (j : Int) := ⟨at_.toNat, by omega⟩; have HJ : Hid (∀ row ∈ C.toks, j < row.length) := fun row hr => by have := hF.wide row hr; omega
 have HJD : Hid (∀ row ∈ D.toks, j < row.length) := fun row hr => by have := hG.wide row hr; omega
 clear hc1 hc2 hc3 hat1 hF hG
 by_cases hlen : C.attrs.length = D.attrs.length
 ·skip
  have ue : (((C.attrs.length : Int) : Int) == ((D.attrs.length : Int) : Int)) = true := beq_iff_eq.2 (by omega); have ud : (((C.attrs.length : Int) : Int) != ((D.attrs.length : Int) : Int)) = false := by rw [bne_eq_false_iff_eq]; omega
  have une : ((C.attrs.length : Nat) == (D.attrs.length : Nat)) = true := beq_iff_eq.2 (by omega); have und : ((C.attrs.length : Nat) != (D.attrs.length : Nat)) = false := by rw [bne_eq_false_iff_eq]; omega
  have HL := Z' hlen; clear hlen
  go_upto_region 5 with (fail)
  clear ue ud une und
  go_wp2_with fail
  clear b0 e0
  go_loopg [42] (C.attrs.length + 1) (fun q v wr => ∃ i : Nat, q = C.attrs.length + 1 - i /\ i <= C.attrs.length /\ v = .int .i64 (i : Int) /\ Hid (∀ k (h : k < C.attrs.length) (h' : k < D.attrs.length), k < i -> C.attrs[k] = D.attrs[k]) /\ Below (B + 1 + 1) wb wr)
  case atStart => exact ⟨0, rfl, Nat.zero_le _, rfl, fun _ _ _ h => absurd h (Nat.not_lt_zero _), Below.refl _ _⟩
  case round =>
   obtain ⟨i, rfl, hi, rfl, HE, hbr⟩ := hrel; have hwr := hbr.size; have HQr := Z' (HQ.out.below (hsz ▸ hbr)); have HRr := Z' (HR.out.below (hsz ▸ hbr)); have o_cr := o_c.below hbr (by omega); have o_dr := o_d.below hbr (by omega)
   by_cases hlt : i < C.attrs.length
   ·skip
    have hlt' : i < D.attrs.length := by have := HL.out; omega
    obtain ⟨b, off, rfl, -, k0, k1, -⟩ := AttrsO.get HQr.out.a hlt; obtain ⟨b2, off2, rfl, -, k2, k3, -⟩ := AttrsO.get HRr.out.a hlt'; obtain ⟨P, hP⟩ : ∃ P, P = C.attrs[i] := ⟨_, rfl⟩; obtain ⟨Q, hQ⟩ : ∃ Q, Q = D.attrs[i] := ⟨_, rfl⟩; rw [<- hP] at k0 k1; rw [<- hQ] at k2 k3; have HP := Z' hP; have HQQ := Z' hQ; clear hP hQ; obtain ⟨p1, p2⟩ := P; obtain ⟨q1, q2⟩ := Q
    dsimp only at k0 k1 k2 k3
    have b0 := o_cr.c0; have e0 := o_dr.c0
    go_upto_region 8 with (fail)
    by_cases he : p1 = q1 /\ p2 = q2
    ·obtain ⟨rfl, rfl⟩ := he; have d1 : (p1.toList == p1.toList) = true := by rw [str_beq]; exact decide_eq_true rfl
     refine wp_reg_f [some 45, some 46, some 47, some 48, some 49, some 50, some 51, some 52, some 53, some 54, some 55] [?v5_0, ?v5_1, ?v5_2, ?v5_3, ?v5_4, ?v5_5, ?v5_6, ?v5_7, ?v5_8, ?v5_9, ?v5_10] [[], [0], [], [1, 2], [3], [], [5], [], [6, 7], [8], [4, 9]] [(3, _), (4, _), (8, _)] ⟨rfl, rfl, rfl, trivial⟩ rfl (by kernel_rfl) rfl rfl (by kernel_rfl) (by kernel_rfl) ⟨?s5_0, ?s5_1, ?s5_2, ?s5_3, ?s5_4, ?s5_5, ?s5_6, ?s5_7, ?s5_8, ?s5_9, ?s5_10, trivial⟩ ?p5
     all_goals try (intro t9 w9 hT9 K9 hK9; simp only [OV, FV, List.getD_cons_succ, List.getD_cons_zero, Option.getD_some]; intros)
     case s5_0 | s5_1 | s5_2 | s5_3 | s5_4 | s5_5 | s5_6 | s5_7 | s5_8 | s5_9 | s5_10 =>
      have d9_0 := grow_cell hT9 b0; have d9_1 := grow_cell hT9 e0; have d9_2 := grow_cell hT9 k0; have d9_3 := grow_cell hT9 k1; have d9_4 := grow_cell hT9 k2; have d9_5 := grow_cell hT9 k3
      go_simp; exact hK9 _ (Grow.refl _)
     intro w9 hb9
     simp only [putL, Act.put, List.setIfInBounds_toArray, List.set_cons_succ, List.set_cons_zero]
     go_wp2
     clear d1 k0 k1 k2 k3 b0 e0
     go_roundg (C.attrs.length + 1 - (i + 1))
     case measure => omega
     case rel => exact ⟨i + 1, rfl, by omega, by go_num, fun k h h' hi => if e : k = i then by subst e; rw [<- HP.out, <- HQQ.out] else HE.out k h h' (by omega), belowB hbr (by omega) hb9⟩
    ·have HNE : Hid (¬ C.attrs = D.attrs) := fun e => by
      have e8 : C.attrs[i]? = D.attrs[i]? := by rw [e]
      rw [List.getElem?_eq_getElem hlt, List.getElem?_eq_getElem hlt'] at e8; have e9 := (HP.out.trans (Option.some.inj e8)).trans HQQ.out.symm
      injection e9 with e1 e2
      exact he ⟨e1, e2⟩
     by_cases h1 : p1 = q1
     ·have d0 : ¬ p2 = q2 := fun e => he ⟨h1, e⟩; clear he; subst h1; refine wp_reg_f [some 45, some 46, some 47, some 48, some 49, some 50, some 51, some 52, some 53, some 54, some 55] [?v6_0, ?v6_1, ?v6_2, ?v6_3, ?v6_4, ?v6_5, ?v6_6, ?v6_7, ?v6_8, ?v6_9, ?v6_10] [[], [0], [], [1, 2], [3], [], [5], [], [6, 7], [8], [4, 9]] [(3, _), (4, _), (8, _)] ⟨rfl, rfl, rfl, trivial⟩ rfl (by kernel_rfl) rfl rfl (by kernel_rfl) (by kernel_rfl) ⟨?s6_0, ?s6_1, ?s6_2, ?s6_3, ?s6_4, ?s6_5, ?s6_6, ?s6_7, ?s6_8, ?s6_9, ?s6_10, trivial⟩ ?p6
      all_goals try (intro t9 w9 hT9 K9 hK9; simp only [OV, FV, List.getD_cons_succ, List.getD_cons_zero, Option.getD_some]; intros)
      case s6_0 | s6_1 | s6_2 | s6_3 | s6_4 | s6_5 | s6_6 | s6_7 | s6_8 | s6_9 | s6_10 =>
       have d9_0 := grow_cell hT9 b0; have d9_1 := grow_cell hT9 e0; have d9_2 := grow_cell hT9 k0; have d9_3 := grow_cell hT9 k1; have d9_4 := grow_cell hT9 k2; have d9_5 := grow_cell hT9 k3
       go_simp; exact hK9 _ (Grow.refl _)
      intro w9 hb9
      simp only [putL, Act.put, List.setIfInBounds_toArray, List.set_cons_succ, List.set_cons_zero]
      clear d0
      go_wp2
      exact bodyPost_ret (v := .tuple #[.slice none 0 0, .int .i64 17]) (by simp [results, Tryz.results11, go_sem]) rfl ⟨HB.out ▸ .type HC.out HNE.out, HB.out ▸ hbw.trans ((belowB hbr (by omega) hb9).mono (by omega))⟩
     ·have d0 : ¬ p1.toList = q1.toList := fun e => h1 (bytes_ext (by rw [<- ByteArray.toList_eq, e, ByteArray.toList_eq])); clear he h1; refine wp_reg_f [some 45, some 46, some 47, some 48, some 49, some 50, some 51, some 52, some 53, some 54, some 55] [?v7_0, ?v7_1, ?v7_2, ?v7_3, ?v7_4, ?v7_5, ?v7_6, ?v7_7, ?v7_8, ?v7_9, ?v7_10] [[], [0], [], [1, 2], [3], [], [5], [], [6, 7], [8], [4, 9]] [(3, _), (4, _), (8, _)] ⟨rfl, rfl, rfl, trivial⟩ rfl (by kernel_rfl) rfl rfl (by kernel_rfl) (by kernel_rfl) ⟨?s7_0, ?s7_1, ?s7_2, ?s7_3, ?s7_4, ?s7_5, ?s7_6, ?s7_7, ?s7_8, ?s7_9, ?s7_10, trivial⟩ ?p7
      all_goals try (intro t9 w9 hT9 K9 hK9; simp only [OV, FV, List.getD_cons_succ, List.getD_cons_zero, Option.getD_some]; intros)
      case s7_0 | s7_1 | s7_2 | s7_3 | s7_4 | s7_5 | s7_6 | s7_7 | s7_8 | s7_9 | s7_10 =>
       have d9_0 := grow_cell hT9 b0; have d9_1 := grow_cell hT9 e0; have d9_2 := grow_cell hT9 k0; have d9_3 := grow_cell hT9 k1; have d9_4 := grow_cell hT9 k2; have d9_5 := grow_cell hT9 k3
       go_simp; exact hK9 _ (Grow.refl _)
      intro w9 hb9
      simp only [putL, Act.put, List.setIfInBounds_toArray, List.set_cons_succ, List.set_cons_zero]
      clear d0
      go_wp2
      exact bodyPost_ret (v := .tuple #[.slice none 0 0, .int .i64 17]) (by simp [results, Tryz.results11, go_sem]) rfl ⟨HB.out ▸ .type HC.out HNE.out, HB.out ▸ hbw.trans ((belowB hbr (by omega) hb9).mono (by omega))⟩
   ·skip
    have HEQ : Hid (C.attrs = D.attrs) := List.ext_getElem HL.out fun k h h' => HE.out k h h' (by omega); clear HE HQ HR o_c o_d HL; obtain ⟨w1, hw1⟩ : ∃ x, x = wr := ⟨_, rfl⟩; rw [<- hw1] at hbr hwr HQr HRr o_cr o_dr |-; clear hw1; have hbB1 : Below B w w1 := hbw.trans (hbr.mono (by omega)); have b1 := o_cr.c1; have e1 := o_dr.c1
    by_cases hz1 : C.toks.length = 0
    ·skip
     have HZ : Hid (C.toks.length = 0 \/ D.toks.length = 0) := .inl hz1; have f1e : (((C.toks.length : Int) : Int) == (0 : Int)) = true := beq_iff_eq.2 (by omega); have f1d : (((C.toks.length : Int) : Int) != (0 : Int)) = false := by rw [bne_eq_false_iff_eq]; omega
     have f1ne : ((C.toks.length : Nat) == (0 : Nat)) = true := beq_iff_eq.2 (by omega); have f1nd : ((C.toks.length : Nat) != (0 : Nat)) = false := by rw [bne_eq_false_iff_eq]; omega
     clear hz1
     go_wp2
     exact bodyPost_ret (v := .tuple #[.slice none 0 0, .int .i64 14]) (by simp [results, Tryz.results11, go_sem]) rfl ⟨HB.out ▸ .value HC.out HEQ.out HZ.out, HB.out ▸ hbB1⟩
    have f1e : (((C.toks.length : Int) : Int) == (0 : Int)) = false := beq_eq_false_iff_ne.2 (by omega); have f1d : (((C.toks.length : Int) : Int) != (0 : Int)) = true := by rw [bne_iff_ne]; omega
    have f1ne : ((C.toks.length : Nat) == (0 : Nat)) = false := beq_eq_false_iff_ne.2 (by omega); have f1nd : ((C.toks.length : Nat) != (0 : Nat)) = true := by rw [bne_iff_ne]; omega
    by_cases hz2 : D.toks.length = 0
    ·skip
     have HZ : Hid (C.toks.length = 0 \/ D.toks.length = 0) := .inr hz2; have f2e : (((D.toks.length : Int) : Int) == (0 : Int)) = true := beq_iff_eq.2 (by omega); have f2d : (((D.toks.length : Int) : Int) != (0 : Int)) = false := by rw [bne_eq_false_iff_eq]; omega
     have f2ne : ((D.toks.length : Nat) == (0 : Nat)) = true := beq_iff_eq.2 (by omega); have f2nd : ((D.toks.length : Nat) != (0 : Nat)) = false := by rw [bne_eq_false_iff_eq]; omega
     clear hz1 hz2
     go_wp2
     exact bodyPost_ret (v := .tuple #[.slice none 0 0, .int .i64 14]) (by simp [results, Tryz.results11, go_sem]) rfl ⟨HB.out ▸ .value HC.out HEQ.out HZ.out, HB.out ▸ hbB1⟩
    have f2e : (((D.toks.length : Int) : Int) == (0 : Int)) = false := beq_eq_false_iff_ne.2 (by omega); have f2d : (((D.toks.length : Int) : Int) != (0 : Int)) = true := by rw [bne_iff_ne]; omega
    have f2ne : ((D.toks.length : Nat) == (0 : Nat)) = false := beq_eq_false_iff_ne.2 (by omega); have f2nd : ((D.toks.length : Nat) != (0 : Nat)) = true := by rw [bne_iff_ne]; omega
    have HZ : Hid (¬ (C.toks.length = 0 \/ D.toks.length = 0)) := by show ¬ _; omega
    go_upto_region 13 with (fail)
    clear f1e f1d f1ne f1nd f2e f2d f2ne f2nd hz1 hz2 e1
    go_wp2_with fail
    clear b1; obtain ⟨B5, hB5⟩ : ∃ B5, B5 = w1.heap.size := ⟨_, rfl⟩; have HB5 := Z' hB5; have hB51 : B + 1 + 1 <= B5 := by omega
    clear hB5; obtain ⟨cc, hcc⟩ : ∃ c, c = kwC C D j := ⟨_, rfl⟩; have H5 : Hid (∀ s, (cc s).length = 5) := by show ∀ s, _; rw [hcc]; exact fun _ => rfl
    have H1 : Hid (∀ s, ∀ v ∈ cc s, v.oneCell' = true) := by show ∀ s, _; rw [hcc]; exact kwC_one C D j
    have HCC := Z' hcc; clear hcc; obtain ⟨N, hN⟩ : ∃ N : Nat, N = C.toks.length + D.toks.length := ⟨_, rfl⟩; have HN := Z' hN; have zN : IntKind.i64.wrap ((C.toks.length : Int) + (D.toks.length : Int)) = (N : Int) := (IntWalk.i64_in _ (by omega)).trans (by omega); clear hN
    go_loopg [9, 70] (C.toks.length + 1) (fun q9 v8 v9 wr => ∃ (i m : Nat) (l : List ByteArray) (AL : Option Addr) (cL : Nat), q9 = C.toks.length + 1 - i /\ i <= C.toks.length /\ v9 = .int .i64 (i : Int) /\ v8 = .slice AL m cL /\ m <= i /\ Hid (m = l.length) /\ Hid (wr.ownsRow B5 49 5 (.slice AL m cL) m (flat5 cc l)) /\ Hid (Srt (ltK (cn (wordsOf C j)) (cn (wordsOf D j))) l) /\ Hid (∀ s, s ∈ l ↔ s ∈ (wordsOf C j).take i) /\ Below B5 w1 wr /\ B5 <= wr.heap.size)
    case atStart => exact ⟨0, 0, [], none, 0, rfl, Nat.zero_le _, rfl, rfl, Nat.le_refl _, rfl, World.ownsRow_nil _ _ _ _, List.Pairwise.nil, (fun s => by simp), Below.refl _ _, by have := HB5.out; omega⟩
    case round =>
     obtain ⟨i, m, l, A, c, rfl, hi, rfl, rfl, hmi, HML, HRW, HSR, HME, hb5, hw5⟩ := hrel; have o_r5 := o_cr.below hb5 (by omega); have o_s5 := o_dr.below hb5 (by omega)
     by_cases hlti : i < C.toks.length
     ·skip
      have hji := HJ.out _ (List.getElem_mem hlti); have HQ5 := Z' (HQr.out.below (HB5.out ▸ hb5)); have HR5 := Z' (HRr.out.below (HB5.out ▸ hb5)); obtain ⟨bk, ok, v, hAt, -, k0, hv⟩ := RowsO.get HQ5.out.t hlti; subst hAt; obtain ⟨Av, cv, rfl, u3, u4, hv2⟩ := EO.form hv; obtain ⟨b2, off2, rfl, -, k1, hzs⟩ := StrsO.get hv2 hji; have HW := Z' (wordsOf_get hlti hji); unfold maxLen at u4; clear hv hv2; generalize C.toks[i][j] = sw at k1 HW hzs; generalize C.toks[i].length = nr at k0 u3 hji; obtain ⟨y0, y1, y2, y3, y4, y5, y6⟩ := o_r5.cells7
      go_wp2_with fail
      clear k0 k1 u3 u4 hji hzs y0 y1 y2 y3 y4 y5 y6; refine (count_nil wr HQ5.out j HJ hfew sw).mono ?_; rintro e w3 ⟨rfl, hb3⟩; obtain ⟨n1, hn1⟩ : ∃ n, n = cn (wordsOf C j) sw := ⟨_, rfl⟩; obtain ⟨n2, hn2⟩ : ∃ n, n = cn (wordsOf D j) sw := ⟨_, rfl⟩; have hn1l : n1 <= 1000 := by have := cn_le (wordsOf C j) sw; rw [wordsOf_length] at this; omega
      have hn2l : n2 <= 1000 := by have := cn_le (wordsOf D j) sw; rw [wordsOf_length] at this; omega
      rw [<- hn1]; have HN1 := Z' hn1; have HN2 := Z' hn2; clear hn1 hn2; obtain ⟨b3, hb9⟩ : ∃ b : Nat, b = n1 + n2 := ⟨_, rfl⟩; have HB3 := Z' hb9; have zb : IntKind.i64.wrap ((n1 : Int) + (n2 : Int)) = (b3 : Int) := (IntWalk.i64_in _ (by omega)).trans (by omega); clear hb9; have HC5 : Hid (cc sw = [.string sw, .int .i64 (n1 : Int), .int .i64 (C.toks.length : Int), .int .i64 (b3 : Int), .int .i64 (N : Int)]) := by show _ = _; rw [HCC.out, HN1.out, HB3.out, HN1.out, HN2.out, HN.out]; rfl
      have hbr3 := hb5.trans (hb3.mono hw5); have o_r3 := o_r5.below hb3 (by omega); have o_s3 := o_s5.below hb3 (by omega); have HR3 := Z' (HR5.out.below hb3); have HRW3 := Z' (ownsRow_below HRW.out hb3); have hw3 := hb3.size; clear HRW o_r5 o_s5 HQ5 HR5 hb3 hb5
      go_upto_region 19 with (fail)
      obtain ⟨wr2, hwr2⟩ : ∃ x, x = w3 := ⟨_, rfl⟩; rw [<- hwr2] at hbr3 o_r3 o_s3 HR3 HRW3 hw3 |-; clear hwr2; obtain ⟨B9, hB9⟩ : ∃ B9, B9 = wr2.heap.size := ⟨_, rfl⟩; have HB9 := Z' hB9; have hs9 : B9 <= wr2.heap.size := Nat.le_of_eq hB9; have hB59 : B5 <= B9 := by omega
      clear hB9; have y1 := o_r3.c1; refine wp_reg_m (fun a b => Below B9 a b) (fun L u w8 => XK B9 [.string sw, .int .i64 (n1 : Int), .int .i64 (C.toks.length : Int), .int .i64 (b3 : Int), .int .i64 (N : Int)] (L 20) (L 21) (u 20) w8) ((fun a => Below.refl _ a)) ((fun _ _ _ h h' => h.trans h')) [some 82, some 83, some 84, some 85, some 86, some 87, some 88, some 89, some 90, some 91, some 92, some 93, some 94, some 95, some 96, some 97, some 98, some 99, some 100, some 101, some 14, none] [isV ?v1_0, isV ?v1_1, isV ?v1_2, isV ?v1_3, isV ?v1_4, isV ?v1_5, isV ?v1_6, isV ?v1_7, isV ?v1_8, isV (.int .i64 (n2 : Int)), isV (.int .i64 (b3 : Int)), isV ?v1_11, isV ?v1_12, isV ?v1_13, isV ?v1_14, isV ?v1_15, isV ?v1_16, isV (.int .i64 (N : Int)), isV ?v1_18, isV ?v1_19, (fun _ _ => True), anyV] rfl (by kernel_rfl) rfl rfl ?n1 ?k1 ⟨?s1_0, ?s1_1, ?s1_2, ?s1_3, ?s1_4, ?s1_5, ?s1_6, ?s1_7, ?s1_8, ?s1_9, ?s1_10, ?s1_11, ?s1_12, ?s1_13, ?s1_14, ?s1_15, ?s1_16, ?s1_17, ?s1_18, ?s1_19, ?s1_20, ?s1_21, trivial⟩ ?p1
      case s1_0 =>
       intro L9 u9 t9 w9 hT9 hL9 hD9 hV9 hO9 hM9 K9 hK9; have o9_12 := hO9.l 12; clear hV9 hO9; clear hL9 hD9; go_simp
       (refine hK9 _ _ ((fun a => Below.refl _ a) w9) ?_ hM9; exact rfl)
      case s1_1 =>
       intro L9 u9 t9 w9 hT9 hL9 hD9 hV9 hO9 hM9 K9 hK9; have o9_13 := hO9.l 13; clear hV9 hO9; clear hL9 hD9; go_simp
       (refine hK9 _ _ ((fun a => Below.refl _ a) w9) ?_ hM9; exact rfl)
      case s1_2 =>
       intro L9 u9 t9 w9 hT9 hL9 hD9 hV9 hO9 hM9 K9 hK9; have o9_3 := hO9.l 3; clear hV9 hO9; clear hL9 hD9; go_simp
       (refine hK9 _ _ ((fun a => Below.refl _ a) w9) ?_ hM9; exact rfl)
      case s1_3 =>
       intro L9 u9 t9 w9 hT9 hL9 hD9 hV9 hO9 hM9 K9 hK9; have p9_2 : t9[84]? = some ?v1_2 := hV9.l 2 84; clear hV9 hO9; clear hL9 hD9; have y9_1 := Below.cell (w := wr2.drew) hT9 (show B < B9 by omega) |>.trans y1
       obtain ⟨d9_0, d9_1, d9_2, d9_3, d9_4, d9_5, d9_6⟩ := (Own.below (w := wr2.drew) o_s3 hT9 (by omega)).cells7; go_simp
       (refine hK9 _ _ ((fun a => Below.refl _ a) w9) ?_ hM9; exact rfl)
      case s1_4 =>
       intro L9 u9 t9 w9 hT9 hL9 hD9 hV9 hO9 hM9 K9 hK9; have p9_3 : t9[85]? = some ?v1_3 := hV9.l 3 85; clear hV9 hO9; clear hL9 hD9; go_simp
       (refine hK9 _ _ ((fun a => Below.refl _ a) w9) ?_ hM9; exact rfl)
      case s1_5 =>
       intro L9 u9 t9 w9 hT9 hL9 hD9 hV9 hO9 hM9 K9 hK9; have o9_13 := hO9.l 13; clear hV9 hO9; clear hL9 hD9; go_simp
       (refine hK9 _ _ ((fun a => Below.refl _ a) w9) ?_ hM9; exact rfl)
      case s1_6 =>
       intro L9 u9 t9 w9 hT9 hL9 hD9 hV9 hO9 hM9 K9 hK9; have o9_4 := hO9.l 4; clear hV9 hO9; clear hL9 hD9; have y9_1 := Below.cell (w := wr2.drew) hT9 (show B < B9 by omega) |>.trans y1
       obtain ⟨d9_0, d9_1, d9_2, d9_3, d9_4, d9_5, d9_6⟩ := (Own.below (w := wr2.drew) o_s3 hT9 (by omega)).cells7; go_simp
       (refine hK9 _ _ ((fun a => Below.refl _ a) w9) ?_ hM9; exact rfl)
      case s1_7 =>
       intro L9 u9 t9 w9 hT9 hL9 hD9 hV9 hO9 hM9 K9 hK9; have o9_2 := hO9.l 2; clear hV9 hO9; clear hL9 hD9; go_simp
       (refine hK9 _ _ ((fun a => Below.refl _ a) w9) ?_ hM9; exact rfl)
      case s1_8 =>
       intro L9 u9 t9 w9 hT9 hL9 hD9 hV9 hO9 hM9 K9 hK9; have o9_12 := hO9.l 12; clear hV9 hO9; clear hL9 hD9; go_simp
       (refine hK9 _ _ ((fun a => Below.refl _ a) w9) ?_ hM9; exact rfl)
      case s1_9 =>
       intro L9 u9 t9 w9 hT9 hL9 hD9 hV9 hO9 hM9 K9 hK9; have p9_6 : t9[88]? = some ?v1_6 := hV9.l 6 88; have p9_7 : t9[89]? = some ?v1_7 := hV9.l 7 89; have p9_8 : t9[90]? = some ?v1_8 := hV9.l 8 90; clear hV9 hO9; have q9 := (HR3.out.chg (Chg.refl S' wr2).drew).chg (Chg.of_below hT9 fun k h1 h2 => by have h3 : k < wr2.heap.size := h1; have := HB9.out; omega); go_simp; refine (count_nil w9 q9 j HJD gfew sw).mono ?_; rintro _ w8 ⟨rfl, hb8⟩; exact hK9 _ _ (hb8.mono (by have := hM9.hs; exact this)) (by rw [HN2.out]) (hM9.next hb8)
      case s1_10 =>
       intro L9 u9 t9 w9 hT9 hL9 hD9 hV9 hO9 hM9 K9 hK9; have p9_5 : t9[87]? = some ?v1_5 := hV9.l 5 87; have p9_9 : t9[91]? = some ((.int .i64 (n2 : Int))) := hV9.l 9 91; clear hV9 hO9; clear hL9 hD9; go_simp
       (refine hK9 _ _ ((fun a => Below.refl _ a) w9) ?_ hM9; exact rfl)
      case s1_11 =>
       intro L9 u9 t9 w9 hT9 hL9 hD9 hV9 hO9 hM9 K9 hK9; have o9_3 := hO9.l 3; clear hV9 hO9; clear hL9 hD9; go_simp
       (refine hK9 _ _ ((fun a => Below.refl _ a) w9) ?_ hM9; exact rfl)
      case s1_12 =>
       intro L9 u9 t9 w9 hT9 hL9 hD9 hV9 hO9 hM9 K9 hK9; have p9_11 : t9[93]? = some ?v1_11 := hV9.l 11 93; clear hV9 hO9; clear hL9 hD9; have y9_1 := Below.cell (w := wr2.drew) hT9 (show B < B9 by omega) |>.trans y1
       obtain ⟨d9_0, d9_1, d9_2, d9_3, d9_4, d9_5, d9_6⟩ := (Own.below (w := wr2.drew) o_s3 hT9 (by omega)).cells7; go_simp
       (refine hK9 _ _ ((fun a => Below.refl _ a) w9) ?_ hM9; exact rfl)
      case s1_13 =>
       intro L9 u9 t9 w9 hT9 hL9 hD9 hV9 hO9 hM9 K9 hK9; have p9_12 : t9[94]? = some ?v1_12 := hV9.l 12 94; clear hV9 hO9; clear hL9 hD9; go_simp
       (refine hK9 _ _ ((fun a => Below.refl _ a) w9) ?_ hM9; exact rfl)
      case s1_14 =>
       intro L9 u9 t9 w9 hT9 hL9 hD9 hV9 hO9 hM9 K9 hK9; have o9_4 := hO9.l 4; clear hV9 hO9; clear hL9 hD9; go_simp
       (refine hK9 _ _ ((fun a => Below.refl _ a) w9) ?_ hM9; exact rfl)
      case s1_15 =>
       intro L9 u9 t9 w9 hT9 hL9 hD9 hV9 hO9 hM9 K9 hK9; have p9_14 : t9[96]? = some ?v1_14 := hV9.l 14 96; clear hV9 hO9; clear hL9 hD9; have y9_1 := Below.cell (w := wr2.drew) hT9 (show B < B9 by omega) |>.trans y1
       obtain ⟨d9_0, d9_1, d9_2, d9_3, d9_4, d9_5, d9_6⟩ := (Own.below (w := wr2.drew) o_s3 hT9 (by omega)).cells7; go_simp
       (refine hK9 _ _ ((fun a => Below.refl _ a) w9) ?_ hM9; exact rfl)
      case s1_16 =>
       intro L9 u9 t9 w9 hT9 hL9 hD9 hV9 hO9 hM9 K9 hK9; have p9_15 : t9[97]? = some ?v1_15 := hV9.l 15 97; clear hV9 hO9; clear hL9 hD9; go_simp
       (refine hK9 _ _ ((fun a => Below.refl _ a) w9) ?_ hM9; exact rfl)
      case s1_17 =>
       intro L9 u9 t9 w9 hT9 hL9 hD9 hV9 hO9 hM9 K9 hK9; have p9_13 : t9[95]? = some ?v1_13 := hV9.l 13 95; have p9_16 : t9[98]? = some ?v1_16 := hV9.l 16 98; clear hV9 hO9; clear hL9 hD9; go_simp
       (refine hK9 _ _ ((fun a => Below.refl _ a) w9) ?_ hM9; exact rfl)
      case s1_18 =>
       intro L9 u9 t9 w9 hT9 hL9 hD9 hV9 hO9 hM9 K9 hK9; have p9_1 : t9[83]? = some ?v1_1 := hV9.l 1 83; have p9_4 : t9[86]? = some ?v1_4 := hV9.l 4 86; have p9_10 : t9[92]? = some ((.int .i64 (b3 : Int))) := hV9.l 10 92; have p9_17 : t9[99]? = some ((.int .i64 (N : Int))) := hV9.l 17 99; clear hV9 hO9; clear hL9 hD9; go_simp
       (refine hK9 _ _ ((fun a => Below.refl _ a) w9) ?_ hM9; exact rfl)
      case s1_19 =>
       intro L9 u9 t9 w9 hT9 hL9 hD9 hV9 hO9 hM9 K9 hK9; have p9_0 : t9[82]? = some ?v1_0 := hV9.l 0 82; have p9_18 : t9[100]? = some ?v1_18 := hV9.l 18 100; clear hV9 hO9; clear hL9 hD9; go_simp
       (refine hK9 _ _ ((fun a => Below.refl _ a) w9) ?_ hM9; exact rfl)
      case s1_20 =>
       intro L9 u9 t9 w9 hT9 hL9 hD9 hV9 hO9 hM9 K9 hK9; clear hV9 hO9; have l17 := bool_f hM9.h hL9; have M9 : Hid (XK B9 [.string sw, .int .i64 (n1 : Int), .int .i64 (C.toks.length : Int), .int .i64 (b3 : Int), .int .i64 (N : Int)] true (L9 21) (.pointer (some ⟨w9.heap.size, 0, none⟩)) (w9.alloc (.cells #[.string ⟨#[]⟩, .int .i64 0, .int .i64 0, .int .i64 0, .int .i64 0] 49))) := ⟨fun _ => rfl, fun _ => ⟨_, rfl, hM9.hs, fun _ => Own.new _ _ _, fun h => by rw [l17] at h; cases h⟩, Nat.le_trans hM9.hs (by simp)⟩; have hb9 : Below B9 w9 (w9.alloc (.cells #[.string ⟨#[]⟩, .int .i64 0, .int .i64 0, .int .i64 0, .int .i64 0] 49)) := ((Below.refl _ w9).alloc (Nat.le_refl _) _).mono hM9.hs; clear hM9 hL9 hD9 l17; go_simp; exact hK9 _ _ hb9 trivial M9.out
      case s1_21 =>
       intro L9 u9 t9 w9 hT9 hL9 hD9 hV9 hO9 hM9 K9 hK9; have p9_19 : t9[101]? = some ?v1_19 := hV9.l 19 101; obtain ⟨x9_20, p9_20, q9_20⟩ := hV9.g 20 14 rfl rfl (by kernel_rfl); obtain ⟨q9_20, e9_20⟩ := q9_20; replace q9_20 : ((fun _ _ => True)) x9_20 w9 := q9_20; clear hV9 hO9; obtain ⟨g9, eg9, h91, h92, -⟩ := hM9.a (hD9 20 rfl); rw [eg9] at e9_20; subst e9_20; have o9 := h92 hL9; obtain ⟨k90, k91, k92, k93, k94⟩ := o9.cells5; obtain ⟨f90, f91, f92, f93, f94⟩ := o9.frozens5; have o8 := (((((o9.set_ 0 (.string sw)).set_ 1 (.int .i64 (n1 : Int))).set_ 2 (.int .i64 (C.toks.length : Int))).set_ 3 (.int .i64 (b3 : Int))).set_ 4 (.int .i64 (N : Int))); have c9 : Below B9 w9 (((((w9.setCell ⟨g9, 0, none⟩ (.string sw)).setCell ⟨g9, 1, none⟩ (.int .i64 (n1 : Int))).setCell ⟨g9, 2, none⟩ (.int .i64 (C.toks.length : Int))).setCell ⟨g9, 3, none⟩ (.int .i64 (b3 : Int))).setCell ⟨g9, 4, none⟩ (.int .i64 (N : Int))) := ((((((Below.refl _ w9).setCell (p := ⟨g9, 0, none⟩) h91 _).setCell (p := ⟨g9, 1, none⟩) h91 _).setCell (p := ⟨g9, 2, none⟩) h91 _).setCell (p := ⟨g9, 3, none⟩) h91 _).setCell (p := ⟨g9, 4, none⟩) h91 _)
       have M9 : Hid (XK B9 [.string sw, .int .i64 (n1 : Int), .int .i64 (C.toks.length : Int), .int .i64 (b3 : Int), .int .i64 (N : Int)] (L9 20) true (u9 20) (((((w9.setCell ⟨g9, 0, none⟩ (.string sw)).setCell ⟨g9, 1, none⟩ (.int .i64 (n1 : Int))).setCell ⟨g9, 2, none⟩ (.int .i64 (C.toks.length : Int))).setCell ⟨g9, 3, none⟩ (.int .i64 (b3 : Int))).setCell ⟨g9, 4, none⟩ (.int .i64 (N : Int)))) := ⟨fun _ => hD9 20 rfl, fun _ => ⟨g9, eg9, h91, (fun h => nomatch h), fun _ => o8⟩, Nat.le_trans hM9.hs c9.size⟩; clear hM9 hL9 hD9 o9 o8 h92; go_simp; exact hK9 undef _ c9 trivial M9.out
      case n1 =>
       intro L9 u9 h9; have h1 := h9 20 (by decide); have h2 := h9 21 (by decide)
       show XK B9 [.string sw, .int .i64 (n1 : Int), .int .i64 (C.toks.length : Int), .int .i64 (b3 : Int), .int .i64 (N : Int)] (L9 20) (L9 21) _ _
       rw [h1, h2]; exact ⟨(fun h => nomatch h), (fun h => nomatch h), hs9⟩
      case k1 =>
       intro i9 v9 w9 x9 h9 g9
       match i9, h9 with
       | 0, h9 => exact h9
       | 1, h9 => exact h9
       | 2, h9 => exact h9
       | 3, h9 => exact h9
       | 4, h9 => exact h9
       | 5, h9 => exact h9
       | 6, h9 => exact h9
       | 7, h9 => exact h9
       | 8, h9 => exact h9
       | 9, h9 => exact h9
       | 10, h9 => exact h9
       | 11, h9 => exact h9
       | 12, h9 => exact h9
       | 13, h9 => exact h9
       | 14, h9 => exact h9
       | 15, h9 => exact h9
       | 16, h9 => exact h9
       | 17, h9 => exact h9
       | 18, h9 => exact h9
       | 19, h9 => exact h9
       | 20, h9 => (replace h9 : (fun _ _ => True) v9 w9 := h9); exact trivial
       | 21, h9 => exact h9
       | _ + 22, h9 => exact trivial
      intro u9 w9 hE9 hM9 hu9; have r9_0 : u9 0 = ?v1_0 := hu9 0 (by decide); have r9_1 : u9 1 = ?v1_1 := hu9 1 (by decide); have r9_2 : u9 2 = ?v1_2 := hu9 2 (by decide); have r9_3 : u9 3 = ?v1_3 := hu9 3 (by decide); have r9_4 : u9 4 = ?v1_4 := hu9 4 (by decide); have r9_5 : u9 5 = ?v1_5 := hu9 5 (by decide); have r9_6 : u9 6 = ?v1_6 := hu9 6 (by decide); have r9_7 : u9 7 = ?v1_7 := hu9 7 (by decide); have r9_8 : u9 8 = ?v1_8 := hu9 8 (by decide); have r9_9 : u9 9 = (.int .i64 (n2 : Int)) := hu9 9 (by decide); have r9_10 : u9 10 = (.int .i64 (b3 : Int)) := hu9 10 (by decide); have r9_11 : u9 11 = ?v1_11 := hu9 11 (by decide); have r9_12 : u9 12 = ?v1_12 := hu9 12 (by decide); have r9_13 : u9 13 = ?v1_13 := hu9 13 (by decide); have r9_14 : u9 14 = ?v1_14 := hu9 14 (by decide); have r9_15 : u9 15 = ?v1_15 := hu9 15 (by decide); have r9_16 : u9 16 = ?v1_16 := hu9 16 (by decide); have r9_17 : u9 17 = (.int .i64 (N : Int)) := hu9 17 (by decide)
      have r9_18 : u9 18 = ?v1_18 := hu9 18 (by decide); have r9_19 : u9 19 = ?v1_19 := hu9 19 (by decide); have r9_20 : (fun _ _ => True) (u9 20) w9 := hu9 20 (by decide); clear hu9
      simp only [putAll, Act.put, List.setIfInBounds_toArray, List.set_cons_succ, List.set_cons_zero, List.getD_cons_succ, List.getD_cons_zero, Nat.reduceAdd, Nat.zero_add]
      simp only [r9_0, r9_1, r9_2, r9_3, r9_4, r9_5, r9_6, r9_7, r9_8, r9_9, r9_10, r9_11, r9_12, r9_13, r9_14, r9_15, r9_16, r9_17, r9_18, r9_19]
      clear r9_0 r9_1 r9_2 r9_3 r9_4 r9_5 r9_6 r9_7 r9_8 r9_9 r9_10 r9_11 r9_12 r9_13 r9_14 r9_15 r9_16 r9_17 r9_18 r9_19; obtain ⟨gx, e16, hgx, -, hxx⟩ := hM9.a rfl; have o_x := hxx rfl
      simp only [e16]
      clear hM9 r9_20 e16 hxx y1 HR3 zb; have hbx : Below B9 wr2 w9 := (Below.refl B9 wr2).drew.trans hE9; have HRW6 := Z' (ownsRow_chg HRW3.out (S := fun k => B9 <= k) (Chg.of_below hbx fun k _ e => e) (fun b hb e => by have := (HRW3.out.lt b hb); have := HB9.out; omega)); have o_r6 := o_r3.below hbx (by omega); have o_s6 := o_s3.below hbx (by omega); have hb6 : Below B5 w1 w9 := hbr3.trans (hbx.mono hB59); have hw6 := hbx.size; clear hE9 hbx HRW3 o_r3 o_s3 hbr3; obtain ⟨w6, hw66⟩ : ∃ x, x = w9 := ⟨_, rfl⟩; rw [<- hw66] at o_x HRW6 o_r6 o_s6 hb6 hw6 |-; clear hw66; have hgx2 := o_x.lt; have hcc9 : m <= c /\ c <= maxLen := by
       obtain ⟨_, _, e9, h1, h2⟩ := own_form HRW6.out
       injection e9 with _ _ e9
       subst e9; exact ⟨h1, h2⟩
      go_upto_block 4 with (fail)
      go_cut [15] from 104 to 126 (fun s15 wx => ∃ k : Nat, s15 = .int .i64 (k : Int) /\ k <= m /\ Hid (∀ y ∈ l.drop k, ltK (cn (wordsOf C j)) (cn (wordsOf D j)) sw y = true) /\ Hid (∀ y, 0 < k -> l[k - 1]? = some y -> ltK (cn (wordsOf C j)) (cn (wordsOf D j)) sw y = false) /\ Below w6.heap.size w6 wx)
      case first =>
       go_wp2_with fail
       go_loopg [15] (m + 1) (fun q9 v9 wr => ∃ k : Nat, q9 = k + 1 /\ k <= m /\ v9 = .int .i64 (k : Int) /\ Hid (∀ y ∈ l.drop k, ltK (cn (wordsOf C j)) (cn (wordsOf D j)) sw y = true) /\ Below w6.heap.size w6 wr)
       case atStart => exact ⟨m, rfl, Nat.le_refl _, rfl, (fun y hy => by rw [HML.out, List.drop_length] at hy; cases hy), Below.refl _ _⟩
       case round =>
        obtain ⟨k, rfl, hk, rfl, HDR, hb7⟩ := hrel; have hw7 := hb7.size; have o_x7 := o_x.below hb7 hgx2; have HRW7 := Z' (ownsRow_below HRW6.out hb7); have hb66 := hb7; clear hb7
        by_cases hk0 : k = 0
        ·skip
         obtain ⟨Bk, hBk⟩ : ∃ B, B = wr.heap.size := ⟨_, rfl⟩; have HBk := Z' hBk; clear hBk; have dk : decide ((0 : Int) < (k : Int)) = false := decide_eq_false (by omega); have dkn : decide (0 < k) = false := decide_eq_false (by omega)
         go_upto_region 21 with (fail)
         refine wp_reg_t (fun a b => Below Bk a b) ((fun a => Below.refl _ a)) ((fun _ _ _ h h' => h.trans h')) [some 104, some 105, some 106, some 107, some 108, some 109, some 110, some 111, some 112, some 113, some 114, some 115, some 116, some 117, some 118, some 119, some 120, some 121, some 122, some 123, some 124] [isV ?v2_0, isV ?v2_1, isV ?v2_2, isV ?v2_3, isV ?v2_4, isV ?v2_5, isV ?v2_6, isV ?v2_7, isV ?v2_8, isV ?v2_9, isV ?v2_10, isV ?v2_11, isV ?v2_12, isV ?v2_13, isV ?v2_14, isV ?v2_15, isV ?v2_16, isV ?v2_17, isV ?v2_18, isV ?v2_19, isV ?v2_20] rfl (by kernel_rfl) rfl rfl ?k2 ⟨?s2_0, ?s2_1, ?s2_2, ?s2_3, ?s2_4, ?s2_5, ?s2_6, ?s2_7, ?s2_8, ?s2_9, ?s2_10, ?s2_11, ?s2_12, ?s2_13, ?s2_14, ?s2_15, ?s2_16, ?s2_17, ?s2_18, ?s2_19, ?s2_20, trivial⟩ ?p2
         case s2_0 =>
          intro t9 w9 hT9 hV9 hO9 K9 hK9; have o9_15 := hO9.l 15; clear hV9 hO9; go_simp
          (refine hK9 _ _ ((fun a => Below.refl _ a) w9) ?_; exact rfl)
         case s2_1 =>
          intro t w T V O K k; have p0 : t[104]? = some ?v2_0 := V.v 0 104 rfl rfl (by kernel_rfl) rfl; clear V O; go_simp
          (refine k _ _ ((fun a => Below.refl _ a) w) ?_; exact rfl)
         case s2_2 =>
          intro t w T V O K k; have p1 : t[105]? = some ?v2_1 := V.v 1 105 rfl rfl (by kernel_rfl) rfl; clear V O; go_simp
          (refine k _ _ ((fun a => Below.refl _ a) w) ?_; exact rfl)
         case s2_3 =>
          intro t9 w9 hT9 hV9 hO9 K9 hK9; have p9_2 : t9[106]? = some ?v2_2 := hV9.v 2 106 rfl rfl (by kernel_rfl) rfl; have o9_14 := hO9.l 14; clear hV9 hO9; go_simp
          (refine hK9 _ _ ((fun a => Below.refl _ a) w9) ?_; exact rfl)
         case s2_4 =>
          intro t w T V O K k; have p2 : t[106]? = some ?v2_2 := V.v 2 106 rfl rfl (by kernel_rfl) rfl; have p3 : t[107]? = some ?v2_3 := V.v 3 107 rfl rfl (by kernel_rfl) rfl; clear V O; go_simp
          (refine k _ _ ((fun a => Below.refl _ a) w) ?_; exact rfl)
         case s2_5 =>
          intro t9 w9 hT9 hV9 hO9 K9 hK9; have p9_2 : t9[106]? = some ?v2_2 := hV9.v 2 106 rfl rfl (by kernel_rfl) rfl; have o9_9 := hO9.l 9; clear hV9 hO9; go_simp
          (refine hK9 _ _ ((fun a => Below.refl _ a) w9) ?_; exact rfl)
         case s2_6 =>
          intro t9 w9 hT9 hV9 hO9 K9 hK9; have p9_2 : t9[106]? = some ?v2_2 := hV9.v 2 106 rfl rfl (by kernel_rfl) rfl; have o9_15 := hO9.l 15; clear hV9 hO9; go_simp
          (refine hK9 _ _ ((fun a => Below.refl _ a) w9) ?_; exact rfl)
         case s2_7 =>
          intro t w T V O K k; have p2 : t[106]? = some ?v2_2 := V.v 2 106 rfl rfl (by kernel_rfl) rfl; have p6 : t[110]? = some ?v2_6 := V.v 6 110 rfl rfl (by kernel_rfl) rfl; clear V O; go_simp
          (refine k _ _ ((fun a => Below.refl _ a) w) ?_; exact rfl)
         case s2_8 =>
          intro t w T V O K k; have p2 : t[106]? = some ?v2_2 := V.v 2 106 rfl rfl (by kernel_rfl) rfl; have p5 : t[109]? = some ?v2_5 := V.v 5 109 rfl rfl (by kernel_rfl) rfl; have p7 : t[111]? = some ?v2_7 := V.v 7 111 rfl rfl (by kernel_rfl) rfl; clear V O; go_simp
          (refine k _ _ ((fun a => Below.refl _ a) w) ?_; exact rfl)
         case s2_9 =>
          intro t w T V O K k; have p2 : t[106]? = some ?v2_2 := V.v 2 106 rfl rfl (by kernel_rfl) rfl; have p8 : t[112]? = some ?v2_8 := V.v 8 112 rfl rfl (by kernel_rfl) rfl; clear V O; go_simp
          (refine k _ _ ((fun a => Below.refl _ a) w) ?_; exact rfl)
         case s2_10 =>
          intro t w T V O K k; have p2 : t[106]? = some ?v2_2 := V.v 2 106 rfl rfl (by kernel_rfl) rfl; have p9 : t[113]? = some ?v2_9 := V.v 9 113 rfl rfl (by kernel_rfl) rfl; clear V O; go_simp
          (refine k _ _ ((fun a => Below.refl _ a) w) ?_; exact rfl)
         case s2_11 =>
          intro t9 w9 hT9 hV9 hO9 K9 hK9; have p9_2 : t9[106]? = some ?v2_2 := hV9.v 2 106 rfl rfl (by kernel_rfl) rfl; have o9_14 := hO9.l 14; clear hV9 hO9; go_simp
          (refine hK9 _ _ ((fun a => Below.refl _ a) w9) ?_; exact rfl)
         case s2_12 =>
          intro t w T V O K k; have p2 : t[106]? = some ?v2_2 := V.v 2 106 rfl rfl (by kernel_rfl) rfl; have p11 : t[115]? = some ?v2_11 := V.v 11 115 rfl rfl (by kernel_rfl) rfl; clear V O; go_simp
          (refine k _ _ ((fun a => Below.refl _ a) w) ?_; exact rfl)
         case s2_13 =>
          intro t9 w9 hT9 hV9 hO9 K9 hK9; have p9_2 : t9[106]? = some ?v2_2 := hV9.v 2 106 rfl rfl (by kernel_rfl) rfl; have o9_9 := hO9.l 9; clear hV9 hO9; go_simp
          (refine hK9 _ _ ((fun a => Below.refl _ a) w9) ?_; exact rfl)
         case s2_14 =>
          intro t9 w9 hT9 hV9 hO9 K9 hK9; have p9_2 : t9[106]? = some ?v2_2 := hV9.v 2 106 rfl rfl (by kernel_rfl) rfl; have o9_15 := hO9.l 15; clear hV9 hO9; go_simp
          (refine hK9 _ _ ((fun a => Below.refl _ a) w9) ?_; exact rfl)
         case s2_15 =>
          intro t w T V O K k; have p2 : t[106]? = some ?v2_2 := V.v 2 106 rfl rfl (by kernel_rfl) rfl; have p14 : t[118]? = some ?v2_14 := V.v 14 118 rfl rfl (by kernel_rfl) rfl; clear V O; go_simp
          (refine k _ _ ((fun a => Below.refl _ a) w) ?_; exact rfl)
         case s2_16 =>
          intro t w T V O K k; have p2 : t[106]? = some ?v2_2 := V.v 2 106 rfl rfl (by kernel_rfl) rfl; have p13 : t[117]? = some ?v2_13 := V.v 13 117 rfl rfl (by kernel_rfl) rfl; have p15 : t[119]? = some ?v2_15 := V.v 15 119 rfl rfl (by kernel_rfl) rfl; clear V O; go_simp
          (refine k _ _ ((fun a => Below.refl _ a) w) ?_; exact rfl)
         case s2_17 =>
          intro t w T V O K k; have p2 : t[106]? = some ?v2_2 := V.v 2 106 rfl rfl (by kernel_rfl) rfl; have p16 : t[120]? = some ?v2_16 := V.v 16 120 rfl rfl (by kernel_rfl) rfl; clear V O; go_simp
          (refine k _ _ ((fun a => Below.refl _ a) w) ?_; exact rfl)
         case s2_18 =>
          intro t w T V O K k; have p2 : t[106]? = some ?v2_2 := V.v 2 106 rfl rfl (by kernel_rfl) rfl; have p17 : t[121]? = some ?v2_17 := V.v 17 121 rfl rfl (by kernel_rfl) rfl; clear V O; go_simp
          (refine k _ _ ((fun a => Below.refl _ a) w) ?_; exact rfl)
         case s2_19 =>
          intro t w T V O K k; have p2 : t[106]? = some ?v2_2 := V.v 2 106 rfl rfl (by kernel_rfl) rfl; have p4 : t[108]? = some ?v2_4 := V.v 4 108 rfl rfl (by kernel_rfl) rfl; have p10 : t[114]? = some ?v2_10 := V.v 10 114 rfl rfl (by kernel_rfl) rfl; have p12 : t[116]? = some ?v2_12 := V.v 12 116 rfl rfl (by kernel_rfl) rfl; have p18 : t[122]? = some ?v2_18 := V.v 18 122 rfl rfl (by kernel_rfl) rfl; clear V O; go_simp
          (refine k _ _ ((fun a => Below.refl _ a) w) ?_; exact rfl)
         case s2_20 =>
          intro t w T V O K k; have p2 : t[106]? = some ?v2_2 := V.v 2 106 rfl rfl (by kernel_rfl) rfl; have p19 : t[123]? = some ?v2_19 := V.v 19 123 rfl rfl (by kernel_rfl) rfl; clear V O; go_simp
          (refine k _ _ ((fun a => Below.refl _ a) w) ?_; exact rfl)
         case k2 =>
          intro i9 v9 w9 x9 h9 g9
          match i9, h9 with
          | 0, h9 => exact h9
          | 1, h9 => exact h9
          | 2, h9 => exact h9
          | 3, h9 => exact h9
          | 4, h9 => exact h9
          | 5, h9 => exact h9
          | 6, h9 => exact h9
          | 7, h9 => exact h9
          | 8, h9 => exact h9
          | 9, h9 => exact h9
          | 10, h9 => exact h9
          | 11, h9 => exact h9
          | 12, h9 => exact h9
          | 13, h9 => exact h9
          | 14, h9 => exact h9
          | 15, h9 => exact h9
          | 16, h9 => exact h9
          | 17, h9 => exact h9
          | 18, h9 => exact h9
          | 19, h9 => exact h9
          | 20, h9 => exact h9
          | _ + 21, h9 => exact trivial
         intro u9 w9 hE9 hu9; have r9_0 : u9 0 = ?v2_0 := hu9 0 (by decide); have r9_1 : u9 1 = ?v2_1 := hu9 1 (by decide); have r9_2 : u9 2 = ?v2_2 := hu9 2 (by decide); have r9_3 : u9 3 = ?v2_3 := hu9 3 (by decide); have r9_4 : u9 4 = ?v2_4 := hu9 4 (by decide); have r9_5 : u9 5 = ?v2_5 := hu9 5 (by decide); have r9_6 : u9 6 = ?v2_6 := hu9 6 (by decide); have r9_7 : u9 7 = ?v2_7 := hu9 7 (by decide); have r9_8 : u9 8 = ?v2_8 := hu9 8 (by decide); have r9_9 : u9 9 = ?v2_9 := hu9 9 (by decide); have r9_10 : u9 10 = ?v2_10 := hu9 10 (by decide); have r9_11 : u9 11 = ?v2_11 := hu9 11 (by decide); have r9_12 : u9 12 = ?v2_12 := hu9 12 (by decide); have r9_13 : u9 13 = ?v2_13 := hu9 13 (by decide); have r9_14 : u9 14 = ?v2_14 := hu9 14 (by decide); have r9_15 : u9 15 = ?v2_15 := hu9 15 (by decide); have r9_16 : u9 16 = ?v2_16 := hu9 16 (by decide); have r9_17 : u9 17 = ?v2_17 := hu9 17 (by decide)
         have r9_18 : u9 18 = ?v2_18 := hu9 18 (by decide); have r9_19 : u9 19 = ?v2_19 := hu9 19 (by decide); have r9_20 : u9 20 = ?v2_20 := hu9 20 (by decide); clear hu9
         simp only [putAll, Act.put, List.setIfInBounds_toArray, List.set_cons_succ, List.set_cons_zero, List.getD_cons_succ, List.getD_cons_zero, Nat.reduceAdd, Nat.zero_add]
         simp only [r9_0, r9_1, r9_2, r9_3, r9_4, r9_5, r9_6, r9_7, r9_8, r9_9, r9_10, r9_11, r9_12, r9_13, r9_14, r9_15, r9_16, r9_17, r9_18, r9_19, r9_20]
         clear r9_0 r9_1 r9_2 r9_3 r9_4 r9_5 r9_6 r9_7 r9_8 r9_9 r9_10 r9_11 r9_12 r9_13 r9_14 r9_15 r9_16 r9_17 r9_18 r9_19 r9_20; clear dk dkn; have hb78 : Below Bk wr w9 := (Below.refl Bk wr).drew.trans hE9; have hb80 : Below w6.heap.size w6 w9 := hb66.trans (hb78.mono (by have := HBk.out; omega)); clear hE9 hb78 hb66 o_x7 HRW7; subst hk0
         go_wp2_with fail
         go_meet
         exact ⟨0, rfl, Nat.zero_le _, HDR, (fun y h => absurd h (Nat.lt_irrefl _)), hb80⟩
        ·skip
         obtain ⟨k, rfl⟩ : ∃ k', k = k' + 1 := ⟨k - 1, by omega⟩; clear hk0; obtain ⟨Bk, hBk⟩ : ∃ B, B = wr.heap.size := ⟨_, rfl⟩; have HBk := Z' hBk; clear hBk; have dk : decide ((0 : Int) < ((k + 1 : Nat) : Int)) = true := decide_eq_true (by omega); have dkn : decide (0 < k + 1) = true := decide_eq_true (by omega); have hkl : k < l.length := by rw [<- HML.out]; omega
         obtain ⟨gl, hA, hcl⟩ := flat5_cell H5.out (by have := HRW7.out; rw [HML.out] at this; exact this) hkl; obtain ⟨y, hy⟩ : ∃ y, y = l[k] := ⟨_, rfl⟩; rw [<- hy] at hcl; have HYK : Hid (l[k]? = some y) := by show _ = _; rw [List.getElem?_eq_getElem hkl, hy]
         clear hy hkl; obtain ⟨y1, hy1⟩ : ∃ n, n = cn (wordsOf C j) y := ⟨_, rfl⟩; obtain ⟨y2, hy2⟩ : ∃ n, n = cn (wordsOf D j) y := ⟨_, rfl⟩; have hy1l : y1 <= 1000 := by have := cn_le (wordsOf C j) y; rw [wordsOf_length] at this; omega
         have hy2l : y2 <= 1000 := by have := cn_le (wordsOf D j) y; rw [wordsOf_length] at this; omega
         obtain ⟨y3, hy3⟩ : ∃ n : Nat, n = y1 + y2 := ⟨_, rfl⟩; have hyc : cc y = [.string y, .int .i64 (y1 : Int), .int .i64 (C.toks.length : Int), .int .i64 (y3 : Int), .int .i64 (N : Int)] := by rw [HCC.out, hy3, hy1, hy2, HN.out]; rfl
         rw [hyc] at hcl; obtain ⟨bq, hbq⟩ : ∃ b, b = moreB n1 n2 y1 y2 sw y := ⟨_, rfl⟩; have HLT : Hid (ltK (cn (wordsOf C j)) (cn (wordsOf D j)) sw y = bq) := by show _ = _; rw [hbq, hy1, hy2, HN1.out, HN2.out]; rfl
         have HBQ := Z' hbq; have HY3 : Hid ((y3 : Int) = (y1 : Int) + (y2 : Int)) := by show _ = _; omega
         have HB39 : Hid ((b3 : Int) = (n1 : Int) + (n2 : Int)) := by show _ = _; have := HB3.out; omega
         subst hA; clear hyc hy1 hy2 hy3 hbq; have zk : IntKind.i64.wrap (((k + 1 : Nat) : Int) - 1) = (k : Int) := (IntWalk.i64_in _ (by omega)).trans (by omega); have zk2 : IntKind.i64.wrap ((k : Int) + 1 - 1) = (k : Int) := (IntWalk.i64_in _ (by omega)).trans (by omega); have hkm : k < m := by omega
         have zk3 : IntKind.i64.wrap (k : Int) = (k : Int) := (IntWalk.i64_in _ (by omega)).trans rfl; have hgl : gl < Bk := by have h2 : gl < wr.heap.size := World.block_lt_of_cell? wr _ (hcl 0 _ rfl); have := HBk.out; omega
         have hgxk : gx < Bk := by have := HBk.out; omega
         have l0 : wr.cell? ⟨gl, k * 5, none⟩ = some (.string y) := hcl 0 _ rfl; have l1 : wr.cell? ⟨gl, k * 5 + 1, none⟩ = some (.int .i64 (y1 : Int)) := hcl 1 _ rfl; have l2 : wr.cell? ⟨gl, k * 5 + 2, none⟩ = some (.int .i64 (C.toks.length : Int)) := hcl 2 _ rfl; have l3 : wr.cell? ⟨gl, k * 5 + 3, none⟩ = some (.int .i64 (y3 : Int)) := hcl 3 _ rfl; have l4 : wr.cell? ⟨gl, k * 5 + 4, none⟩ = some (.int .i64 (N : Int)) := hcl 4 _ rfl; clear hcl
         go_upto_region 21 with (fail)
         refine wp_reg_t (fun a b => Below Bk a b) ((fun a => Below.refl _ a)) ((fun _ _ _ h h' => h.trans h')) [some 104, some 105, some 106, some 107, some 108, some 109, some 110, some 111, some 112, some 113, some 114, some 115, some 116, some 117, some 118, some 119, some 120, some 121, some 122, some 123, some 124] [isV ?v3_0, isV ?v3_1, isV ?v3_2, isV ?v3_3, isV ?v3_4, isV ?v3_5, isV ?v3_6, isV ?v3_7, isV ?v3_8, isV ?v3_9, isV ?v3_10, isV ?v3_11, isV ?v3_12, isV ?v3_13, isV ?v3_14, isV ?v3_15, isV ?v3_16, isV ?v3_17, isV ?v3_18, isV (.bool bq), isV ?v3_20] rfl (by kernel_rfl) rfl rfl ?k3 ⟨?s3_0, ?s3_1, ?s3_2, ?s3_3, ?s3_4, ?s3_5, ?s3_6, ?s3_7, ?s3_8, ?s3_9, ?s3_10, ?s3_11, ?s3_12, ?s3_13, ?s3_14, ?s3_15, ?s3_16, ?s3_17, ?s3_18, ?s3_19, ?s3_20, trivial⟩ ?p3
         case s3_0 =>
          intro t9 w9 hT9 hV9 hO9 K9 hK9; have o9_15 := hO9.l 15; clear hV9 hO9; go_simp
          (refine hK9 _ _ ((fun a => Below.refl _ a) w9) ?_; exact rfl)
         case s3_1 =>
          intro t w T V O K k; have p0 : t[104]? = some ?v3_0 := V.v 0 104 rfl rfl (by kernel_rfl) rfl; clear V O; go_simp
          (refine k _ _ ((fun a => Below.refl _ a) w) ?_; exact rfl)
         case s3_2 =>
          intro t w T V O K k; have p1 : t[105]? = some ?v3_1 := V.v 1 105 rfl rfl (by kernel_rfl) rfl; clear V O; go_simp
          (refine k _ _ ((fun a => Below.refl _ a) w) ?_; exact rfl)
         case s3_3 =>
          intro t9 w9 hT9 hV9 hO9 K9 hK9; have p9_2 : t9[106]? = some ?v3_2 := hV9.v 2 106 rfl rfl (by kernel_rfl) rfl; have o9_14 := hO9.l 14; clear hV9 hO9; go_simp
          (refine hK9 _ _ ((fun a => Below.refl _ a) w9) ?_; exact rfl)
         case s3_4 =>
          intro t9 w9 hT9 hV9 hO9 K9 hK9; have p9_2 : t9[106]? = some ?v3_2 := hV9.v 2 106 rfl rfl (by kernel_rfl) rfl; have p9_3 : t9[107]? = some ?v3_3 := hV9.v 3 107 rfl rfl (by kernel_rfl) rfl; clear hV9 hO9; obtain ⟨d0, d1, d2, d3, d4⟩ := (Own.below (w := wr.drew) o_x7 hT9 hgxk).cells5; go_simp
          (refine hK9 _ _ ((fun a => Below.refl _ a) w9) ?_; exact rfl)
         case s3_5 =>
          intro t9 w9 hT9 hV9 hO9 K9 hK9; have p9_2 : t9[106]? = some ?v3_2 := hV9.v 2 106 rfl rfl (by kernel_rfl) rfl; have o9_9 := hO9.l 9; clear hV9 hO9; go_simp
          (refine hK9 _ _ ((fun a => Below.refl _ a) w9) ?_; exact rfl)
         case s3_6 =>
          intro t9 w9 hT9 hV9 hO9 K9 hK9; have p9_2 : t9[106]? = some ?v3_2 := hV9.v 2 106 rfl rfl (by kernel_rfl) rfl; have o9_15 := hO9.l 15; clear hV9 hO9; go_simp
          (refine hK9 _ _ ((fun a => Below.refl _ a) w9) ?_; exact rfl)
         case s3_7 =>
          intro t w T V O K k; have p2 : t[106]? = some ?v3_2 := V.v 2 106 rfl rfl (by kernel_rfl) rfl; have p6 : t[110]? = some ?v3_6 := V.v 6 110 rfl rfl (by kernel_rfl) rfl; clear V O; go_simp
          (refine k _ _ ((fun a => Below.refl _ a) w) ?_; exact rfl)
         case s3_8 =>
          intro t w T V O K k; have p2 : t[106]? = some ?v3_2 := V.v 2 106 rfl rfl (by kernel_rfl) rfl; have p5 : t[109]? = some ?v3_5 := V.v 5 109 rfl rfl (by kernel_rfl) rfl; have p7 : t[111]? = some ?v3_7 := V.v 7 111 rfl rfl (by kernel_rfl) rfl; clear V O; go_simp
          (refine k _ _ ((fun a => Below.refl _ a) w) ?_; exact rfl)
         case s3_9 =>
          intro t w T V O K k; have p2 : t[106]? = some ?v3_2 := V.v 2 106 rfl rfl (by kernel_rfl) rfl; have p8 : t[112]? = some ?v3_8 := V.v 8 112 rfl rfl (by kernel_rfl) rfl; clear V O; go_simp
          (refine k _ _ ((fun a => Below.refl _ a) w) ?_; exact rfl)
         case s3_10 =>
          intro t9 w9 hT9 hV9 hO9 K9 hK9; have p9_2 : t9[106]? = some ?v3_2 := hV9.v 2 106 rfl rfl (by kernel_rfl) rfl; have p9_9 : t9[113]? = some ?v3_9 := hV9.v 9 113 rfl rfl (by kernel_rfl) rfl; clear hV9 hO9; have d1 := (Below.cell (w := wr.drew) hT9 hgl).trans l1; have d2 := (Below.cell (w := wr.drew) hT9 hgl).trans l2; have d3 := (Below.cell (w := wr.drew) hT9 hgl).trans l3; have d4 := (Below.cell (w := wr.drew) hT9 hgl).trans l4; go_simp
          (refine hK9 _ _ ((fun a => Below.refl _ a) w9) ?_; exact rfl)
         case s3_11 =>
          intro t9 w9 hT9 hV9 hO9 K9 hK9; have p9_2 : t9[106]? = some ?v3_2 := hV9.v 2 106 rfl rfl (by kernel_rfl) rfl; have o9_14 := hO9.l 14; clear hV9 hO9; go_simp
          (refine hK9 _ _ ((fun a => Below.refl _ a) w9) ?_; exact rfl)
         case s3_12 =>
          intro t9 w9 hT9 hV9 hO9 K9 hK9; have p9_2 : t9[106]? = some ?v3_2 := hV9.v 2 106 rfl rfl (by kernel_rfl) rfl; have p9_11 : t9[115]? = some ?v3_11 := hV9.v 11 115 rfl rfl (by kernel_rfl) rfl; clear hV9 hO9; obtain ⟨d0, d1, d2, d3, d4⟩ := (Own.below (w := wr.drew) o_x7 hT9 hgxk).cells5; go_simp
          (refine hK9 _ _ ((fun a => Below.refl _ a) w9) ?_; exact rfl)
         case s3_13 =>
          intro t9 w9 hT9 hV9 hO9 K9 hK9; have p9_2 : t9[106]? = some ?v3_2 := hV9.v 2 106 rfl rfl (by kernel_rfl) rfl; have o9_9 := hO9.l 9; clear hV9 hO9; go_simp
          (refine hK9 _ _ ((fun a => Below.refl _ a) w9) ?_; exact rfl)
         case s3_14 =>
          intro t9 w9 hT9 hV9 hO9 K9 hK9; have p9_2 : t9[106]? = some ?v3_2 := hV9.v 2 106 rfl rfl (by kernel_rfl) rfl; have o9_15 := hO9.l 15; clear hV9 hO9; go_simp
          (refine hK9 _ _ ((fun a => Below.refl _ a) w9) ?_; exact rfl)
         case s3_15 =>
          intro t w T V O K k; have p2 : t[106]? = some ?v3_2 := V.v 2 106 rfl rfl (by kernel_rfl) rfl; have p14 : t[118]? = some ?v3_14 := V.v 14 118 rfl rfl (by kernel_rfl) rfl; clear V O; go_simp
          (refine k _ _ ((fun a => Below.refl _ a) w) ?_; exact rfl)
         case s3_16 =>
          intro t w T V O K k; have p2 : t[106]? = some ?v3_2 := V.v 2 106 rfl rfl (by kernel_rfl) rfl; have p13 : t[117]? = some ?v3_13 := V.v 13 117 rfl rfl (by kernel_rfl) rfl; have p15 : t[119]? = some ?v3_15 := V.v 15 119 rfl rfl (by kernel_rfl) rfl; clear V O; go_simp
          (refine k _ _ ((fun a => Below.refl _ a) w) ?_; exact rfl)
         case s3_17 =>
          intro t w T V O K k; have p2 : t[106]? = some ?v3_2 := V.v 2 106 rfl rfl (by kernel_rfl) rfl; have p16 : t[120]? = some ?v3_16 := V.v 16 120 rfl rfl (by kernel_rfl) rfl; clear V O; go_simp
          (refine k _ _ ((fun a => Below.refl _ a) w) ?_; exact rfl)
         case s3_18 =>
          intro t9 w9 hT9 hV9 hO9 K9 hK9; have p9_2 : t9[106]? = some ?v3_2 := hV9.v 2 106 rfl rfl (by kernel_rfl) rfl; have p9_17 : t9[121]? = some ?v3_17 := hV9.v 17 121 rfl rfl (by kernel_rfl) rfl; clear hV9 hO9; have d0 := (Below.cell (w := wr.drew) hT9 hgl).trans l0; go_simp
          (refine hK9 _ _ ((fun a => Below.refl _ a) w9) ?_; exact rfl)
         case s3_19 =>
          intro t w T V O K k; have p2 : t[106]? = some ?v3_2 := V.v 2 106 rfl rfl (by kernel_rfl) rfl; have p4 : t[108]? = some ?v3_4 := V.v 4 108 rfl rfl (by kernel_rfl) rfl; have p10 : t[114]? = some ?v3_10 := V.v 10 114 rfl rfl (by kernel_rfl) rfl; have p12 : t[116]? = some ?v3_12 := V.v 12 116 rfl rfl (by kernel_rfl) rfl; have p18 : t[122]? = some ?v3_18 := V.v 18 122 rfl rfl (by kernel_rfl) rfl; clear V O; go_simp; refine (more38_any sw y n1 n2 y1 y2 _ _ _ _ _ _ HB39.out HY3.out hn1l hn2l hy1l hy2l w).mono ?_; rintro _ w8 ⟨rfl, hb8⟩; exact k _ _ (hb8.mono (by have h1 := T.size; have h2 := HBk.out; have h3 : wr.drew.heap.size = wr.heap.size := rfl; omega)) (by rw [<- HBQ.out])
         case s3_20 =>
          intro t w T V O K k; have p2 : t[106]? = some ?v3_2 := V.v 2 106 rfl rfl (by kernel_rfl) rfl; have p19 : t[123]? = some ((.bool bq)) := V.v 19 123 rfl rfl (by kernel_rfl) rfl; clear V O; go_simp
          (refine k _ _ ((fun a => Below.refl _ a) w) ?_; exact rfl)
         case k3 =>
          intro i9 v9 w9 x9 h9 g9
          match i9, h9 with
          | 0, h9 => exact h9
          | 1, h9 => exact h9
          | 2, h9 => exact h9
          | 3, h9 => exact h9
          | 4, h9 => exact h9
          | 5, h9 => exact h9
          | 6, h9 => exact h9
          | 7, h9 => exact h9
          | 8, h9 => exact h9
          | 9, h9 => exact h9
          | 10, h9 => exact h9
          | 11, h9 => exact h9
          | 12, h9 => exact h9
          | 13, h9 => exact h9
          | 14, h9 => exact h9
          | 15, h9 => exact h9
          | 16, h9 => exact h9
          | 17, h9 => exact h9
          | 18, h9 => exact h9
          | 19, h9 => exact h9
          | 20, h9 => exact h9
          | _ + 21, h9 => exact trivial
         intro u9 w9 hE9 hu9; have r9_0 : u9 0 = ?v3_0 := hu9 0 (by decide); have r9_1 : u9 1 = ?v3_1 := hu9 1 (by decide); have r9_2 : u9 2 = ?v3_2 := hu9 2 (by decide); have r9_3 : u9 3 = ?v3_3 := hu9 3 (by decide); have r9_4 : u9 4 = ?v3_4 := hu9 4 (by decide); have r9_5 : u9 5 = ?v3_5 := hu9 5 (by decide); have r9_6 : u9 6 = ?v3_6 := hu9 6 (by decide); have r9_7 : u9 7 = ?v3_7 := hu9 7 (by decide); have r9_8 : u9 8 = ?v3_8 := hu9 8 (by decide); have r9_9 : u9 9 = ?v3_9 := hu9 9 (by decide); have r9_10 : u9 10 = ?v3_10 := hu9 10 (by decide); have r9_11 : u9 11 = ?v3_11 := hu9 11 (by decide); have r9_12 : u9 12 = ?v3_12 := hu9 12 (by decide); have r9_13 : u9 13 = ?v3_13 := hu9 13 (by decide); have r9_14 : u9 14 = ?v3_14 := hu9 14 (by decide); have r9_15 : u9 15 = ?v3_15 := hu9 15 (by decide); have r9_16 : u9 16 = ?v3_16 := hu9 16 (by decide); have r9_17 : u9 17 = ?v3_17 := hu9 17 (by decide)
         have r9_18 : u9 18 = ?v3_18 := hu9 18 (by decide); have r9_19 : u9 19 = (.bool bq) := hu9 19 (by decide); have r9_20 : u9 20 = ?v3_20 := hu9 20 (by decide); clear hu9
         simp only [putAll, Act.put, List.setIfInBounds_toArray, List.set_cons_succ, List.set_cons_zero, List.getD_cons_succ, List.getD_cons_zero, Nat.reduceAdd, Nat.zero_add]
         simp only [r9_0, r9_1, r9_2, r9_3, r9_4, r9_5, r9_6, r9_7, r9_8, r9_9, r9_10, r9_11, r9_12, r9_13, r9_14, r9_15, r9_16, r9_17, r9_18, r9_19, r9_20]
         clear r9_0 r9_1 r9_2 r9_3 r9_4 r9_5 r9_6 r9_7 r9_8 r9_9 r9_10 r9_11 r9_12 r9_13 r9_14 r9_15 r9_16 r9_17 r9_18 r9_19 r9_20; clear dk dkn l0 l1 l2 l3 l4; have hb78 : Below Bk wr w9 := (Below.refl Bk wr).drew.trans hE9; have hb80 : Below w6.heap.size w6 w9 := hb66.trans (hb78.mono (by have := HBk.out; omega)); clear hE9 hb78 hb66 o_x7 HRW7
         rcases bq with _ | _
         ·skip
          have HPV : Hid (∀ z, 0 < k + 1 -> l[k + 1 - 1]? = some z -> ltK (cn (wordsOf C j)) (cn (wordsOf D j)) sw z = false) := fun z _ hz => by
           rw [Nat.add_sub_cancel, HYK.out] at hz
           injection hz with hz
           subst hz; exact HLT.out
          go_wp2_with fail
          go_meet
          exact ⟨k + 1, rfl, hk, HDR, HPV, hb80⟩
         ·skip
          have HDR2 : Hid (∀ z ∈ l.drop k, ltK (cn (wordsOf C j)) (cn (wordsOf D j)) sw z = true) := by
           have := drop_step (l := l) (k := k + 1) (by omega) (by rw [<- HML.out]; omega) HDR.out (fun z hz => by rw [Nat.add_sub_cancel, HYK.out] at hz; injection hz with hz; subst hz; exact HLT.out)
           rwa [Nat.add_sub_cancel] at this
          go_wp2
          go_roundg (k + 1)
          case measure => omega
          case rel => exact ⟨k, rfl, by omega, by go_num, HDR2, hb80⟩
      case rest =>
       obtain ⟨k, rfl, hk, HDR, HPL, hb7⟩ := hcut; obtain ⟨wr, hwr9⟩ : ∃ x, x = wc := ⟨_, rfl⟩; rw [<- hwr9] at hb7 |-; clear hwr9; have hw7 := hb7.size; have o_x7 := o_x.below hb7 hgx2; have HRW7 := Z' (ownsRow_below HRW6.out hb7); have hb77 : Below B5 w1 wr := hb6.trans (hb7.mono (by omega)); clear hb7 o_x HRW6 hb6
       go_upto_region 23 with (fail)
       go_cut [138] (fun s138 wx => ∃ bb : Bool, s138 = .bool bb /\ Hid (bb = true -> ∀ y, 0 < k -> l[k - 1]? = some y -> y ≠ sw) /\ Hid (bb = false -> sw ∈ l) /\ wx = wr)
       case first =>
        by_cases hk0 : k = 0
        ·skip
         have f1 : ((k : Int) == (0 : Int)) = true := beq_iff_eq.2 (by omega); have f2 : ((k : Nat) == (0 : Nat)) = true := beq_iff_eq.2 (by omega)
         go_wp2_with fail
         go_meet
         exact ⟨true, rfl, (fun _ y h => by omega), (fun h => nomatch h), rfl⟩
        ·skip
         obtain ⟨k, rfl⟩ : ∃ k', k = k' + 1 := ⟨k - 1, by omega⟩; clear hk0; have hkl : k < l.length := by rw [<- HML.out]; omega
         obtain ⟨gl, hA, hcl⟩ := flat5_cell H5.out (by have := HRW7.out; rw [HML.out] at this; exact this) hkl; obtain ⟨y, hy⟩ : ∃ y, y = l[k] := ⟨_, rfl⟩; rw [<- hy] at hcl; have HYK : Hid (l[k]? = some y) := by show _ = _; rw [List.getElem?_eq_getElem hkl, hy]
         clear hy hkl; subst hA; have l0 : wr.cell? ⟨gl, k * 5, none⟩ = some (.string y) := by
          refine hcl 0 _ ?_; rw [HCC.out]
          rfl
         clear hcl; have zk : IntKind.i64.wrap (((k + 1 : Nat) : Int) - 1) = (k : Int) := (IntWalk.i64_in _ (by omega)).trans (by omega); have zk2 : IntKind.i64.wrap ((k : Int) + 1 - 1) = (k : Int) := (IntWalk.i64_in _ (by omega)).trans (by omega); have hkm : k < m := by omega
         have zk3 : IntKind.i64.wrap (k : Int) = (k : Int) := (IntWalk.i64_in _ (by omega)).trans rfl; have f1 : (((k + 1 : Nat) : Int) == (0 : Int)) = false := beq_eq_false_iff_ne.2 (by omega); have f2 : ((k + 1 : Nat) == (0 : Nat)) = false := beq_eq_false_iff_ne.2 (by omega); have f3 : ((k : Int) + 1 == (0 : Int)) = false := beq_eq_false_iff_ne.2 (by omega)
         by_cases hyw : y = sw
         ·have d1 : (y.toList == sw.toList) = true := by rw [str_beq]; exact decide_eq_true hyw
          have HYM : Hid (sw ∈ l) := by show sw ∈ l; rw [<- hyw]; exact List.mem_of_getElem? HYK.out
          clear hyw
          go_wp2_with fail
          go_meet
          exact ⟨false, rfl, (fun h => nomatch h), (fun _ => HYM.out), rfl⟩
         ·have d1 : (y.toList == sw.toList) = false := by rw [str_beq]; exact decide_eq_false hyw
          have HYN : Hid (∀ z, 0 < k + 1 -> l[k + 1 - 1]? = some z -> z ≠ sw) := fun z _ hz => by
           rw [Nat.add_sub_cancel, HYK.out] at hz
           injection hz with hz
           subst hz; exact hyw
          clear hyw
          go_wp2_with fail
          go_meet
          exact ⟨true, rfl, (fun _ => HYN.out), (fun h => nomatch h), rfl⟩
       case rest =>
        obtain ⟨bb, rfl, HNE, HIN, hwc⟩ := hcut; have hwc := hwc.symm; subst hwc
        rcases bb with _ | _
        ·skip
         have HME2 : Hid (∀ s, s ∈ l ↔ s ∈ (wordsOf C j).take (i + 1)) := fun s => by rw [mem_take9 HW.out s, <- HME.out s]; constructor; exact .inl; rintro (h | h); exact h; rw [h]; exact HIN.out rfl
         go_wp2
         go_roundg (C.toks.length + 1 - (i + 1))
         case measure => omega
         case rel => exact ⟨i + 1, m, l, A, c, rfl, by omega, by go_num, rfl, by omega, HML, HRW7, HSR, HME2, hb77, by omega⟩
        ·skip
         have HPV : Hid (∀ y, 0 < k -> l[k - 1]? = some y -> ltK (cn (wordsOf C j)) (cn (wordsOf D j)) sw y = false /\ y ≠ sw) := fun y h1 h2 => ⟨HPL.out y h1 h2, HNE.out rfl y h1 h2⟩; clear HNE HIN HPL; obtain ⟨i1, hi1, hy0, hy1, hy2⟩ := info_parts col_info9; obtain ⟨A1, hs1, hd1⟩ := sliced_to Tryz.underlying35 sizeOfC (A) m c (k) (by omega); obtain ⟨A2, hs2, hd2⟩ := sliced_from Tryz.underlying35 sizeOfC (A) m c (k) (by omega) hcc9.1
         skip
         have HR7 := Z' (Rd.of_own HRW7.out); have HLL : Hid ((flat5 cc l).length = m * 5) := by show _ = _; rw [flat5_len H5.out, HML.out]
         go_upto_region 24 with (fail)
         obtain ⟨B9', hB9⟩ : ∃ B9', B9' = wr.heap.size := ⟨_, rfl⟩; have HB9' := Z' hB9; have hs9 : B9' <= wr.heap.size := Nat.le_of_eq hB9; have HRT : Hid (∀ w9, Below B9' wr.drew w9 -> Rd w9 A1 ((flat5 cc l).take ((k) * 5))) := fun w9 hb => (hd1 w9 _ ((HR7.out.keep fun p hp => (Below.cell (w := wr.drew) hb (by show _ < B9'; omega)).trans rfl))).take _; have HRD : Hid (∀ w9, Below B9' wr.drew w9 -> Rd w9 A2 ((flat5 cc l).drop ((k) * 5))) := fun w9 hb => hd2 w9 (flat5 cc l) HLL.out ((HR7.out.keep fun p hp => (Below.cell (w := wr.drew) hb (by show _ < B9'; omega)).trans rfl)); have hgxx : gx < B9' := by omega
         clear hd1 hd2 hB9; refine wp_reg_n (fun a b => Below B9' a b) (fun L u w8 => IM B9' 49 5 (k) ((flat5 cc l).take ((k) * 5)) [.string sw, .int .i64 (n1 : Int), .int .i64 (C.toks.length : Int), .int .i64 (b3 : Int), .int .i64 (N : Int)] (m - (k)) ((flat5 cc l).drop ((k) * 5)) (L 0) (L 4) (L 6) (L 7) (L 11) (u 0) (u 4) (u 6) (u 7) (u 11) w8 /\ FL L /\ (L 12 = false -> u 12 = .slice (A) m c) /\ (L 12 = true -> u 12 = u 11)) ((fun a => Below.refl _ a)) ((fun _ _ _ h h' => h.trans h')) [some 139, some 140, some 141, some 142, some 143, some 144, some 145, some 146, some 147, some 148, some 149, some 150, some 9] [(fun _ _ => True), isV ?v4_1, isV ?v4_2, isV (.slice A1 (k) c), (fun _ _ => True), isV ?v4_5, (fun _ _ => True), (fun _ _ => True), isV ?v4_8, isV ?v4_9, isV (.slice A2 (m - (k)) (c - (k))), (fun _ _ => True), (fun _ _ => True)] rfl (by kernel_rfl) rfl rfl ?n4 ?k4 ⟨?s4_0, ?s4_1, ?s4_2, ?s4_3, ?s4_4, ?s4_5, ?s4_6, ?s4_7, ?s4_8, ?s4_9, ?s4_10, ?s4_11, ?s4_12, trivial⟩ ?p4
         case s4_0 =>
          intro l u t w T L D V O N M K k; clear V O; have m9 := Z' (M.1.i0 L); have F9 := Z' (M.2.1.step 0 (fun e => absurd e (by decide)) (fun e => absurd e (by decide)) (fun e => absurd e (by decide)) (fun e => absurd e (by decide)) (fun e => absurd e (by decide)) (fun e => absurd e (by decide))); have hb9 : Below B9' w (w.alloc (.cells #[] 49)) := ((Below.refl _ w).alloc (Nat.le_refl _) _).mono M.1.hs; have M2 := Z' M.2.2; clear M L D N; go_simp; exact k _ _ hb9 trivial ⟨m9.out, F9.out, M2.out⟩
         case s4_1 =>
          intro l u t w T L D V O N M K k; clear V O; have o5 := N 12 9 rfl (of_decide_eq_true (by kernel_rfl)); rw [M.2.2.1 (M.2.1.l12_1 L)] at o5; have F9 := Z' (M.2.1.step 1 (fun e => absurd e (by decide)) (fun e => absurd e (by decide)) (fun e => absurd e (by decide)) (fun e => absurd e (by decide)) (fun e => absurd e (by decide)) (fun e => absurd e (by decide))); have m9 := Z' M.1; have M2 := Z' M.2.2; clear M L D N; go_simp; refine k _ _ (Below.refl _ w) ?_ ⟨m9.out, F9.out, M2.out⟩; exact rfl
         case s4_2 =>
          intro L9 u9 t9 w9 hT9 hL9 hD9 hV9 hO9 hN9 hM9 K9 hK9; have o9_15 := hO9.l 15; clear hV9 hO9; have F9 := Z' (hM9.2.1.step 2 (fun e => absurd e (by decide)) (fun e => absurd e (by decide)) (fun e => absurd e (by decide)) (fun e => absurd e (by decide)) (fun e => absurd e (by decide)) (fun e => absurd e (by decide))); have m9 := Z' hM9.1; have M2 := Z' hM9.2.2; clear hM9 hL9 hD9 hN9; go_simp; refine hK9 _ _ (Below.refl _ w9) ?_ ⟨m9.out, F9.out, M2.out⟩; exact rfl
         case s4_3 =>
          intro L9 u9 t9 w9 hT9 hL9 hD9 hV9 hO9 hN9 hM9 K9 hK9; have p9_1 : t9[140]? = some ?v4_1 := hV9.l 1 140; have p9_2 : t9[141]? = some ?v4_2 := hV9.l 2 141; clear hV9 hO9; have F9 := Z' (hM9.2.1.step 3 (fun _ => hD9 1 rfl) (fun e => absurd e (by decide)) (fun e => absurd e (by decide)) (fun e => absurd e (by decide)) (fun e => absurd e (by decide)) (fun e => absurd e (by decide))); have m9 := Z' hM9.1; have M2 := Z' hM9.2.2; clear hM9 hL9 hD9 hN9; go_simp; refine hK9 _ _ (Below.refl _ w9) ?_ ⟨m9.out, F9.out, M2.out⟩; exact rfl
         case s4_4 =>
          intro L9 u9 t9 w9 hT9 hL9 hD9 hV9 hO9 hN9 hM9 K9 hK9; obtain ⟨x9_0, p9_0, q9_0⟩ := hV9.g 0 139 rfl rfl (by kernel_rfl); obtain ⟨q9_0, e9_0⟩ := q9_0; replace q9_0 : ((fun _ _ => True)) x9_0 w9 := q9_0; have p9_3 : t9[142]? = some ((.slice A1 (k) c)) := hV9.l 3 142; clear hV9 hO9; have r9 := hM9.1.r0 (hD9 0 rfl) hL9; obtain ⟨v9, w9', hr9, ho9, hg9, hat9⟩ := run_append_src (P := Tryz.prog) w9 B9' 35 35 49 i1 _ 5 48 Tryz.underlying35 hi1 hy0 hy1 hy2 rfl (by decide) _ _ _ r9 A1 (k) c ((flat5 cc l).take ((k) * 5)) (by rw [List.length_take, HLL.out]; omega) (HRT.out _ hT9) (fun u hu => flat5_one9 H1.out u (List.mem_of_mem_take hu)) (by unfold maxLen; omega) (by omega) hM9.1.hs; rw [Nat.zero_add, List.nil_append] at ho9; have g9 := below_grown9 hg9 (own_lt r9) hM9.1.hs; have M9 := Z' (hM9.1.i4 (hD9 0 rfl) hL9 ho9 hg9 hat9); have F9 := Z' (hM9.2.1.step 4 (fun e => absurd e (by decide)) (fun _ => hD9 3 rfl) (fun e => absurd e (by decide)) (fun e => absurd e (by decide)) (fun e => absurd e (by decide)) (fun e => absurd e (by decide)))
          have Q9 := Z' hM9.2.2.1; have q9 := Z' hM9.2.2.2; subst e9_0; clear hM9 r9 ho9 hg9 hat9 hL9 hD9 hN9; rw [if_pos (wanted_of9 rfl)]; exact wp_append_eq (.tmp 139) (.tmp 142) 35 rfl _ _ v9 (ev_tmp9 p9_0) (ev_tmp9 p9_3) hr9 (hK9 _ _ g9 trivial ⟨M9.out, F9.out, Q9.out, q9.out⟩)
         case s4_5 =>
          intro L9 u9 t9 w9 hT9 hL9 hD9 hV9 hO9 hN9 hM9 K9 hK9; have o9_14 := hO9.l 14; clear hV9 hO9; obtain ⟨d9_0, d9_1, d9_2, d9_3, d9_4⟩ := (Own.below (w := wr.drew) o_x7 hT9 (by omega)).cells5; have F9 := Z' (hM9.2.1.step 5 (fun e => absurd e (by decide)) (fun e => absurd e (by decide)) (fun e => absurd e (by decide)) (fun e => absurd e (by decide)) (fun e => absurd e (by decide)) (fun e => absurd e (by decide))); have m9 := Z' hM9.1; have M2 := Z' hM9.2.2; clear hM9 hL9 hD9 hN9; go_simp; refine hK9 _ _ (Below.refl _ w9) ?_ ⟨m9.out, F9.out, M2.out⟩; exact rfl
         case s4_6 =>
          intro L9 u9 t9 w9 hT9 hL9 hD9 hV9 hO9 hN9 hM9 K9 hK9; have p9_5 : t9[144]? = some ?v4_5 := hV9.l 5 144; clear hV9 hO9; have m9 := Z' (hM9.1.i6 hL9); have F9 := Z' (hM9.2.1.step 6 (fun e => absurd e (by decide)) (fun e => absurd e (by decide)) (fun e => absurd e (by decide)) (fun e => absurd e (by decide)) (fun e => absurd e (by decide)) (fun e => absurd e (by decide))); have hb9 : Below B9' w9 (w9.alloc (.cells #[.string sw, .int .i64 (n1 : Int), .int .i64 (C.toks.length : Int), .int .i64 (b3 : Int), .int .i64 (N : Int)] 49)) := ((Below.refl _ w9).alloc (Nat.le_refl _) _).mono hM9.1.hs; have M2 := Z' hM9.2.2; clear hM9 hL9 hD9 hN9; go_simp; exact hK9 _ _ hb9 trivial ⟨m9.out, F9.out, M2.out⟩
         case s4_7 =>
          intro L9 u9 t9 w9 hT9 hL9 hD9 hV9 hO9 hN9 hM9 K9 hK9; obtain ⟨x9_4, p9_4, q9_4⟩ := hV9.g 4 143 rfl rfl (by kernel_rfl); obtain ⟨q9_4, e9_4⟩ := q9_4; replace q9_4 : ((fun _ _ => True)) x9_4 w9 := q9_4; obtain ⟨x9_6, p9_6, q9_6⟩ := hV9.g 6 145 rfl rfl (by kernel_rfl); obtain ⟨q9_6, e9_6⟩ := q9_6; replace q9_6 : ((fun _ _ => True)) x9_6 w9 := q9_6; clear hV9 hO9; obtain ⟨g9', eg9, og9, -, -⟩ := hM9.1.r6 (hD9 6 rfl) hL9; have p6' : t9[145]? = some (.slice (some ⟨g9', 0, none⟩) 1 1) := by rw [p9_6, e9_6, eg9]
          have r9 := hM9.1.r4 (hD9 4 rfl) hL9; obtain ⟨v9, w9', hr9, ho9, hg9, hat9⟩ := run_append_src (P := Tryz.prog) w9 B9' 35 35 49 i1 _ 5 48 Tryz.underlying35 hi1 hy0 hy1 hy2 rfl (by decide) _ _ _ r9 (some ⟨g9', 0, none⟩) 1 1 ([.string sw, .int .i64 (n1 : Int), .int .i64 (C.toks.length : Int), .int .i64 (b3 : Int), .int .i64 (N : Int)]) rfl og9.rd0 (by intro u hu; simp at hu; rcases hu with rfl | rfl | rfl | rfl | rfl <;> rfl) (by unfold maxLen; omega) (by omega) hM9.1.hs; have g9 := below_grown9 hg9 (own_lt r9) hM9.1.hs; have M9 := Z' (hM9.1.i7 (hD9 4 rfl) (hD9 6 rfl) hL9 ho9 hg9); have F9 := Z' (hM9.2.1.step 7 (fun e => absurd e (by decide)) (fun e => absurd e (by decide)) (fun _ => hD9 4 rfl) (fun e => absurd e (by decide)) (fun e => absurd e (by decide)) (fun e => absurd e (by decide))); have Q9 := Z' hM9.2.2.1; have q9 := Z' hM9.2.2.2; subst e9_4; clear hM9 r9 ho9 hg9 hat9 hL9 hD9 hN9
          rw [if_pos (wanted_of9 rfl)]; exact wp_append_eq (.tmp 143) (.tmp 145) 35 rfl _ _ v9 (ev_tmp9 p9_4) (ev_tmp9 p6') hr9 (hK9 _ _ g9 trivial ⟨M9.out, F9.out, Q9.out, q9.out⟩)
         case s4_8 =>
          intro l u t w T L D V O N M K k; clear V O; have o5 := N 12 9 rfl (of_decide_eq_true (by kernel_rfl)); rw [M.2.2.1 (M.2.1.l12_8 L)] at o5; have F9 := Z' (M.2.1.step 8 (fun e => absurd e (by decide)) (fun e => absurd e (by decide)) (fun e => absurd e (by decide)) (fun e => absurd e (by decide)) (fun e => absurd e (by decide)) (fun e => absurd e (by decide))); have m9 := Z' M.1; have M2 := Z' M.2.2; clear M L D N; go_simp; refine k _ _ (Below.refl _ w) ?_ ⟨m9.out, F9.out, M2.out⟩; exact rfl
         case s4_9 =>
          intro L9 u9 t9 w9 hT9 hL9 hD9 hV9 hO9 hN9 hM9 K9 hK9; have o9_15 := hO9.l 15; clear hV9 hO9; have F9 := Z' (hM9.2.1.step 9 (fun e => absurd e (by decide)) (fun e => absurd e (by decide)) (fun e => absurd e (by decide)) (fun e => absurd e (by decide)) (fun e => absurd e (by decide)) (fun e => absurd e (by decide))); have m9 := Z' hM9.1; have M2 := Z' hM9.2.2; clear hM9 hL9 hD9 hN9; go_simp; refine hK9 _ _ (Below.refl _ w9) ?_ ⟨m9.out, F9.out, M2.out⟩; exact rfl
         case s4_10 =>
          intro L9 u9 t9 w9 hT9 hL9 hD9 hV9 hO9 hN9 hM9 K9 hK9; have p9_8 : t9[147]? = some ?v4_8 := hV9.l 8 147; have p9_9 : t9[148]? = some ?v4_9 := hV9.l 9 148; clear hV9 hO9; have F9 := Z' (hM9.2.1.step 10 (fun e => absurd e (by decide)) (fun e => absurd e (by decide)) (fun e => absurd e (by decide)) (fun e => absurd e (by decide)) (fun e => absurd e (by decide)) (fun _ => hD9 8 rfl)); have m9 := Z' hM9.1; have M2 := Z' hM9.2.2; clear hM9 hL9 hD9 hN9; go_simp; refine hK9 _ _ (Below.refl _ w9) ?_ ⟨m9.out, F9.out, M2.out⟩; exact rfl
         case s4_11 =>
          intro L9 u9 t9 w9 hT9 hL9 hD9 hV9 hO9 hN9 hM9 K9 hK9; obtain ⟨x9_7, p9_7, q9_7⟩ := hV9.g 7 146 rfl rfl (by kernel_rfl); obtain ⟨q9_7, e9_7⟩ := q9_7; replace q9_7 : ((fun _ _ => True)) x9_7 w9 := q9_7; have p9_10 : t9[149]? = some ((.slice A2 (m - (k)) (c - (k)))) := hV9.l 10 149; clear hV9 hO9; have r9 := hM9.1.r7 (hD9 7 rfl) hL9; obtain ⟨v9, w9', hr9, ho9, hg9, hat9⟩ := run_append_src (P := Tryz.prog) w9 B9' 35 35 49 i1 _ 5 48 Tryz.underlying35 hi1 hy0 hy1 hy2 rfl (by decide) _ _ _ r9 A2 (m - (k)) (c - (k)) ((flat5 cc l).drop ((k) * 5)) (by rw [List.length_drop, HLL.out, <- Nat.sub_mul]) (HRD.out _ hT9) (fun u hu => flat5_one9 H1.out u (List.mem_of_mem_drop hu)) (by unfold maxLen; omega) (by omega) hM9.1.hs; have g9 := below_grown9 hg9 (own_lt r9) hM9.1.hs; have h12 : L9 12 = false := bool_f hM9.2.1.fcb hL9; have M9 := Z' (hM9.1.i11 (hD9 7 rfl) ho9 hg9); have F9 := Z' (hM9.2.1.step 11 (fun e => absurd e (by decide)) (fun e => absurd e (by decide)) (fun e => absurd e (by decide)) (fun _ => ⟨hD9 7 rfl, hD9 10 rfl⟩) (fun e => absurd e (by decide)) (fun e => absurd e (by decide)))
          have Q9 := Z' hM9.2.2.1; have q9 := Z' h12; subst e9_7; clear hM9 r9 ho9 hg9 hat9 hL9 hD9 hN9 h12; rw [if_pos (wanted_of9 rfl)]; exact wp_append_eq (.tmp 146) (.tmp 149) 35 rfl _ _ v9 (ev_tmp9 p9_7) (ev_tmp9 p9_10) hr9 (hK9 _ _ g9 trivial ⟨M9.out, F9.out, Q9.out, (fun h => by have h12 := q9.out; exact absurd (h12.symm.trans h) (by decide))⟩)
         case s4_12 =>
          intro l u t w T L D V O N M K k; obtain ⟨x11, p11, q11⟩ := V 11 150 rfl rfl (of_decide_eq_true (by kernel_rfl)); obtain ⟨q11, e11⟩ := q11; replace q11 : ((fun _ _ => True)) x11 w := q11; clear V O; have F9 := Z' (M.2.1.step 12 (fun e => absurd e (by decide)) (fun e => absurd e (by decide)) (fun e => absurd e (by decide)) (fun e => absurd e (by decide)) (fun _ => D 11 rfl) (fun e => absurd e (by decide))); have m9 := Z' M.1; have E9 := Z' e11; clear M L D N e11; go_simp; exact k _ _ (Below.refl _ w) trivial ⟨m9.out, F9.out, (fun h => nomatch h), fun _ => E9.out⟩
         case n4 =>
          intro L9 u9 h9 n9; have h1 := h9 0 (by decide); have h2 := h9 4 (by decide); have h3 := h9 6 (by decide); have h4 := h9 7 (by decide); have h5 := h9 11 (by decide); have h6 := h9 12 (by decide); have hF := FL.zero h9; have n5 : u9 12 = .slice (A) m c := Option.some.inj (n9 12 9 rfl (of_decide_eq_true (by kernel_rfl))).symm
          show IM B9' 49 5 (k) ((flat5 cc l).take ((k) * 5)) [.string sw, .int .i64 (n1 : Int), .int .i64 (C.toks.length : Int), .int .i64 (b3 : Int), .int .i64 (N : Int)] (m - (k)) ((flat5 cc l).drop ((k) * 5)) (L9 0) (L9 4) (L9 6) (L9 7) (L9 11) _ _ _ _ _ _ /\ _
          rw [h1, h2, h3, h4, h5]; exact ⟨IM.start (w := World.drew wr) hs9 _ _ _ _ _, hF, fun _ => n5, fun h => by rw [h6] at h; cases h⟩
         case k4 =>
          intro i9 v9 w9 x9 h9 g9
          match i9, h9 with
          | 0, h9 => (replace h9 : (fun _ _ => True) v9 w9 := h9); exact trivial
          | 1, h9 => exact h9
          | 2, h9 => exact h9
          | 3, h9 => exact h9
          | 4, h9 => (replace h9 : (fun _ _ => True) v9 w9 := h9); exact trivial
          | 5, h9 => exact h9
          | 6, h9 => (replace h9 : (fun _ _ => True) v9 w9 := h9); exact trivial
          | 7, h9 => (replace h9 : (fun _ _ => True) v9 w9 := h9); exact trivial
          | 8, h9 => exact h9
          | 9, h9 => exact h9
          | 10, h9 => exact h9
          | 11, h9 => (replace h9 : (fun _ _ => True) v9 w9 := h9); exact trivial
          | 12, h9 => (replace h9 : (fun _ _ => True) v9 w9 := h9); exact trivial
          | _ + 13, h9 => exact trivial
         intro u9 w9 hE9 hM9 hu9; have r9_0 : (fun _ _ => True) (u9 0) w9 := hu9 0 (by decide); have r9_1 : u9 1 = ?v4_1 := hu9 1 (by decide); have r9_2 : u9 2 = ?v4_2 := hu9 2 (by decide); have r9_3 : u9 3 = (.slice A1 (k) c) := hu9 3 (by decide); have r9_4 : (fun _ _ => True) (u9 4) w9 := hu9 4 (by decide); have r9_5 : u9 5 = ?v4_5 := hu9 5 (by decide); have r9_6 : (fun _ _ => True) (u9 6) w9 := hu9 6 (by decide); have r9_7 : (fun _ _ => True) (u9 7) w9 := hu9 7 (by decide); have r9_8 : u9 8 = ?v4_8 := hu9 8 (by decide); have r9_9 : u9 9 = ?v4_9 := hu9 9 (by decide); have r9_10 : u9 10 = (.slice A2 (m - (k)) (c - (k))) := hu9 10 (by decide); have r9_11 : (fun _ _ => True) (u9 11) w9 := hu9 11 (by decide); have r9_12 : (fun _ _ => True) (u9 12) w9 := hu9 12 (by decide); clear hu9
         simp only [putAll, Act.put, List.setIfInBounds_toArray, List.set_cons_succ, List.set_cons_zero, List.getD_cons_succ, List.getD_cons_zero, Nat.reduceAdd, Nat.zero_add]
         simp only [r9_1, r9_2, r9_3, r9_5, r9_8, r9_9, r9_10]
         clear r9_1 r9_2 r9_3 r9_5 r9_8 r9_9 r9_10; have hrow := hM9.1.r11 rfl; rw [<- hM9.2.2.2 rfl] at hrow; clear hM9 HRT HRD hs1 hs2 r9_0 r9_4 r9_6 r9_7 r9_11 r9_12 hi1 hy0 hy1 hy2 HR7; generalize u9 12 = v12 at hrow |-; obtain ⟨l2, hl2⟩ : ∃ x, x = l.take (k) ++ [sw] ++ l.drop (k) := ⟨_, rfl⟩; have HL2 := Z' hl2; have HML2 : Hid (m + 1 = l2.length) := by show _ = _; rw [hl2]; simp [<- HML.out]; omega
         have HRW8 : Hid (w9.ownsRow B5 49 5 v12 (m + 1) (flat5 cc l2)) := by
          have e1 : (k) + 1 + (m - (k)) = m + 1 := by omega
          obtain ⟨e3, e4⟩ := flat5_split (l := l) H5.out (k) (by rw [<- HML.out]; omega); rw [e1, e3, e4, <- HC5.out] at hrow; have e2 : flat5 cc l2 = flat5 cc (l.take (k)) ++ cc sw ++ flat5 cc (l.drop (k)) := by rw [hl2, flat5_app, flat5_app, flat5_one]
          rw [e2]; exact ownsRow_base hrow (by have := HB9'.out; omega)
         clear hrow hl2; obtain ⟨A3, c3, rfl, -, -⟩ := own_form HRW8.out; have hbx : Below B9' wr w9 := (Below.refl B9' wr).drew.trans hE9; have hb8 : Below B5 w1 w9 := hb77.trans (hbx.mono (by have := HB9'.out; omega)); have hw8 : B5 <= w9.heap.size := by have := hbx.size; omega
         have HSI := Z' (HSR.out.insert9 (ltK_tot _ _) (s := sw) (k := k) (by rw [<- HML.out]; omega) HDR.out HPV.out); have HSR2 : Hid (Srt (ltK (cn (wordsOf C j)) (cn (wordsOf D j))) l2) := by rw [HL2.out]; exact HSI.out.1
         have HME2 : Hid (∀ s, s ∈ l2 ↔ s ∈ (wordsOf C j).take (i + 1)) := fun s => by rw [HL2.out, HSI.out.2 s, mem_take9 HW.out s, <- HME.out s]
         clear hE9 hbx
         go_wp2
         go_roundg (C.toks.length + 1 - (i + 1))
         case measure => omega
         case rel => exact ⟨i + 1, m + 1, l2, A3, c3, rfl, by omega, by go_num, rfl, by omega, HML2, HRW8, HSR2, HME2, hb8, hw8⟩
     ·skip
      have ei : i = C.toks.length := by omega
      subst ei; have hbz : Below B w wr := hbB1.trans (hb5.mono (by omega)); have HRES : Hid (ResK C D (j : Int) w.heap.size wr (.returned (.tuple #[.slice A m c, .int .i64 0]))) := by
       refine .ok HC.out HEQ.out HZ.out _ l ?_ HSR.out ?_
       ·refine ⟨l.map cc, ?_, ?_⟩
        ·have := flat5_els (l := l) H5.out; rw [HCC.out] at this |-; exact this
        ·have := SO.of_own (S := fun k => k < w.heap.size) HRW.out (fun k hk e => by have := HB5.out; have := HB.out; omega); rw [HML.out] at this |-; exact this
       ·intro s; have := HME.out s; rw [List.take_of_length_le (by rw [wordsOf_length]; exact Nat.le_refl _)] at this; exact this
      go_wp2
      exact bodyPost_ret (v := .tuple #[.slice A m c, .int .i64 0]) (by simp [results, Tryz.results11, go_sem]) rfl ⟨HRES.out, HB.out ▸ hbz⟩
 ·skip
  have HNE : Hid (¬ C.attrs = D.attrs) := fun e => hlen (by rw [e]); have ue : (((C.attrs.length : Int) : Int) == ((D.attrs.length : Int) : Int)) = false := beq_eq_false_iff_ne.2 (by omega); have ud : (((C.attrs.length : Int) : Int) != ((D.attrs.length : Int) : Int)) = true := by rw [bne_iff_ne]; omega
  have une : ((C.attrs.length : Nat) == (D.attrs.length : Nat)) = false := beq_eq_false_iff_ne.2 (by omega); have und : ((C.attrs.length : Nat) != (D.attrs.length : Nat)) = true := by rw [bne_iff_ne]; omega
  clear hlen
  go_wp2
  exact bodyPost_ret (v := .tuple #[.slice none 0 0, .int .i64 17]) (by simp [results, Tryz.results11, go_sem]) rfl ⟨HB.out ▸ .type HC.out HNE.out, HB.out ▸ hbw⟩
end Go.Proofs.YtjimfbmegmnocaaGreatDoor
