/- Parts of the proof: Wl, We. No condition of its own. -/
import Derived.Test.YtjimfbmegmnocaaGreatDoorWd
import Derived.Test.YtjimfbmegmnocaaGreatDoorWg
import Derived.Test.YtjimfbmegmnocaaGreatDoorWt
set_option linter.unusedSimpArgs false
set_option linter.unusedVariables false
set_option maxRecDepth 100000
set_option maxHeartbeats 4000000
namespace Go.Proofs.YtjimfbmegmnocaaGreatDoor
open Go.RowKit

theorem ResC.form {C : Cor} {L : List (Int × Int)} {W a : Int} {B : Nat} {w : World} {e : Ending} (h : ResC C L W a B w e) : ∃ v k, e = .returned (.tuple #[v, .int .i64 k]) := by
 cases h with
 | arg => exact ⟨_, _, rfl⟩
 | range => exact ⟨_, _, rfl⟩
 | ok h h2 v l hv hs hm => exact ⟨v, 0, rfl⟩
theorem ResC.pair {C : Cor} {L : List (Int × Int)} {W a : Int} {B B' : Nat} {w w' : World} {v v' : Value} {k k' : Int} (h : ResC C L W a B w (.returned (.tuple #[v, .int .i64 k]))) (h' : ResC C L W a B' w' (.returned (.tuple #[v', .int .i64 k']))) (hb : Below w.heap.size w w') :
  k = k' /\ ∃ l, EO (fun _ => False) w' 5 (fun s e => e = colC C a.toNat (nearL C W L) s) v l /\ EO (fun _ => False) w' 5 (fun s e => e = colC C a.toNat (nearL C W L) s) v' l := by
 cases h with
 | arg h =>
  cases h' with
  | arg h' => exact ⟨rfl, [], EO.nil _ _ _ _, EO.nil _ _ _ _⟩
  | range h' => exact absurd h h'
  | ok h' => exact absurd h h'
 | range h h2 =>
  cases h' with
  | arg h' => exact absurd h' h
  | range h' => exact ⟨rfl, [], EO.nil _ _ _ _, EO.nil _ _ _ _⟩
  | ok h' h3 => obtain ⟨q, hq, hn⟩ := h2; exact absurd hn (h3 q hq)
 | ok h h2 _ l hv hs hm =>
  cases h' with
  | arg h' => exact absurd h' h
  | range h' h3 => obtain ⟨q, hq, hn⟩ := h3; exact absurd hn (h2 q hq)
  | ok h' h3 _ l' hv' hs' hm' =>
   obtain rfl : l = l' := hs.uniq (ltC_tot _) hs' (fun x => (hm x).trans (hm' x).symm); exact ⟨rfl, l, (EO.below hv hb).weak' (fun _ h => h.elim), hv'.weak' (fun _ h => h.elim)⟩
theorem colC_form (C : Cor) (a : Nat) (bl : List Bool) (s : ByteArray) : ∃ z x1 x2 x3 x4, colC C a bl s = [.string z, .int .i64 x1, .int .i64 x2, .int .i64 x3, .int .i64 x4] := ⟨_, _, _, _, _, rfl⟩
theorem mod_lit9 (x : Int) (i : Int) (n : Nat) (hi : i = (n : Int)) (h1 : -9223372036854775808 <= x) (h2 : x <= 9223372036854775807) (hn : 0 < n) (hn2 : n <= 1000000) : ∃ k : Nat, k < n /\ ∀ w, Calls Tryz.prog 9 #[.int .i64 x, .int .i64 i] w fun e w' => e = .returned (.int .i64 (k : Int)) /\ w = w' := by
 subst hi; obtain ⟨k, hk⟩ : ∃ k : Nat, x % (n : Int) = (k : Int) := ⟨(x % (n : Int)).toNat, by have := Int.emod_nonneg x (show (n : Int) ≠ 0 by omega); omega⟩; have hlt := Int.emod_lt_of_pos x (show (0 : Int) < n by omega); exact ⟨k, by omega, fun w => (mod_any x n w hn hn2 h1 h2).mono fun e w' ⟨h3, h4⟩ => ⟨by rw [h3, hk], h4⟩⟩
theorem corpus_lit9 {T : Option Addr × List Int × Nat} {B p : Nat} (w : World) (tp : TP T B w p) (i : Int) (most : Nat) (hi : i = (most : Int)) (hm0 : 0 < most) (hm : most <= 100) :
  Calls Tryz.prog 8 #[.pointer (some ⟨p, 0, none⟩), .int .i64 i] w fun e w' => (∃ v C, e = .returned v /\ CorV (fun k => k < w.heap.size) w' v C /\ MadeC (4 * most) C) /\ TP T B w' p /\ Chg (fun k => k = p) w w' := hi ▸ corpus_made w tp most hm0 hm
open Go.RowKit

theorem eqAttrs_any {S T : Nat -> Prop} (w : World) {v z : Value} {l m : List (ByteArray × Bool)} (ha : AttrsO S w v l) (hb : AttrsO T w z m) :
  Calls Tryz.prog 22 #[v, z] w fun e w' => RetB (l = m) e /\ Below w.heap.size w w' := by
 obtain ⟨A, c, rfl, h1, h2, ha⟩ := EO.form ha; obtain ⟨A2, c2, rfl, h3, h4, hb⟩ := EO.form hb; unfold maxLen at h2 h4
 by_cases hlen : l.length = m.length
 ·skip
  have ue : (((l.length : Int) : Int) == ((m.length : Int) : Int)) = true := beq_iff_eq.2 (by omega); have ud : (((l.length : Int) : Int) != ((m.length : Int) : Int)) = false := by rw [bne_eq_false_iff_eq]; omega
  have une : ((l.length : Nat) == (m.length : Nat)) = true := beq_iff_eq.2 (by omega); have und : ((l.length : Nat) != (m.length : Nat)) = false := by rw [bne_eq_false_iff_eq]; omega
  have HL := Z' hlen; have hle : l.length <= m.length := by omega
  clear hlen
  go_enter Tryz.func22, Tryz.ntmps22
  go_wp2_with fail
  clear ue ud une und
  go_loopg [13] (l.length + 1) (fun q v wr => ∃ j : Nat, q = l.length + 1 - j /\ j <= l.length /\ v = .int .i64 (j : Int) /\ Hid (∀ i (h : i < l.length) (h' : i < m.length), i < j -> l[i] = m[i]) /\ Below w.heap.size w wr)
  case atStart => exact ⟨0, rfl, Nat.zero_le _, rfl, fun _ _ _ h => absurd h (Nat.not_lt_zero _), Below.refl _ _⟩
  case round =>
   obtain ⟨j, rfl, hj, rfl, HE, hbr⟩ := hrel; have hwr := hbr.size
   by_cases hlt : j < l.length
   ·have hlt' : j < m.length := by omega
    obtain ⟨b, off, rfl, -, k0, k1, -⟩ := AttrsO.get (EO.below ha hbr) hlt; obtain ⟨b2, off2, rfl, -, k2, k3, -⟩ := AttrsO.get (EO.below hb hbr) hlt'; obtain ⟨P, hP⟩ : ∃ P, P = l[j] := ⟨_, rfl⟩; obtain ⟨Q, hQ⟩ : ∃ Q, Q = m[j] := ⟨_, rfl⟩; rw [<- hP] at k0 k1; rw [<- hQ] at k2 k3; have HP := Z' hP; have HQ := Z' hQ; clear hP hQ; obtain ⟨p1, p2⟩ := P; obtain ⟨q1, q2⟩ := Q
    dsimp only at k0 k1 k2 k3
    go_upto_region 6 with (fail)
    by_cases he : p1 = q1 /\ p2 = q2
    ·obtain ⟨rfl, rfl⟩ := he; have d1 : (p1.toList == p1.toList) = true := by rw [str_beq]; exact decide_eq_true rfl
     refine wp_reg_f [some 16, some 17, some 18, some 19, some 20, some 21, some 22, some 23, some 24] [?v1_0, ?v1_1, ?v1_2, ?v1_3, ?v1_4, ?v1_5, ?v1_6, ?v1_7, ?v1_8] [[], [], [0, 1], [2], [], [], [4, 5], [6], [3, 7]] [(0, _), (1, _), (5, _)] ⟨rfl, rfl, rfl, trivial⟩ rfl (by kernel_rfl) rfl rfl (by kernel_rfl) (by kernel_rfl) ⟨?s1_0, ?s1_1, ?s1_2, ?s1_3, ?s1_4, ?s1_5, ?s1_6, ?s1_7, ?s1_8, trivial⟩ ?p1
     all_goals try (intro t9 w9 hT9 K9 hK9; simp only [OV, FV, List.getD_cons_succ, List.getD_cons_zero, Option.getD_some]; intros)
     case s1_0 | s1_1 | s1_2 | s1_3 | s1_4 | s1_5 | s1_6 | s1_7 | s1_8 =>
      have d9_0 := grow_cell hT9 k0; have d9_1 := grow_cell hT9 k1; have d9_2 := grow_cell hT9 k2; have d9_3 := grow_cell hT9 k3
      go_simp; exact hK9 _ (Grow.refl _)
     intro w9 hb9
     simp only [putL, Act.put, List.setIfInBounds_toArray, List.set_cons_succ, List.set_cons_zero]
     go_wp2
     go_roundg (l.length + 1 - (j + 1))
     case measure => omega
     case rel => exact ⟨j + 1, rfl, by omega, by go_num, fun i h h' hi => if e : i = j then by subst e; rw [<- HP.out, <- HQ.out] else HE.out i h h' (by omega), belowB hbr hwr hb9⟩
    ·have HNE : Hid (¬ l = m) := fun e => by
      subst e; have e9 := HP.out.trans HQ.out.symm
      injection e9 with e1 e2
      exact he ⟨e1, e2⟩
     by_cases h1 : p1 = q1
     ·have d0 : ¬ p2 = q2 := fun e => he ⟨h1, e⟩; clear he; subst h1; refine wp_reg_f [some 16, some 17, some 18, some 19, some 20, some 21, some 22, some 23, some 24] [?v2_0, ?v2_1, ?v2_2, ?v2_3, ?v2_4, ?v2_5, ?v2_6, ?v2_7, ?v2_8] [[], [], [0, 1], [2], [], [], [4, 5], [6], [3, 7]] [(0, _), (1, _), (5, _)] ⟨rfl, rfl, rfl, trivial⟩ rfl (by kernel_rfl) rfl rfl (by kernel_rfl) (by kernel_rfl) ⟨?s2_0, ?s2_1, ?s2_2, ?s2_3, ?s2_4, ?s2_5, ?s2_6, ?s2_7, ?s2_8, trivial⟩ ?p2
      all_goals try (intro t9 w9 hT9 K9 hK9; simp only [OV, FV, List.getD_cons_succ, List.getD_cons_zero, Option.getD_some]; intros)
      case s2_0 | s2_1 | s2_2 | s2_3 | s2_4 | s2_5 | s2_6 | s2_7 | s2_8 =>
       have d9_0 := grow_cell hT9 k0; have d9_1 := grow_cell hT9 k1; have d9_2 := grow_cell hT9 k2; have d9_3 := grow_cell hT9 k3
       go_simp; exact hK9 _ (Grow.refl _)
      intro w9 hb9
      simp only [putL, Act.put, List.setIfInBounds_toArray, List.set_cons_succ, List.set_cons_zero]
      clear d0
      go_wp2
      go_ret
      exact ⟨RetB.no HNE.out, belowB hbr hwr hb9⟩
     ·have d0 : ¬ p1.toList = q1.toList := fun e => h1 (bytes_ext (by rw [<- ByteArray.toList_eq, e, ByteArray.toList_eq])); clear he h1; refine wp_reg_f [some 16, some 17, some 18, some 19, some 20, some 21, some 22, some 23, some 24] [?v3_0, ?v3_1, ?v3_2, ?v3_3, ?v3_4, ?v3_5, ?v3_6, ?v3_7, ?v3_8] [[], [], [0, 1], [2], [], [], [4, 5], [6], [3, 7]] [(0, _), (1, _), (5, _)] ⟨rfl, rfl, rfl, trivial⟩ rfl (by kernel_rfl) rfl rfl (by kernel_rfl) (by kernel_rfl) ⟨?s3_0, ?s3_1, ?s3_2, ?s3_3, ?s3_4, ?s3_5, ?s3_6, ?s3_7, ?s3_8, trivial⟩ ?p3
      all_goals try (intro t9 w9 hT9 K9 hK9; simp only [OV, FV, List.getD_cons_succ, List.getD_cons_zero, Option.getD_some]; intros)
      case s3_0 | s3_1 | s3_2 | s3_3 | s3_4 | s3_5 | s3_6 | s3_7 | s3_8 =>
       have d9_0 := grow_cell hT9 k0; have d9_1 := grow_cell hT9 k1; have d9_2 := grow_cell hT9 k2; have d9_3 := grow_cell hT9 k3
       go_simp; exact hK9 _ (Grow.refl _)
      intro w9 hb9
      simp only [putL, Act.put, List.setIfInBounds_toArray, List.set_cons_succ, List.set_cons_zero]
      clear d0
      go_wp2
      go_ret
      exact ⟨RetB.no HNE.out, belowB hbr hwr hb9⟩
   ·go_wp2
    go_ret
    exact ⟨RetB.yes (List.ext_getElem HL.out fun i h h' => HE.out i h h' (by omega)), hbr⟩
 ·have HNE : Hid (¬ l = m) := fun e => hlen (by rw [e]); have ue : (((l.length : Int) : Int) == ((m.length : Int) : Int)) = false := beq_eq_false_iff_ne.2 (by omega); have ud : (((l.length : Int) : Int) != ((m.length : Int) : Int)) = true := by rw [bne_iff_ne]; omega
  have une : ((l.length : Nat) == (m.length : Nat)) = false := beq_eq_false_iff_ne.2 (by omega); have und : ((l.length : Nat) != (m.length : Nat)) = true := by rw [bne_iff_ne]; omega
  clear hlen
  go_enter Tryz.func22, Tryz.ntmps22
  go_wp2
  go_ret
  exact ⟨RetB.no HNE.out, Below.refl _ _⟩
theorem keywords_any {S S' : Nat -> Prop} (w : World) {a t x r n h s a' t' x' r' n' h' s' : Value} {C D : Cor} (q : CorC S w a t x r n h s C) (q' : CorC S' w a' t' x' r' n' h' s' D) (hF : FitC C) (hG : FitC D) (at_ : Int) (hat1 : at_ <= 9223372036854775807) :
  Calls Tryz.prog 10 #[.agg #[a, t, x, r, n, h, s], .agg #[a', t', x', r', n', h', s'], .int .i64 at_] w fun e w' => ResK C D at_ w.heap.size w' e /\ Below w.heap.size w w' := by
 obtain ⟨Aa, ca, rfl, u1_0, u2_0, -⟩ := EO.form q.a; obtain ⟨At, ct, rfl, u1_1, u2_1, -⟩ := EO.form q.t; obtain ⟨Ax, cx, rfl, u1_2, u2_2, -⟩ := EO.form q.x; obtain ⟨Ar, cr, rfl, u1_3, u2_3, -⟩ := EO.form q.r; obtain ⟨An, cn9, rfl, u1_4, u2_4, -⟩ := EO.form q.n; obtain ⟨Ah, ch, rfl, u1_5, u2_5, -⟩ := EO.form q.h; obtain ⟨As, cs, rfl, u1_6, u2_6, -⟩ := EO.form q.s; obtain ⟨Da, da, rfl, v1_0, v2_0, -⟩ := EO.form q'.a; obtain ⟨Dt, dt, rfl, v1_1, v2_1, -⟩ := EO.form q'.t; obtain ⟨Dx, dx, rfl, v1_2, v2_2, -⟩ := EO.form q'.x; obtain ⟨Dr, dr, rfl, v1_3, v2_3, -⟩ := EO.form q'.r; obtain ⟨Dn, dn, rfl, v1_4, v2_4, -⟩ := EO.form q'.n; obtain ⟨Dh, dh, rfl, v1_5, v2_5, -⟩ := EO.form q'.h; obtain ⟨Ds, ds, rfl, v1_6, v2_6, -⟩ := EO.form q'.s; unfold maxLen at u2_0 u2_1 u2_2 u2_3 u2_4 u2_5 u2_6 v2_0 v2_1 v2_2 v2_3 v2_4 v2_5 v2_6; have hfew := hF.few; have gfew := hG.few; obtain ⟨o_c, o_d, hbw⟩ := new2 w [.slice Aa C.attrs.length ca, .slice At C.toks.length ct, .slice Ax C.texts.length cx, .slice Ar C.regs.length cr, .slice An C.nodes.length cn9, .slice Ah C.heads.length ch, .slice As C.rels.length cs] [.slice Da D.attrs.length da, .slice Dt D.toks.length dt, .slice Dx D.texts.length dx, .slice Dr D.regs.length dr, .slice Dn D.nodes.length dn, .slice Dh D.heads.length dh, .slice Ds D.rels.length ds] 30 30
 have HQ := Z' (q.below hbw); have HR := Z' (q'.below hbw); have hsz : ((w.alloc (.cells #[.slice Aa C.attrs.length ca, .slice At C.toks.length ct, .slice Ax C.texts.length cx, .slice Ar C.regs.length cr, .slice An C.nodes.length cn9, .slice Ah C.heads.length ch, .slice As C.rels.length cs] 30)).alloc (.cells #[.slice Da D.attrs.length da, .slice Dt D.toks.length dt, .slice Dx D.texts.length dx, .slice Dr D.regs.length dr, .slice Dn D.nodes.length dn, .slice Dh D.heads.length dh, .slice Ds D.rels.length ds] 30)).heap.size = w.heap.size + 1 + 1 := by simp
 go_enter Tryz.func10, Tryz.ntmps10
 go_upto_region 1 with (fail)
 generalize ((w.alloc (.cells #[.slice Aa C.attrs.length ca, .slice At C.toks.length ct, .slice Ax C.texts.length cx, .slice Ar C.regs.length cr, .slice An C.nodes.length cn9, .slice Ah C.heads.length ch, .slice As C.rels.length cs] 30)).alloc (.cells #[.slice Da D.attrs.length da, .slice Dt D.toks.length dt, .slice Dx D.texts.length dx, .slice Dr D.regs.length dr, .slice Dn D.nodes.length dn, .slice Dh D.heads.length dh, .slice Ds D.rels.length ds] 30)) = wb at o_c o_d hbw hsz HQ HR |-; obtain ⟨B, hB⟩ : ∃ B, B = w.heap.size := ⟨_, rfl⟩; rw [<- hB] at o_c o_d hsz hbw |-; have HB := Z' hB; clear hB q q'; have b0 := o_c.c0; have e0 := o_d.c0
 by_cases hc1 : at_ < 0
 ·have d1 : decide (at_ < 0) = true := decide_eq_true hc1; have HC : Hid (at_ < 0 \/ (C.attrs.length : Int) <= at_ \/ (D.attrs.length : Int) <= at_) := .inl hc1; clear hc1
  go_wp2
  exact bodyPost_ret (v := .tuple #[.slice none 0 0, .int .i64 1]) (by simp [results, Tryz.results10, go_sem]) rfl ⟨HB.out ▸ .arg HC.out, HB.out ▸ hbw⟩
 have d1 : decide (at_ < 0) = false := decide_eq_false hc1; obtain ⟨mn, hmn⟩ : ∃ m : Nat, m = min C.attrs.length D.attrs.length := ⟨_, rfl⟩; have hmn2 : min (C.attrs.length : Int) (D.attrs.length : Int) = (mn : Int) := by omega
 by_cases hc2 : (mn : Int) <= at_
 ·have d2 : decide ((mn : Int) <= at_) = true := decide_eq_true hc2; have HC : Hid (at_ < 0 \/ (C.attrs.length : Int) <= at_ \/ (D.attrs.length : Int) <= at_) := by show _ \/ _; omega
  clear hc2 hmn
  go_wp2
  exact bodyPost_ret (v := .tuple #[.slice none 0 0, .int .i64 1]) (by simp [results, Tryz.results10, go_sem]) rfl ⟨HB.out ▸ .arg HC.out, HB.out ▸ hbw⟩
 have d2 : decide ((mn : Int) <= at_) = false := decide_eq_false hc2; have HC : Hid (¬ (at_ < 0 \/ (C.attrs.length : Int) <= at_ \/ (D.attrs.length : Int) <= at_)) := by show ¬ _; omega
 have hj1 : at_ < C.attrs.length := by omega
 have hj2 : at_ < D.attrs.length := by omega
 clear hmn hc2
 go_upto_region 3 with (fail)
 clear d1 d2 hmn2; obtain ⟨j, rfl⟩ : ∃ j : Nat, at_ = (j : Int) := ⟨at_.toNat, by omega⟩; have HJ : Hid (∀ row ∈ C.toks, j < row.length) := fun row hr => by have := hF.wide row hr; omega
 have HJD : Hid (∀ row ∈ D.toks, j < row.length) := fun row hr => by have := hG.wide row hr; omega
 clear hc1 hj1 hj2 hat1 hF hG
 go_wp2_with fail
 clear b0 e0; refine (eqAttrs_any wb HQ.out.a HR.out.a).mono ?_; rintro e w1 ⟨hret, hb1⟩; have hw1 := hb1.size; have hbw1 : Below (B + 1 + 1) wb w1 := hb1.mono (by omega); have o_c1 := o_c.below hb1 (by omega); have o_d1 := o_d.below hb1 (by omega); have HQ1 := Z' (HQ.out.below hb1); have HR1 := Z' (HR.out.below hb1); have hbB1 : Below B w w1 := hbw.trans (hbw1.mono (by omega)); clear HQ HR o_c o_d hb1
 by_cases hq : C.attrs = D.attrs
 ·skip
  obtain ⟨bb, rfl, hbb⟩ := hret; obtain rfl : bb = true := hbb.2 hq; have HE := Z' hq; clear hq hbb; have b1 := o_c1.c1; have e1 := o_d1.c1
  by_cases hz1 : C.toks.length = 0
  ·skip
   have HZ : Hid (C.toks.length = 0 \/ D.toks.length = 0) := .inl hz1; have f1e : (((C.toks.length : Int) : Int) == (0 : Int)) = true := beq_iff_eq.2 (by omega); have f1d : (((C.toks.length : Int) : Int) != (0 : Int)) = false := by rw [bne_eq_false_iff_eq]; omega
   have f1ne : ((C.toks.length : Nat) == (0 : Nat)) = true := beq_iff_eq.2 (by omega); have f1nd : ((C.toks.length : Nat) != (0 : Nat)) = false := by rw [bne_eq_false_iff_eq]; omega
   clear hz1
   go_wp2
   exact bodyPost_ret (v := .tuple #[.slice none 0 0, .int .i64 14]) (by simp [results, Tryz.results10, go_sem]) rfl ⟨HB.out ▸ .value HC.out HE.out HZ.out, HB.out ▸ hbB1⟩
  have f1e : (((C.toks.length : Int) : Int) == (0 : Int)) = false := beq_eq_false_iff_ne.2 (by omega); have f1d : (((C.toks.length : Int) : Int) != (0 : Int)) = true := by rw [bne_iff_ne]; omega
  have f1ne : ((C.toks.length : Nat) == (0 : Nat)) = false := beq_eq_false_iff_ne.2 (by omega); have f1nd : ((C.toks.length : Nat) != (0 : Nat)) = true := by rw [bne_iff_ne]; omega
  by_cases hz2 : D.toks.length = 0
  ·skip
   have HZ : Hid (C.toks.length = 0 \/ D.toks.length = 0) := .inr hz2; have f2e : (((D.toks.length : Int) : Int) == (0 : Int)) = true := beq_iff_eq.2 (by omega); have f2d : (((D.toks.length : Int) : Int) != (0 : Int)) = false := by rw [bne_eq_false_iff_eq]; omega
   have f2ne : ((D.toks.length : Nat) == (0 : Nat)) = true := beq_iff_eq.2 (by omega); have f2nd : ((D.toks.length : Nat) != (0 : Nat)) = false := by rw [bne_eq_false_iff_eq]; omega
   clear hz1 hz2
   go_wp2
   exact bodyPost_ret (v := .tuple #[.slice none 0 0, .int .i64 14]) (by simp [results, Tryz.results10, go_sem]) rfl ⟨HB.out ▸ .value HC.out HE.out HZ.out, HB.out ▸ hbB1⟩
  have f2e : (((D.toks.length : Int) : Int) == (0 : Int)) = false := beq_eq_false_iff_ne.2 (by omega); have f2d : (((D.toks.length : Int) : Int) != (0 : Int)) = true := by rw [bne_iff_ne]; omega
  have f2ne : ((D.toks.length : Nat) == (0 : Nat)) = false := beq_eq_false_iff_ne.2 (by omega); have f2nd : ((D.toks.length : Nat) != (0 : Nat)) = true := by rw [bne_iff_ne]; omega
  have HZ : Hid (¬ (C.toks.length = 0 \/ D.toks.length = 0)) := by show ¬ _; omega
  go_upto_region 7 with (fail)
  clear f1e f1d f1ne f1nd f2e f2d f2ne f2nd hz1 hz2 b1 e1; obtain ⟨e0, e1, e2, e3, e4, e5, e6⟩ := o_d1.cells7
  go_wp2_with fail
  clear e0 e1 e2 e3 e4 e5 e6; refine (counts_Kw w1 HR1.out j HJD.out (by omega)).mono ?_; rintro e w2 ⟨⟨mb, rfl, hmb, hmw⟩, hb2⟩; have hw2 := hb2.size; have hbw2 : Below (B + 1 + 1) wb w2 := hbw1.trans (hb2.mono (by omega)); have HMW := Z' hmw; have o_c2 := o_c1.below hb2 (by omega); have o_d2 := o_d1.below hb2 (by omega); have HQ2 := HQ1.out.below hb2; clear HQ1 HR1 o_c1 o_d1 hmw hb2 hbB1 hbw1; obtain ⟨b0, b1, b2, b3, b4, b5, b6⟩ := o_c2.cells7
  go_wp2_with fail
  clear b0 b1 b2 b3 b4 b5 b6; refine (counts_Kw w2 HQ2 j HJ.out (by omega)).mono ?_; rintro e w3 ⟨⟨mb2, rfl, hmb2, hmw2⟩, hb3⟩; have hw3 := hb3.size; have hbw3 : Below (B + 1 + 1) wb w3 := hbw2.trans (hb3.mono (by omega)); have HMW2 := Z' (HMW.out.below hb3); have o_c3 := o_c2.below hb3 (by omega); have o_d3 := o_d2.below hb3 (by omega); have hmbl := HMW2.out.lt; obtain ⟨DD, hown, hC⟩ := hmw2; have HC2 := Z' hC; have hroom := ranges_room hown; have hmb2l := hown.lt; obtain ⟨w4, hrun, hrg, hgr, hs4⟩ := hown.range keyS Tryz.underlying64; have hge : Below w3.heap.size w3 w4 := grown_below9 hgr (Nat.le_refl _) (fun k h => nomatch h); have hbw4 : Below (B + 1 + 1) wb w4 := hbw3.trans (hge.mono (by omega)); have HMW4 := Z' (HMW2.out.below hge); have o_c4 := o_c3.below hge (by omega); have o_d4 := o_d3.below hge (by omega); clear HQ2 HMW HMW2 o_c2 o_d2 o_c3 o_d3 hb3 hC hown hgr hge hbw2 hbw3
  go_wp2_with fail
  clear hrun; generalize hr9 : w3.heap.size = R at hrg hs4 hw3 hmbl hmb2l; obtain ⟨B5, hB5⟩ : ∃ B5, B5 = w4.heap.size := ⟨_, rfl⟩; have HB5 := Z' hB5; have hB5R : B5 = R + 1 := by omega
  have hwl : (wordsOf C j).length = C.toks.length := wordsOf_length C j; clear hB5
  go_loopg [10] (Maps.size DD + 1) (fun q9 v9 wr => ∃ (left : Lit -> Bool) (cnt m : Nat) (ss : List ByteArray) (AL : Option Addr) (cL : Nat) (es : List (List Value)), q9 = cnt + 1 /\ Hid (m = ss.length) /\ v9 = .slice AL m cL /\ m + cnt <= Maps.size DD /\ Hid (wr.ranges Tryz.prog 9 (plainElem Tryz.prog 3) mb2 R C.toks.length DD left cnt) /\ Hid (Come DD left ss) /\ Hid (wr.ownsRow B5 49 5 (.slice AL m cL) m es.flatten) /\ Hid (Els 5 (fun s e => e = kwC C D j s) es ss) /\ Below R w4 wr /\ B5 <= wr.heap.size)
  case atStart => exact ⟨_, _, 0, [], none, 0, [], rfl, rfl, rfl, by omega, hrg, Come.start DD, World.ownsRow_nil _ _ _ _, Els.nil _ _, Below.refl _ _, by have := HB5.out; omega⟩
  case round =>
   obtain ⟨left, cnt, m, ss, AL, cL, es, rfl, hm, rfl, hmc, HRG, HCM, HRW, HES, hbr, hwr⟩ := hrel; have hmm : m <= C.toks.length := by omega
   rcases next_words HRG.out HC2.out 0 with ⟨h0, hl, hrun⟩ | ⟨sw, w5, cnt', hsw, hlk, hatk, hrun, hrg4, hlt4, hgr4, hs5, hen⟩
   ·skip
    have HMEM : Hid (∀ s, s ∈ ss ↔ s ∈ wordsOf C j) := HCM.out.all hl HC2.out; have HND := Z' HCM.out.1; clear hl h0 hrg
    go_wp2_with fail
    clear hrun; have hsort := sort_kws C D j hfew gfew wr B5 (.slice AL m cL) ss es (hm.out ▸ HRW.out) HES.out HND.out (by have := hm.out; omega); refine hsort.mono ?_; rintro e w6 ⟨rfl, ⟨l', hs', hm', hv'⟩, hch5⟩; have hbz : Below B w w6 := (((hbw.trans (hbw4.mono (by omega))).trans (hbr.mono (by omega))).trans (hch5.below (fun k hk e => by omega) (by omega))); have HRES : Hid (ResK C D (j : Int) w.heap.size w6 (.returned (.tuple #[.slice AL m cL, .int .i64 0]))) :=
     .ok HC.out HE.out HZ.out _ l' (EO.weak' hv' fun k hk => by have := HB.out; omega) hs' (fun s => (hm' s).trans (HMEM.out s))
    clear hsort hs' hm' hv' hch5
    go_wp2
    exact bodyPost_ret (v := .tuple #[.slice AL m cL, .int .i64 0]) (by simp [results, Tryz.results10, go_sem]) rfl ⟨HRES.out, HB.out ▸ hbz⟩
   ·skip
    have hge := grown_below9 hgr4 (show R <= _ by omega) (fun k h => by injection h with h; omega); have hbr4 : Below R w4 w5 := hbr.trans hge; have HMW5 := Z' (HMW4.out.under hbr4 (by omega)); have HCM4 := Z' (HCM.out.step hlk hatk); have HRW4 := Z' (ownsRow_chg HRW.out (S := fun k => k = R) ⟨hgr4.os, hgr4.tape, hgr4.output, hgr4.size, fun k hk hn => hgr4.block k hk (by simp; exact hn)⟩ (fun b hb e => by have := own_lt HRW.out b hb; omega)); have o_c5 := o_c4.below hbr4 (by omega); have o_d5 := o_d4.below hbr4 (by omega); have b1 := o_c5.c1; have e1 := o_d5.c1; have hlook := HMW5.out.look hsw; obtain ⟨n1, hn1⟩ : ∃ n, n = cn (wordsOf C j) sw := ⟨_, rfl⟩; obtain ⟨n2, hn2⟩ : ∃ n, n = cn (wordsOf D j) sw := ⟨_, rfl⟩; have hn1l : n1 <= 1000 := by have := cn_le (wordsOf C j) sw; rw [wordsOf_length] at this; omega
    have hn2l : n2 <= 1000 := by have := cn_le (wordsOf D j) sw; rw [wordsOf_length] at this; omega
    rw [<- hn1] at hrun hen; rw [<- hn2] at hlook; obtain ⟨i1, hi1, hy0, hy1, hy2⟩ := info_parts col_info9; obtain ⟨o_n, hbn⟩ := new1 w5 [.string sw, .int .i64 (n1 : Int), .int .i64 ((C.toks.length : Nat) : Int), .int .i64 ((n1 : Int) + (n2 : Int)), .int .i64 ((C.toks.length : Int) + (D.toks.length : Int))] 49; obtain ⟨v9, x9, hap, hrow, hgr5, -⟩ := run_append_src (P := Tryz.prog) (w5.alloc (.cells #[.string sw, .int .i64 (n1 : Int), .int .i64 ((C.toks.length : Nat) : Int), .int .i64 ((n1 : Int) + (n2 : Int)), .int .i64 ((C.toks.length : Int) + (D.toks.length : Int))] 49)) B5 35 35 49 i1 _ 5 48 Tryz.underlying35 hi1 hy0 hy1 hy2 rfl (by decide) (.slice AL m cL) m es.flatten (ownsRow_below HRW4.out hbn) (some ⟨w5.heap.size, 0, none⟩) 1 1 [.string sw, .int .i64 (n1 : Int), .int .i64 ((C.toks.length : Nat) : Int), .int .i64 ((n1 : Int) + (n2 : Int)), .int .i64 ((C.toks.length : Int) + (D.toks.length : Int))] rfl o_n.rd0 (by intro u hu; simp at hu; rcases hu with rfl | rfl | rfl | rfl | rfl <;> rfl) (by unfold maxLen; omega) (by omega) (by rw [size1]; omega)
    have hbn5 : Below B5 w5 x9 := (hbn.mono (by omega)).trans (grown_below9 hgr5 (by rw [size1]; omega) fun k e => own_lt HRW4.out k e); have hrg5 := (hrg4.alloc (.cells #[.string sw, .int .i64 (n1 : Int), .int .i64 ((C.toks.length : Nat) : Int), .int .i64 ((n1 : Int) + (n2 : Int)), .int .i64 ((C.toks.length : Int) + (D.toks.length : Int))] 49)).kept hgr5 (fun e => by have := own_lt HRW4.out _ e.symm; omega) (fun e => by have := own_lt HRW4.out _ e.symm; omega); have hbr5 : Below R w4 x9 := hbr4.trans (hbn5.mono (by omega)); have hx9 := hbn5.size; obtain ⟨A9, c9, rfl, -, -⟩ := own_form hrow; have HR2 : Hid (x9.ownsRow B5 49 5 (.slice A9 (m + 1) c9) (m + 1) (es ++ [([.string sw, .int .i64 (n1 : Int), .int .i64 ((C.toks.length : Nat) : Int), .int .i64 ((n1 : Int) + (n2 : Int)), .int .i64 ((C.toks.length : Int) + (D.toks.length : Int))] : List Value)]).flatten) := by
     rw [List.flatten_append, List.flatten_cons, List.flatten_nil, List.append_nil]; exact hrow
    have HE2 : Hid (Els 5 (fun s e => e = kwC C D j s) (es ++ [[.string sw, .int .i64 (n1 : Int), .int .i64 ((C.toks.length : Nat) : Int), .int .i64 ((n1 : Int) + (n2 : Int)), .int .i64 ((C.toks.length : Int) + (D.toks.length : Int))]]) (ss ++ [sw])) := HES.out.app (Els.one rfl (by rw [hn1, hn2]; rfl)); have hm2 : Hid (m + 1 = (ss ++ [sw]).length) := by show _ = _; rw [List.length_append, hm.out]; rfl
    have hx5 : B5 <= x9.heap.size := by omega
    have hcm : m + 1 + cnt' <= Maps.size DD := by omega
    have HRG5 := Z' hrg5; clear hrow hgr5 hbn o_n hi1 hy0 hy1 hy2 hgr4 hrg4 HRW4 o_c5 o_d5 HMW5 hge hs5 hx9 hbn5 hrg5 HRG hm HRW HES HCM hlk hatk hsw; clear hbr4 hbr hn1 hn2
    go_wp2_with (at_builtin; refine wpList_append_eq rfl (.tmp 56) (.tmp 76) 35 rfl _ _ _ rfl rfl hap ?_)
    clear hap hlook b1 e1 hen hrun
    go_roundg (cnt' + 1)
    case measure => omega
    case rel => exact ⟨_, cnt', m + 1, ss ++ [sw], A9, c9, _, rfl, hm2, rfl, hcm, HRG5.out, HCM4, HR2, HE2, hbr5, hx5⟩
 ·skip
  obtain ⟨bb, rfl, hbb⟩ := hret; obtain rfl : bb = false := by cases bb; rfl; exact absurd (hbb.1 rfl) hq
  have HE := Z' hq; clear hq hbb
  go_wp2
  exact bodyPost_ret (v := .tuple #[.slice none 0 0, .int .i64 17]) (by simp [results, Tryz.results10, go_sem]) rfl ⟨HB.out ▸ .type HC.out HE.out, HB.out ▸ hbB1⟩
end Go.Proofs.YtjimfbmegmnocaaGreatDoor
