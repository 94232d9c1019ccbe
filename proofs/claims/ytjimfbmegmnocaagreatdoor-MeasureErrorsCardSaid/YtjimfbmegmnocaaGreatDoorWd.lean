/- Parts of the proof: Wd. No condition of its own. -/
import Derived.Test.YtjimfbmegmnocaaGreatDoorWt
set_option linter.unusedSimpArgs false
set_option linter.unusedVariables false
set_option maxRecDepth 100000
set_option maxHeartbeats 4000000
namespace Go.Proofs.YtjimfbmegmnocaaGreatDoor
open Go.RowKit

theorem collocates_any {S : Nat -> Prop} (w : World) {a t x r n h s : Value} {C : Cor} (q : CorC S w a t x r n h s C) (hF : FitC C) {vs : Value} {L : List (Int × Int)} (hL : SpansO S w vs L) (wn at_ : Int) (hat1 : at_ <= 9223372036854775807) :
  Calls Tryz.prog 15 #[.agg #[a, t, x, r, n, h, s], vs, .int .i64 wn, .int .i64 at_] w fun e w' => ResC C L wn at_ w.heap.size w' e /\ Below w.heap.size w w' := by
 obtain ⟨Aa, ca, rfl, u1_0, u2_0, -⟩ := EO.form q.a; obtain ⟨At, ct, rfl, u1_1, u2_1, -⟩ := EO.form q.t; obtain ⟨Ax, cx, rfl, u1_2, u2_2, -⟩ := EO.form q.x; obtain ⟨Ar, cr, rfl, u1_3, u2_3, -⟩ := EO.form q.r; obtain ⟨An, cn9, rfl, u1_4, u2_4, -⟩ := EO.form q.n; obtain ⟨Ah, ch, rfl, u1_5, u2_5, -⟩ := EO.form q.h; obtain ⟨As, cs, rfl, u1_6, u2_6, -⟩ := EO.form q.s; obtain ⟨Av, cv, rfl, u1_7, u2_7, hL⟩ := EO.form hL; unfold maxLen at u2_0 u2_1 u2_2 u2_3 u2_4 u2_5 u2_6 u2_7; have hfew := hF.few; obtain ⟨o_c, hbw⟩ := new1 w [.slice Aa C.attrs.length ca, .slice At C.toks.length ct, .slice Ax C.texts.length cx, .slice Ar C.regs.length cr, .slice An C.nodes.length cn9, .slice Ah C.heads.length ch, .slice As C.rels.length cs] 30; have HQ := Z' (q.below hbw); have HL := Z' (EO.chg' hL (S := S) (Chg.grow9 hbw)); have hsz : (w.alloc (.cells #[.slice Aa C.attrs.length ca, .slice At C.toks.length ct, .slice Ax C.texts.length cx, .slice Ar C.regs.length cr, .slice An C.nodes.length cn9, .slice Ah C.heads.length ch, .slice As C.rels.length cs] 30)).heap.size = w.heap.size + 1 := by simp
 go_enter Tryz.func15, Tryz.ntmps15
 go_upto_region 1 with (fail)
 generalize (w.alloc (.cells #[.slice Aa C.attrs.length ca, .slice At C.toks.length ct, .slice Ax C.texts.length cx, .slice Ar C.regs.length cr, .slice An C.nodes.length cn9, .slice Ah C.heads.length ch, .slice As C.rels.length cs] 30)) = wb at o_c hbw hsz HQ HL |-; obtain ⟨B, hB⟩ : ∃ B, B = w.heap.size := ⟨_, rfl⟩; rw [<- hB] at o_c hsz hbw |-; have HB := Z' hB; clear hB q hL; have b0 := o_c.c0; have b1 := o_c.c1
 by_cases hc1 : at_ < 0
 ·have d1 : decide (at_ < 0) = true := decide_eq_true hc1; have HC : Hid (at_ < 0 \/ (C.attrs.length : Int) <= at_ \/ wn < 1 \/ 50 < wn) := .inl hc1; clear hc1
  go_wp2
  exact bodyPost_ret (v := .tuple #[.slice none 0 0, .int .i64 1]) (by simp [results, Tryz.results15, go_sem]) rfl ⟨HB.out ▸ .arg HC.out, HB.out ▸ hbw⟩
 have d1 : decide (at_ < 0) = false := decide_eq_false hc1
 by_cases hc2 : (C.attrs.length : Int) <= at_
 ·have d2 : decide ((C.attrs.length : Int) <= at_) = true := decide_eq_true hc2; have HC : Hid (at_ < 0 \/ (C.attrs.length : Int) <= at_ \/ wn < 1 \/ 50 < wn) := .inr (.inl hc2); clear hc2
  go_wp2
  exact bodyPost_ret (v := .tuple #[.slice none 0 0, .int .i64 1]) (by simp [results, Tryz.results15, go_sem]) rfl ⟨HB.out ▸ .arg HC.out, HB.out ▸ hbw⟩
 have d2 : decide ((C.attrs.length : Int) <= at_) = false := decide_eq_false hc2
 by_cases hc3 : wn < 1
 ·have d3 : decide (wn < 1) = true := decide_eq_true hc3; have HC : Hid (at_ < 0 \/ (C.attrs.length : Int) <= at_ \/ wn < 1 \/ 50 < wn) := .inr (.inr (.inl hc3)); clear hc3
  go_wp2
  exact bodyPost_ret (v := .tuple #[.slice none 0 0, .int .i64 1]) (by simp [results, Tryz.results15, go_sem]) rfl ⟨HB.out ▸ .arg HC.out, HB.out ▸ hbw⟩
 have d3 : decide (wn < 1) = false := decide_eq_false hc3
 by_cases hc4 : 50 < wn
 ·have d4 : decide (50 < wn) = true := decide_eq_true hc4; have HC : Hid (at_ < 0 \/ (C.attrs.length : Int) <= at_ \/ wn < 1 \/ 50 < wn) := .inr (.inr (.inr hc4)); clear hc4
  go_wp2
  exact bodyPost_ret (v := .tuple #[.slice none 0 0, .int .i64 1]) (by simp [results, Tryz.results15, go_sem]) rfl ⟨HB.out ▸ .arg HC.out, HB.out ▸ hbw⟩
 have d4 : decide (50 < wn) = false := decide_eq_false hc4; have HC : Hid (¬ (at_ < 0 \/ (C.attrs.length : Int) <= at_ \/ wn < 1 \/ 50 < wn)) := fun h => h.elim hc1 fun h => h.elim hc2 fun h => h.elim hc3 hc4
 go_upto_region 3 with (fail)
 clear d1 d2 d3 d4; obtain ⟨j, rfl⟩ : ∃ j : Nat, at_ = (j : Int) := ⟨at_.toNat, by omega⟩; obtain ⟨W, rfl⟩ : ∃ W : Nat, wn = (W : Int) := ⟨wn.toNat, by omega⟩; have hW1 : 1 <= W := by omega
 have hW2 : W <= 50 := by omega
 have HJ : Hid (∀ row ∈ C.toks, j < row.length) := fun row hr => by have := hF.wide row hr; omega
 have HT := Z' hF.texts; clear hc1 hc2 hc3 hc4 hat1 hF; have hmk := run_make_bools9 Tryz.underlying86 bool_info9 C.toks.length (by omega) wb; obtain ⟨o_n, o_x, hbn⟩ := new2 wb ((List.replicate C.toks.length false).map Value.bool) [.slice (some ⟨wb.heap.size, 0, none⟩) C.toks.length C.toks.length] 4 86; have hs2 : ((wb.alloc (.cells ((List.replicate C.toks.length false).map Value.bool).toArray 4)).alloc (.cells #[.slice (some ⟨wb.heap.size, 0, none⟩) C.toks.length C.toks.length] 86)).heap.size = wb.heap.size + 1 + 1 := by simp
 rw [cb_rep9] at o_n o_x hbn hs2; rw [hsz] at hmk o_n o_x hs2 hbn
 go_upto_region 4 with (fail)
 clear hmk b0 b1; generalize ((wb.alloc (.cells (Array.replicate C.toks.length (.bool false)) 4)).alloc (.cells #[.slice (some ⟨B + 1, 0, none⟩) C.toks.length C.toks.length] 86)) = wn at o_n o_x hbn hs2 |-; have HM0 : Hid (Mks wn (B + 1 + 1) (B + 1) (nearL C (W : Int) (L.take 0))) := ⟨by rw [nearL_len]; exact o_x, o_n⟩; have hbn0 : Below (B + 1) wb wn := hbn; clear o_n o_x hbn
 go_wp2_with fail
 go_loopg [47] (L.length + 1) (fun q9 v9 wr => ∃ k : Nat, q9 = L.length + 1 - k /\ k <= L.length /\ v9 = .int .i64 (k : Int) /\ Hid (Mks wr (B + 1 + 1) (B + 1) (nearL C (W : Int) (L.take k))) /\ Hid (∀ q ∈ L.take k, txtOf C q ≠ none) /\ Below (B + 1) wb wr /\ B + 3 <= wr.heap.size)
 case atStart => exact ⟨0, rfl, Nat.zero_le _, rfl, HM0, (fun _ h => nomatch h), hbn0, by omega⟩
 case round =>
  clear HM0 hbn0; obtain ⟨k, rfl, hk, rfl, HM, HO, hbr, hwr⟩ := hrel; have hbB : Below B w wr := hbw.trans (hbr.mono (by omega)); have o_r := o_c.below hbr (by omega)
  by_cases hlt : k < L.length
  ·skip
   have HLr := EO.chg' HL.out (S := S) (Chg.grow9 (hsz ▸ hbr)); obtain ⟨bs, os, e, rfl, -, -, ⟨rfl, z1, z2⟩, hce⟩ := EO.get HLr (by decide) hlt; obtain ⟨Q, hQ⟩ : ∃ Q, Q = L[k] := ⟨_, rfl⟩; rw [<- hQ] at hce z1 z2; have HTK : Hid (L.take (k + 1) = L.take k ++ [Q]) := by show _ = _; rw [List.take_add_one, List.getElem?_eq_getElem hlt, hQ]; rfl
   have HQM : Hid (Q ∈ L) := by show Q ∈ L; rw [hQ]; exact List.getElem_mem hlt
   clear hQ HLr; obtain ⟨q1, q2⟩ := Q; have k0 : wr.cell? ⟨bs, os + k * 2, none⟩ = some (.int .i64 q1) := hce 0 _ rfl; have k1 : wr.cell? ⟨bs, os + k * 2 + 1, none⟩ = some (.int .i64 q2) := hce 1 _ rfl; clear hce; obtain ⟨o_s, hbs⟩ := new1 wr [.int .i64 q1, .int .i64 q2] 85; have hss : (wr.alloc (.cells #[.int .i64 q1, .int .i64 q2] 85)).heap.size = wr.heap.size + 1 := by simp
   go_upto_region 7 with (fail)
   clear k0 k1; generalize (wr.alloc (.cells #[.int .i64 q1, .int .i64 q2] 85)) = w1 at o_s hbs hss |-; generalize hg1 : wr.heap.size = g1 at o_s hss hbs hwr |-; have hbr1 : Below (B + 1) wb w1 := hbr.trans (hbs.mono (by omega)); have HM1 := Z' (HM.out.below (hg1 ▸ hbs)); have HQ1 := HQ.out.below (hsz ▸ hbr1); have o_r1 := o_r.below (hg1 ▸ hbs) (by omega); clear HM hbr o_r hbs hg1; obtain ⟨b0, b1, b2, b3, b4, b5, b6⟩ := o_r1.cells7; have s0 := o_s.c0; have s1 := o_s.c1
   go_wp2_with fail
   clear b0 b1 b2 b3 b4 b5 b6 s0 s1; refine (textOf_any w1 HQ1 q1 q2).mono ?_; rintro e w2 ⟨hfd, hb2⟩; have hbr2 : Below (B + 1) wb w2 := hbr1.trans (hb2.mono (by omega)); have HM2 := Z' (HM1.out.below hb2); have o_s2 := o_s.below hb2 (by omega); have hw2 := hb2.size; clear HQ1 HM1 o_s o_r1; have hfd2 : FoundT (txtOf C (q1, q2)) e := hfd; clear hfd hb2 hbr1
   cases htx : txtOf C (q1, q2) with
   | none =>
    rw [htx] at hfd2; have hfd3 : e = .returned (.tuple #[.agg #[.string ⟨#[]⟩, .int .i64 0, .int .i64 0, .slice none 0 0], .bool false]) := hfd2; subst hfd3; obtain ⟨-, hb3⟩ := new1 w2 [.string ⟨#[]⟩, .int .i64 0, .int .i64 0, .slice none 0 0] 89; have hbr3 := hbw.trans ((hbr2.trans (hb3.mono (by omega))).mono (by omega : B <= B + 1)); have HR := Z' htx
    go_wp2
    exact bodyPost_ret (v := .tuple #[.slice none 0 0, .int .i64 8]) (by simp [results, Tryz.results15, go_sem]) rfl ⟨HB.out ▸ .range HC.out ⟨_, HQM.out, HR.out⟩, HB.out ▸ hbr3⟩
   | some tx =>
    rw [htx] at hfd2; obtain ⟨Am, nk, cm, rfl⟩ := hfd2; obtain ⟨-, p1, p2, p3, p4, p5⟩ := txt_at HT.out htx; have hq1 : 0 <= q1 := by have : tx.lo <= q1 := p2; omega
    obtain ⟨p, rfl⟩ : ∃ p : Nat, q1 = (p : Int) := ⟨q1.toNat, by omega⟩; obtain ⟨e, rfl⟩ : ∃ e : Nat, q2 = (e : Int) := ⟨q2.toNat, by have : (p : Int) < q2 := p3; omega⟩; obtain ⟨tl, htl⟩ : ∃ n : Nat, tx.lo = (n : Int) := ⟨tx.lo.toNat, by omega⟩; obtain ⟨th, hth⟩ : ∃ n : Nat, tx.hi = (n : Int) := ⟨tx.hi.toNat, by have : (e : Int) <= tx.hi := p4; omega⟩; have r1 : tl <= p := by have : tx.lo <= (p : Int) := p2; omega
    have r2 : p < e := by have : (p : Int) < (e : Int) := p3; omega
    have r3 : e <= th := by have : (e : Int) <= tx.hi := p4; omega
    have r4 : th <= C.toks.length := by omega
    clear p1 p2 p3 p4 p5 hq1; have HTX : Hid (txtOf C ((p : Int), (e : Int)) = some tx /\ tx.lo = (tl : Int) /\ tx.hi = (th : Int)) := ⟨htx, htl, hth⟩; rw [htl, hth]; clear htl hth htx; generalize tx.name = nm; obtain ⟨o_t, hb3⟩ := new1 w2 [.string nm, .int .i64 (tl : Int), .int .i64 (th : Int), .slice Am nk cm] 89; have hs3 : (w2.alloc (.cells #[.string nm, .int .i64 (tl : Int), .int .i64 (th : Int), .slice Am nk cm] 89)).heap.size = w2.heap.size + 1 := by simp
    go_upto_region 10 with (fail)
    generalize (w2.alloc (.cells #[.string nm, .int .i64 (tl : Int), .int .i64 (th : Int), .slice Am nk cm] 89)) = w3 at o_t hb3 hs3 |-; have hbr3 : Below (B + 1) wb w3 := hbr2.trans (hb3.mono (by omega)); have HM3 := Z' (HM2.out.below hb3); have o_s3 := o_s2.below hb3 (by omega); generalize hg2 : w2.heap.size = g2 at o_t hs3 hw2 |-; clear hbr2 HM2 o_s2 hb3 hg2; obtain ⟨s0, hs0⟩ : ∃ s : Nat, max (tl : Int) ((p : Int) - (W : Int)) = (s : Int) := ⟨(max (tl : Int) ((p : Int) - (W : Int))).toNat, by omega⟩; obtain ⟨e2, he2⟩ : ∃ s : Nat, min (th : Int) ((e : Int) + (W : Int)) = (s : Int) := ⟨(min (th : Int) ((e : Int) + (W : Int))).toNat, by omega⟩; have v1 : s0 <= p := by omega
    have v2 : e <= e2 := by omega
    have v3 : e2 <= C.toks.length := by omega
    have HS0 := Z' hs0; have HE2 := Z' he2; have hm5 : max (tl : Int) ((p : Int) - (W : Int)) = (s0 : Int) := hs0; have hm1 : min (p : Int) (C.toks.length : Int) = (p : Int) := by omega
    have hm2 : min (e2 : Int) (C.toks.length : Int) = (e2 : Int) := by omega
    have hm4 : (if (e : Int) + (W : Int) < (th : Int) then (e : Int) + (W : Int) else (th : Int)) = (e2 : Int) := by split <;> omega
    clear hs0 he2; have t1 := o_t.c1; have c0 := o_s3.c0; have hne1 : ¬ g1 = B + 1 := by omega
    have hne2 : ¬ g2 = B + 1 := by omega
    go_upto_region 11 with (fail)
    clear t1 c0; obtain ⟨bl, hbl⟩ : ∃ b, b = nearL C (W : Int) (L.take k) := ⟨_, rfl⟩; rw [<- hbl] at HM3; have HBL := Z' hbl; have hbn : bl.length = C.toks.length := by rw [hbl, nearL_len]
    have HBN := Z' hbn; clear hbl hbn
    go_loopg [15] (p + 1 - s0) (fun q9 v9 wr => ∃ i : Nat, q9 = p + 1 - i /\ s0 <= i /\ i <= p /\ v9 = .int .i64 (i : Int) /\ Hid (Mks wr (B + 1 + 1) (B + 1) (mk9 (bl) (fun j => decide (s0 <= j) && decide (j < i)))) /\ Chg (fun k => k = B + 1) w3 wr)
    case atStart => exact ⟨s0, rfl, Nat.le_refl _, by omega, rfl, by show Mks _ _ _ _; rw [mk9_none fun j _ => by simp only [Bool.and_eq_false_iff, decide_eq_false_iff_not]; omega]; exact HM3.out, Chg.refl _ _⟩
    case round =>
     obtain ⟨i, rfl, hi1, hi2, rfl, HMi, hch⟩ := hrel; have hwi := hch.size; have o_si := hch.own o_s3 hne1; have o_ti := hch.own o_t hne2; have c0 := o_si.c0; have nb : wr.cell? ⟨B + 1 + 1, 0, none⟩ = some (.slice (some ⟨B + 1, 0, none⟩) C.toks.length C.toks.length) := by have := HMi.out.box.cell 0; rwa [mk9_len, HBN.out] at this
     by_cases hlti : i < p
     ·skip
      have hli : i < (mk9 (bl) (fun j => decide (s0 <= j) && decide (j < i))).length := by rw [mk9_len, HBN.out]; omega
      obtain ⟨n0, n1, nf⟩ := HMi.out.cells hli; rw [mk9_len, HBN.out] at n0; have HMj : Hid (Mks (wr.setCell ⟨B + 1, i, none⟩ (.bool true)) (B + 1 + 1) (B + 1) (mk9 (bl) (fun j => decide (s0 <= j) && decide (j < i + 1)))) := by
       show Mks _ _ _ _
       rw [mk9_set (p := fun j => decide (s0 <= j) && decide (j < i)) (i := i) fun j _ => by rw [Bool.eq_iff_iff]; simp only [Bool.or_eq_true, Bool.and_eq_true, decide_eq_true_eq]; omega]; exact HMi.out.mark (by omega) i
      have hch2 : Chg (fun k => k = B + 1) w3 (wr.setCell ⟨B + 1, i, none⟩ (.bool true)) := hch.setCell (p := ⟨B + 1, i, none⟩) rfl _; generalize (mk9 (bl) (fun j => decide (s0 <= j) && decide (j < i)))[i] = bi at n1; clear HMi hch o_si o_ti hli
      go_wp2
      clear n0 n1 nf
      go_roundg (p + 1 - (i + 1))
      case measure => omega
      case rel => exact ⟨i + 1, rfl, by omega, by omega, by go_num, HMj, hch2⟩
     ·skip
      have ei : i = p := by omega
      subst ei; have c1 := o_si.c1
      go_upto_region 15 with (fail)
      clear c0 c1 nb; replace o_s3 := o_si; replace o_t := o_ti; obtain ⟨bl2, hbl2⟩ : ∃ b, b = mk9 bl (fun j => decide (s0 <= j) && decide (j < i)) := ⟨_, rfl⟩; rw [<- hbl2] at HMi; have HBL2 := Z' hbl2; have HBN2 : Hid (bl2.length = C.toks.length) := by show _ = _; rw [hbl2, mk9_len, HBN.out]
      have hbr4 : Below (B + 1) wb wr := hbr3.trans (hch.below (fun k hk e => by omega) (by omega)); clear hbl2 HM3 hbr3 hch o_si o_ti; obtain ⟨w4, hw4⟩ : ∃ x, x = wr := ⟨_, rfl⟩; rw [<- hw4] at HMi hbr4 o_s3 o_t hwi |-; clear hw4 wr
      go_loopg [16] (e2 + 1 - e) (fun q9 v9 wr => ∃ i : Nat, q9 = e2 + 1 - i /\ e <= i /\ i <= e2 /\ v9 = .int .i64 (i : Int) /\ Hid (Mks wr (B + 1 + 1) (B + 1) (mk9 (bl2) (fun j => decide (e <= j) && decide (j < i)))) /\ Chg (fun k => k = B + 1) w4 wr)
      case atStart => exact ⟨e, rfl, Nat.le_refl _, by omega, rfl, by show Mks _ _ _ _; rw [mk9_none fun j _ => by simp only [Bool.and_eq_false_iff, decide_eq_false_iff_not]; omega]; exact HMi.out, Chg.refl _ _⟩
      case round =>
       obtain ⟨i, rfl, hi1, hi2, rfl, HMi, hch⟩ := hrel; have hwi := hch.size; have o_si := hch.own o_s3 hne1; have o_ti := hch.own o_t hne2; have c1 := o_si.c1; have t2 := o_ti.c2; have nb : wr.cell? ⟨B + 1 + 1, 0, none⟩ = some (.slice (some ⟨B + 1, 0, none⟩) C.toks.length C.toks.length) := by have := HMi.out.box.cell 0; rwa [mk9_len, HBN2.out] at this
       by_cases hlti : i < e2
       ·skip
        have hli : i < (mk9 (bl2) (fun j => decide (e <= j) && decide (j < i))).length := by rw [mk9_len, HBN2.out]; omega
        obtain ⟨n0, n1, nf⟩ := HMi.out.cells hli; rw [mk9_len, HBN2.out] at n0; have HMj : Hid (Mks (wr.setCell ⟨B + 1, i, none⟩ (.bool true)) (B + 1 + 1) (B + 1) (mk9 (bl2) (fun j => decide (e <= j) && decide (j < i + 1)))) := by
         show Mks _ _ _ _
         rw [mk9_set (p := fun j => decide (e <= j) && decide (j < i)) (i := i) fun j _ => by rw [Bool.eq_iff_iff]; simp only [Bool.or_eq_true, Bool.and_eq_true, decide_eq_true_eq]; omega]; exact HMi.out.mark (by omega) i
        have hch2 : Chg (fun k => k = B + 1) w4 (wr.setCell ⟨B + 1, i, none⟩ (.bool true)) := hch.setCell (p := ⟨B + 1, i, none⟩) rfl _; generalize (mk9 (bl2) (fun j => decide (e <= j) && decide (j < i)))[i] = bi at n1; clear HMi hch o_si o_ti hli
        go_wp2
        clear n0 n1 nf
        go_roundg (e2 + 1 - (i + 1))
        case measure => omega
        case rel => exact ⟨i + 1, rfl, by omega, by omega, by go_num, HMj, hch2⟩
       ·skip
        have ei : i = e2 := by omega
        subst ei; have HMk : Hid (Mks wr (B + 1 + 1) (B + 1) (nearL C (W : Int) (L.take (k + 1)))) := by
         show Mks _ _ _ _
         rw [HTK.out, nearL_snoc, <- HBL.out, nearStep, HTX.out.1]
         show Mks _ _ _ (mk9 bl (hitB tx (W : Int) ((_ : Int), (e : Int))))
         rw [<- near_two tx bl HTX.out.2.1 HTX.out.2.2 (by omega) HS0.out HE2.out, <- HBL2.out]; exact HMi.out
        have HOk : Hid (∀ q ∈ L.take (k + 1), txtOf C q ≠ none) := fun q hq => by
         rw [HTK.out] at hq
         rcases List.mem_append.1 hq with h | h
         ·exact HO.out q h
         ·rw [List.mem_singleton.1 h, HTX.out.1]; exact fun h => nomatch h
        have hbr5 : Below (B + 1) wb wr := hbr4.trans (hch.below (fun k hk e => by omega) (by omega))
        go_wp2
        go_roundg (L.length + 1 - (k + 1))
        case measure => omega
        case rel => exact ⟨k + 1, rfl, by omega, by go_num, HMk, HOk, hbr5, by omega⟩
  ·skip
   have ek : k = L.length := by omega
   subst ek; rw [List.take_length] at HM HO; obtain ⟨bl, hbl⟩ : ∃ b, b = nearL C (W : Int) L := ⟨_, rfl⟩; rw [<- hbl] at HM; have HBL := Z' hbl; have HBN : Hid (bl.length = C.toks.length) := by show _ = _; rw [hbl, nearL_len]
   clear hbl; have HQr := HQ.out.below (hsz ▸ hbr); obtain ⟨b0, b1, b2, b3, b4, b5, b6⟩ := o_r.cells7
   go_wp2_with fail
   clear b0 b1 b2 b3 b4 b5 b6; refine (counts_Co wr HQr j HJ.out (by omega)).mono ?_; rintro e w1 ⟨⟨mb, rfl, hmb, hmw⟩, hb1⟩; have hbr1 : Below (B + 1) wb w1 := hbr.trans (hb1.mono (by omega)); have HM1 := Z' (HM.out.below hb1); have HMW := Z' hmw; have hw1 := hb1.size; have o_r1 := o_r.below hb1 (by omega); clear HQr HM hmw hb1 o_r hbr; have n0 : w1.cell? ⟨B + 1 + 1, 0, none⟩ = some (.slice (some ⟨B + 1, 0, none⟩) C.toks.length C.toks.length) := by have := HM1.out.box.cell 0; rwa [HBN.out] at this
   go_wp2_with fail
   clear n0
   go_loopg [18, 102] (C.toks.length + 1) (fun q9 v8 v9 wr => ∃ i : Nat, q9 = C.toks.length + 1 - i /\ i <= C.toks.length /\ v9 = .int .i64 (i : Int) /\ v8 = .int .i64 (((bl.take i).count true : Nat) : Int) /\ wr = w1)
   case atStart => exact ⟨0, rfl, Nat.zero_le _, rfl, rfl, rfl⟩
   case round =>
    obtain ⟨i, rfl, hi, rfl, rfl, hw9⟩ := hrel; subst hw9
    by_cases hlti : i < C.toks.length
    ·skip
     have hbi : i < bl.length := by rw [HBN.out]; exact hlti
     obtain ⟨n0, n1, -⟩ := HM1.out.cells hbi; have hct : (bl.take (i + 1)).count true = (bl.take i).count true + [bl[i]].count true := by rw [List.take_add_one, List.getElem?_eq_getElem hbi, List.count_append]; rfl
     have hcl : (bl.take i).count true <= i := Nat.le_trans List.count_le_length (by rw [List.length_take]; omega); generalize (bl.take i).count true = c0 at hct hcl
     rcases hbv : bl[i] with _ | _
     ·rw [hbv] at n1 hct; have hc9 : Hid ((bl.take (i + 1)).count true = c0) := hct; clear hbv hct n0
      go_wp2
      clear n1
      go_roundg (C.toks.length + 1 - (i + 1))
      case measure => omega
      case rel => exact ⟨i + 1, rfl, by omega, by go_num, by rw [hc9.out], rfl⟩
     ·rw [hbv] at n1 hct; have hc9 : Hid ((bl.take (i + 1)).count true = c0 + 1) := hct; clear hbv hct n0
      go_wp2
      clear n1
      go_roundg (C.toks.length + 1 - (i + 1))
      case measure => omega
      case rel => exact ⟨i + 1, rfl, by omega, by go_num, by rw [hc9.out]; go_num, rfl⟩
    ·skip
     have ei : i = C.toks.length := by omega
     subst ei; rw [List.take_of_length_le (by rw [HBN.out]; exact Nat.le_refl _)]; generalize hnn : bl.count true = nn; have HNN := Z' hnn; have hnl : nn <= C.toks.length := by rw [<- hnn, <- HBN.out]; exact List.count_le_length
     clear hnn; have HQ1 := HQ.out.below (hsz ▸ hbr1); obtain ⟨b0, b1, b2, b3, b4, b5, b6⟩ := o_r1.cells7
     go_wp2_with fail
     clear b0 b2 b3 b4 b5 b6; refine (counts_near wr HQ1 j HJ.out (by omega) HM1.out HBN.out).mono ?_; rintro e w2 ⟨⟨mb2, rfl, hmb2, hmw2⟩, hb2⟩; have hbr2 : Below (B + 1) wb w2 := hbr1.trans (hb2.mono (by omega)); have HMW2 := Z' (HMW.out.below hb2); have hmbl := HMW2.out.lt; have o_r2 := o_r1.below hb2 (by omega); have hw2 := hb2.size; have hml := (hmb : _ <= mb); obtain ⟨D, hown, hC⟩ := hmw2; have HC2 := Z' hC; have hroom := ranges_room hown; have hmb2l := hown.lt; obtain ⟨w3, hrun, hrg, hgr, hs3⟩ := hown.range keyS Tryz.underlying64; have hbr3 : Below (B + 1) wb w3 := hbr2.trans (grown_below9 hgr (by omega) (fun k h => nomatch h)); have HMW3 : Hid (MapW w3 mb C.toks.length (wordsOf C j)) := HMW2.out.below (grown_below9 hgr (Nat.le_refl _) (fun k h => nomatch h)); have o_r3 : Own w3 B 30 _ := o_r2.below (grown_below9 hgr (Nat.le_refl _) (fun k h => nomatch h)) (by omega); clear HQ1 HM1 HMW HMW2 o_r1 o_r2 hb2 hC hown b1 hgr hbr1 hbr2
     go_wp2_with fail
     clear hrun; generalize hr9 : w2.heap.size = R at hrg hs3 hw2 hmbl hmb2l; obtain ⟨B5, hB5⟩ : ∃ B5, B5 = w3.heap.size := ⟨_, rfl⟩; have HB5 := Z' hB5; have hB5R : B5 = R + 1 := by omega
     have hwl : (wordsOf C j).length = C.toks.length := wordsOf_length C j; clear hB5
     go_loopg [21] (Maps.size D + 1) (fun q9 v9 wr => ∃ (left : Lit -> Bool) (cnt m : Nat) (ss : List ByteArray) (AL : Option Addr) (cL : Nat) (es : List (List Value)), q9 = cnt + 1 /\ Hid (m = ss.length) /\ v9 = .slice AL m cL /\ m + cnt <= Maps.size D /\ Hid (wr.ranges Tryz.prog 9 (plainElem Tryz.prog 3) mb2 R C.toks.length D left cnt) /\ Hid (Come D left ss) /\ Hid (wr.ownsRow B5 49 5 (.slice AL m cL) m es.flatten) /\ Hid (Els 5 (fun s e => e = colC C j bl s) es ss) /\ Below R w3 wr /\ B5 <= wr.heap.size)
     case atStart => exact ⟨_, _, 0, [], none, 0, [], rfl, rfl, rfl, by omega, hrg, Come.start D, World.ownsRow_nil _ _ _ _, Els.nil _ _, Below.refl _ _, by have := HB5.out; omega⟩
     case round =>
      obtain ⟨left, cnt, m, ss, AL, cL, es, rfl, hm, rfl, hmc, HRG, HCM, HRW, HES, hbr, hwr⟩ := hrel; have hmm : m <= C.toks.length := by omega
      rcases next_words HRG.out HC2.out 0 with ⟨h0, hl, hrun⟩ | ⟨sw, w4, cnt', hsw, hlk, hatk, hrun, hrg4, hlt4, hgr4, hs4, hen⟩
      ·skip
       have HMEM : Hid (∀ s, s ∈ ss ↔ s ∈ nearW C j bl) := HCM.out.all hl HC2.out; have HND := Z' HCM.out.1; clear hl h0 hrg
       go_wp2_with fail
       clear hrun; have hsort := sort_cols C j bl wr B5 (.slice AL m cL) ss es (hm.out ▸ HRW.out) HES.out HND.out (by have := hm.out; omega)
       skip
       refine hsort.mono ?_
       skip
       rintro e w5 ⟨rfl, ⟨l', hs', hm', hv'⟩, hch5⟩; have hbz : Below B w w5 := (((hbw.trans (hbr3.mono (by omega))).trans (hbr.mono (by omega))).trans (hch5.below (fun k hk e => by omega) (by omega))); have HRES : Hid (ResC C L (W : Int) (j : Int) w.heap.size w5 (.returned (.tuple #[.slice AL m cL, .int .i64 0]))) := by
        refine .ok HC.out HO.out _ l' ?_ ?_ ?_
        ·rw [<- HBL.out]; exact (EO.weak' hv' fun k hk => by have := HB.out; omega)
        ·rw [<- HBL.out]; exact hs'
        ·intro s; rw [<- HBL.out, hm' s]; exact HMEM.out s
       skip
       clear hsort hs' hm' hv' hch5
       go_wp2
       skip
       exact bodyPost_ret (v := .tuple #[.slice AL m cL, .int .i64 0]) (by simp [results, Tryz.results15, go_sem]) rfl ⟨HRES.out, HB.out ▸ hbz⟩
      ·skip
       have hge := grown_below9 hgr4 (show R <= _ by omega) (fun k h => by injection h with h; omega); have hbr4 : Below R w3 w4 := hbr.trans hge; have HMW4 := Z' (HMW3.out.under hbr4 (by omega)); have HCM4 := Z' (HCM.out.step hlk hatk); have HRW4 := Z' (ownsRow_chg HRW.out (S := fun k => k = R) ⟨hgr4.os, hgr4.tape, hgr4.output, hgr4.size, fun k hk hn => hgr4.block k hk (by simp; exact hn)⟩ (fun b hb e => by have := own_lt HRW.out b hb; omega)); have o_r4 := o_r3.below hbr4 (by omega); have b1 := o_r4.c1; have hlook := HMW4.out.look hsw; obtain ⟨i1, hi1, hy0, hy1, hy2⟩ := info_parts col_info9; obtain ⟨o_n, hbn⟩ := new1 w4 [.string sw, .int .i64 ((cn (nearW C j bl) sw : Nat) : Int), .int .i64 (nn : Int), .int .i64 ((cn (wordsOf C j) sw : Nat) : Int), .int .i64 ((C.toks.length : Nat) : Int)] 49; obtain ⟨v9, x9, hap, hrow, hgr5, -⟩ := run_append_src (P := Tryz.prog) (w4.alloc (.cells #[.string sw, .int .i64 ((cn (nearW C j bl) sw : Nat) : Int), .int .i64 (nn : Int), .int .i64 ((cn (wordsOf C j) sw : Nat) : Int), .int .i64 ((C.toks.length : Nat) : Int)] 49)) B5 35 35 49 i1 _ 5 48 Tryz.underlying35 hi1 hy0 hy1 hy2 rfl (by decide) (.slice AL m cL) m es.flatten (ownsRow_below HRW4.out hbn) (some ⟨w4.heap.size, 0, none⟩) 1 1 [.string sw, .int .i64 ((cn (nearW C j bl) sw : Nat) : Int), .int .i64 (nn : Int), .int .i64 ((cn (wordsOf C j) sw : Nat) : Int), .int .i64 ((C.toks.length : Nat) : Int)] rfl o_n.rd0 (by intro u hu; simp at hu; rcases hu with rfl | rfl | rfl | rfl | rfl <;> rfl) (by unfold maxLen; omega) (by omega) (by rw [size1]; omega)
       have hbn5 : Below B5 w4 x9 := (hbn.mono (by omega)).trans (grown_below9 hgr5 (by rw [size1]; omega) fun k e => own_lt HRW4.out k e); have hrg5 := (hrg4.alloc (.cells #[.string sw, .int .i64 ((cn (nearW C j bl) sw : Nat) : Int), .int .i64 (nn : Int), .int .i64 ((cn (wordsOf C j) sw : Nat) : Int), .int .i64 ((C.toks.length : Nat) : Int)] 49)).kept hgr5 (fun e => by have := own_lt HRW4.out _ e.symm; omega) (fun e => by have := own_lt HRW4.out _ e.symm; omega); have hbr5 : Below R w3 x9 := hbr4.trans (hbn5.mono (by omega)); have hx9 := hbn5.size; obtain ⟨A9, c9, rfl, -, -⟩ := own_form hrow; have HR2 : Hid (x9.ownsRow B5 49 5 (.slice A9 (m + 1) c9) (m + 1) (es ++ [([.string sw, .int .i64 ((cn (nearW C j bl) sw : Nat) : Int), .int .i64 (nn : Int), .int .i64 ((cn (wordsOf C j) sw : Nat) : Int), .int .i64 ((C.toks.length : Nat) : Int)] : List Value)]).flatten) := by
        rw [List.flatten_append, List.flatten_cons, List.flatten_nil, List.append_nil]; exact hrow
       have HE2 : Hid (Els 5 (fun s e => e = colC C j bl s) (es ++ [[.string sw, .int .i64 ((cn (nearW C j bl) sw : Nat) : Int), .int .i64 (nn : Int), .int .i64 ((cn (wordsOf C j) sw : Nat) : Int), .int .i64 ((C.toks.length : Nat) : Int)]]) (ss ++ [sw])) := HES.out.app (Els.one rfl (by rw [<- HNN.out]; rfl)); have hm2 : Hid (m + 1 = (ss ++ [sw]).length) := by show _ = _; rw [List.length_append, hm.out]; rfl
       have hx5 : B5 <= x9.heap.size := by omega
       have hcm : m + 1 + cnt' <= Maps.size D := by omega
       have HRG5 := Z' hrg5; clear hrow hgr5 hbn o_n hi1 hy0 hy1 hy2 hgr4 hrg4 HRW4 o_r4 HMW4 hge hs4 hx9 hbn5 hrg5 HRG hm HRW HES HCM hlk hatk hsw; clear hbr4 hbr
       go_wp2_with (at_builtin; refine wpList_append_eq rfl (.tmp 120) (.tmp 132) 35 rfl _ _ _ rfl rfl hap ?_)
       clear hap hlook b1 hen hrun
       go_roundg (cnt' + 1)
       case measure => omega
       case rel => exact ⟨_, cnt', m + 1, ss ++ [sw], A9, c9, _, rfl, hm2, rfl, hcm, HRG5.out, HCM4, HR2, HE2, hbr5, hx5⟩
end Go.Proofs.YtjimfbmegmnocaaGreatDoor
