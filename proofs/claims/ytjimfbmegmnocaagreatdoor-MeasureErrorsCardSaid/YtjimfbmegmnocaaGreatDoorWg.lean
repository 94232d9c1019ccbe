/- Parts of the proof: Wg. No condition of its own. -/
import Derived.Test.YtjimfbmegmnocaaGreatDoorWu
set_option linter.unusedSimpArgs false
set_option linter.unusedVariables false
set_option maxRecDepth 100000
set_option maxHeartbeats 16000000
namespace Go.Proofs.YtjimfbmegmnocaaGreatDoor
open Go.RowKit

theorem collocates38_any {S : Nat -> Prop} (w : World) {a t x r n h s : Value} {C : Cor} (q : CorC S w a t x r n h s C) (hF : FitC C) {vs : Value} {L : List (Int × Int)} (hL : SpansO S w vs L) (wn at_ : Int) (hat1 : at_ <= 9223372036854775807) :
  Calls Tryz.prog 16 #[.agg #[a, t, x, r, n, h, s], vs, .int .i64 wn, .int .i64 at_] w fun e w' => ResC C L wn at_ w.heap.size w' e /\ Below w.heap.size w w' := by
 obtain ⟨Aa, ca, rfl, u1_0, u2_0, -⟩ := EO.form q.a; obtain ⟨At, ct, rfl, u1_1, u2_1, -⟩ := EO.form q.t; obtain ⟨Ax, cx, rfl, u1_2, u2_2, -⟩ := EO.form q.x; obtain ⟨Ar, cr, rfl, u1_3, u2_3, -⟩ := EO.form q.r; obtain ⟨An, cn9, rfl, u1_4, u2_4, -⟩ := EO.form q.n; obtain ⟨Ah, ch, rfl, u1_5, u2_5, -⟩ := EO.form q.h; obtain ⟨As, cs, rfl, u1_6, u2_6, -⟩ := EO.form q.s; obtain ⟨Av, cv, rfl, u1_7, u2_7, hL⟩ := EO.form hL; unfold maxLen at u2_0 u2_1 u2_2 u2_3 u2_4 u2_5 u2_6 u2_7; have hfew := hF.few; obtain ⟨o_c, hbw⟩ := new1 w [.slice Aa C.attrs.length ca, .slice At C.toks.length ct, .slice Ax C.texts.length cx, .slice Ar C.regs.length cr, .slice An C.nodes.length cn9, .slice Ah C.heads.length ch, .slice As C.rels.length cs] 30; have HQ := Z' (q.below hbw); have HL := Z' (EO.chg' hL (S := S) (Chg.grow9 hbw)); have hsz : (w.alloc (.cells #[.slice Aa C.attrs.length ca, .slice At C.toks.length ct, .slice Ax C.texts.length cx, .slice Ar C.regs.length cr, .slice An C.nodes.length cn9, .slice Ah C.heads.length ch, .slice As C.rels.length cs] 30)).heap.size = w.heap.size + 1 := by simp
 go_enter Tryz.func16, Tryz.ntmps16
 go_upto_region 1 with (fail)
 generalize (w.alloc (.cells #[.slice Aa C.attrs.length ca, .slice At C.toks.length ct, .slice Ax C.texts.length cx, .slice Ar C.regs.length cr, .slice An C.nodes.length cn9, .slice Ah C.heads.length ch, .slice As C.rels.length cs] 30)) = wb at o_c hbw hsz HQ HL |-; obtain ⟨B, hB⟩ : ∃ B, B = w.heap.size := ⟨_, rfl⟩; rw [<- hB] at o_c hsz hbw |-; have HB := Z' hB; clear hB q hL; have b0 := o_c.c0; have b1 := o_c.c1
 by_cases hc1 : at_ < 0
 ·have d1 : decide (at_ < 0) = true := decide_eq_true hc1; have HC : Hid (at_ < 0 \/ (C.attrs.length : Int) <= at_ \/ wn < 1 \/ 50 < wn) := .inl hc1; clear hc1
  go_wp2
  exact bodyPost_ret (v := .tuple #[.slice none 0 0, .int .i64 1]) (by simp [results, Tryz.results16, go_sem]) rfl ⟨HB.out ▸ .arg HC.out, HB.out ▸ hbw⟩
 have d1 : decide (at_ < 0) = false := decide_eq_false hc1
 by_cases hc2 : (C.attrs.length : Int) <= at_
 ·have d2 : decide ((C.attrs.length : Int) <= at_) = true := decide_eq_true hc2; have HC : Hid (at_ < 0 \/ (C.attrs.length : Int) <= at_ \/ wn < 1 \/ 50 < wn) := .inr (.inl hc2); clear hc2
  go_wp2
  exact bodyPost_ret (v := .tuple #[.slice none 0 0, .int .i64 1]) (by simp [results, Tryz.results16, go_sem]) rfl ⟨HB.out ▸ .arg HC.out, HB.out ▸ hbw⟩
 have d2 : decide ((C.attrs.length : Int) <= at_) = false := decide_eq_false hc2
 by_cases hc3 : wn < 1
 ·have d3 : decide (wn < 1) = true := decide_eq_true hc3; have HC : Hid (at_ < 0 \/ (C.attrs.length : Int) <= at_ \/ wn < 1 \/ 50 < wn) := .inr (.inr (.inl hc3)); clear hc3
  go_wp2
  exact bodyPost_ret (v := .tuple #[.slice none 0 0, .int .i64 1]) (by simp [results, Tryz.results16, go_sem]) rfl ⟨HB.out ▸ .arg HC.out, HB.out ▸ hbw⟩
 have d3 : decide (wn < 1) = false := decide_eq_false hc3
 by_cases hc4 : 50 < wn
 ·have d4 : decide (50 < wn) = true := decide_eq_true hc4; have HC : Hid (at_ < 0 \/ (C.attrs.length : Int) <= at_ \/ wn < 1 \/ 50 < wn) := .inr (.inr (.inr hc4)); clear hc4
  go_wp2
  exact bodyPost_ret (v := .tuple #[.slice none 0 0, .int .i64 1]) (by simp [results, Tryz.results16, go_sem]) rfl ⟨HB.out ▸ .arg HC.out, HB.out ▸ hbw⟩
 have d4 : decide (50 < wn) = false := decide_eq_false hc4; have HC : Hid (¬ (at_ < 0 \/ (C.attrs.length : Int) <= at_ \/ wn < 1 \/ 50 < wn)) := fun h => h.elim hc1 fun h => h.elim hc2 fun h => h.elim hc3 hc4
 go_upto_region 3 with (fail)
 clear d1 d2 d3 d4; obtain ⟨j, rfl⟩ : ∃ j : Nat, at_ = (j : Int) := ⟨at_.toNat, by omega⟩; obtain ⟨W, rfl⟩ : ∃ W : Nat, wn = (W : Int) := ⟨wn.toNat, by omega⟩; have hW1 : 1 <= W := by omega
 have hW2 : W <= 50 := by omega
 have HJ : Hid (∀ row ∈ C.toks, j < row.length) := fun row hr => by have := hF.wide row hr; omega
 have HT := Z' hF.texts; clear hc1 hc2 hc3 hc4 hat1 hF; have hmk := run_make_bools9 Tryz.underlying86 bool_info9 C.toks.length (by omega) wb; obtain ⟨o_n, hbn⟩ := new1 wb ((List.replicate C.toks.length false).map Value.bool) 4; have hs2 : (wb.alloc (.cells ((List.replicate C.toks.length false).map Value.bool).toArray 4)).heap.size = wb.heap.size + 1 := by simp
 rw [cb_rep9] at o_n hbn hs2; rw [hsz] at hmk o_n hs2 hbn
 go_upto_region 4 with (fail)
 clear hmk b0 b1; generalize (wb.alloc (.cells (Array.replicate C.toks.length (.bool false)) 4)) = wn at o_n hbn hs2 |-; have HM0 : Hid (Own wn (B + 1) 4 ((nearL C (W : Int) (L.take 0)).map Value.bool)) := o_n; have hbn0 : Below (B + 1) wb wn := hbn; clear o_n hbn
 go_wp2_with fail
 go_loopg [48] (L.length + 1) (fun q9 v9 wr => ∃ k : Nat, q9 = L.length + 1 - k /\ k <= L.length /\ v9 = .int .i64 (k : Int) /\ Hid (Own wr (B + 1) 4 ((nearL C (W : Int) (L.take k)).map Value.bool)) /\ Hid (∀ q ∈ L.take k, txtOf C q ≠ none) /\ Below (B + 1) wb wr /\ B + 2 <= wr.heap.size)
 case atStart => exact ⟨0, rfl, Nat.zero_le _, rfl, HM0, (fun _ h => nomatch h), hbn0, by omega⟩
 case round =>
  clear HM0 hbn0; obtain ⟨k, rfl, hk, rfl, HM, HO, hbr, hwr⟩ := hrel; have hbB : Below B w wr := hbw.trans (hbr.mono (by omega)); have o_r := o_c.below hbr (by omega)
  by_cases hlt : k < L.length
  ·skip
   have HLr := EO.chg' HL.out (S := S) (Chg.grow9 (hsz ▸ hbr)); obtain ⟨bs, os, e, rfl, -, -, ⟨rfl, z1, z2⟩, hce⟩ := EO.get HLr (by decide) hlt; obtain ⟨Q, hQ⟩ : ∃ Q, Q = L[k] := ⟨_, rfl⟩; rw [<- hQ] at hce z1 z2; have HTK : Hid (L.take (k + 1) = L.take k ++ [Q]) := by show _ = _; rw [List.take_add_one, List.getElem?_eq_getElem hlt, hQ]; rfl
   have HQM : Hid (Q ∈ L) := by show Q ∈ L; rw [hQ]; exact List.getElem_mem hlt
   clear hQ HLr; obtain ⟨q1, q2⟩ := Q; have k0 : wr.cell? ⟨bs, os + k * 2, none⟩ = some (.int .i64 q1) := hce 0 _ rfl; have k1 : wr.cell? ⟨bs, os + k * 2 + 1, none⟩ = some (.int .i64 q2) := hce 1 _ rfl; clear hce; obtain ⟨o_s, hbs⟩ := new1 wr [.int .i64 q1, .int .i64 q2] 85; have hss : (wr.alloc (.cells #[.int .i64 q1, .int .i64 q2] 85)).heap.size = wr.heap.size + 1 := by simp
   go_upto_region 7 with (fail)
   clear k0 k1; generalize (wr.alloc (.cells #[.int .i64 q1, .int .i64 q2] 85)) = w1 at o_s hbs hss |-; generalize hg1 : wr.heap.size = g1 at o_s hss hbs hwr |-; have hbr1 : Below (B + 1) wb w1 := hbr.trans (hbs.mono (by omega)); have HM1 := Z' (HM.out.below (hg1 ▸ hbs) HM.out.lt); have HQ1 := HQ.out.below (hsz ▸ hbr1); have o_r1 := o_r.below (hg1 ▸ hbs) (by omega); clear HM hbr o_r hbs hg1; obtain ⟨b0, b1, b2, b3, b4, b5, b6⟩ := o_r1.cells7; have s0 := o_s.c0
   go_wp2_with fail
   clear b0 b1 b2 b3 b4 b5 b6 s0; refine (textAt24_any w1 HQ1 q1).mono ?_; rintro e w2 ⟨hfd, hb2⟩; have hbr2 : Below (B + 1) wb w2 := hbr1.trans (hb2.mono (by omega)); have HM2 := Z' (HM1.out.below hb2 HM1.out.lt); have o_s2 := o_s.below hb2 (by omega); have hw2 := hb2.size; clear HQ1 HM1 o_s o_r1 hb2 hbr1
   cases htx : C.texts.find? (atP q1) with
   | none =>
    rw [htx] at hfd; have hfd3 : e = .returned (.tuple #[.agg #[.string ⟨#[]⟩, .int .i64 0, .int .i64 0, .slice none 0 0], .bool false]) := hfd; subst hfd3; obtain ⟨-, hb3⟩ := new1 w2 [.string ⟨#[]⟩, .int .i64 0, .int .i64 0, .slice none 0 0] 89; have hbr3 := hbw.trans ((hbr2.trans (hb3.mono (by omega))).mono (by omega : B <= B + 1)); have HR : Hid (txtOf C (q1, q2) = none) := txt_none_of HT.out htx; clear htx
    go_wp2
    exact bodyPost_ret (v := .tuple #[.slice none 0 0, .int .i64 8]) (by simp [results, Tryz.results16, go_sem]) rfl ⟨HB.out ▸ .range HC.out ⟨_, HQM.out, HR.out⟩, HB.out ▸ hbr3⟩
   | some tx =>
    rw [htx] at hfd; obtain ⟨Am, nk, cm, rfl⟩ := hfd; obtain ⟨o_t, hb3⟩ := new1 w2 [.string tx.name, .int .i64 tx.lo, .int .i64 tx.hi, .slice Am nk cm] 89; have hs3 : (w2.alloc (.cells #[.string tx.name, .int .i64 tx.lo, .int .i64 tx.hi, .slice Am nk cm] 89)).heap.size = w2.heap.size + 1 := by simp
    have HX := Z' htx; clear htx
    go_upto_region 8 with (fail)
    generalize (w2.alloc (.cells #[.string tx.name, .int .i64 tx.lo, .int .i64 tx.hi, .slice Am nk cm] 89)) = w3 at o_t hb3 hs3 |-; have hbr3 : Below (B + 1) wb w3 := hbr2.trans (hb3.mono (by omega)); have HM3 := Z' (HM2.out.below hb3 HM2.out.lt); have o_s3 := o_s2.below hb3 (by omega); generalize hg2 : w2.heap.size = g2 at o_t hs3 hw2 |-; have hbB3 := hbw.trans (hbr3.mono (by omega : B <= B + 1)); have c0 := o_s3.c0; have c1 := o_s3.c1; have t2 := o_t.c2; clear hbr2 HM2 o_s2 hb3 hg2
    by_cases hA : q2 <= q1
    ·have d1 : decide (q2 <= q1) = true := decide_eq_true hA; have HR : Hid (txtOf C (q1, q2) = none) := txt_none_bad HT.out HX.out (.inl hA); clear hA
     go_wp2
     exact bodyPost_ret (v := .tuple #[.slice none 0 0, .int .i64 8]) (by simp [results, Tryz.results16, go_sem]) rfl ⟨HB.out ▸ .range HC.out ⟨_, HQM.out, HR.out⟩, HB.out ▸ hbB3⟩
    have d1 : decide (q2 <= q1) = false := decide_eq_false hA
    by_cases hA2 : tx.hi < q2
    ·have d2 : decide (tx.hi < q2) = true := decide_eq_true hA2; have HR : Hid (txtOf C (q1, q2) = none) := txt_none_bad HT.out HX.out (.inr hA2); clear hA hA2
     go_wp2
     exact bodyPost_ret (v := .tuple #[.slice none 0 0, .int .i64 8]) (by simp [results, Tryz.results16, go_sem]) rfl ⟨HB.out ▸ .range HC.out ⟨_, HQM.out, HR.out⟩, HB.out ▸ hbB3⟩
    have d2 : decide (tx.hi < q2) = false := decide_eq_false hA2
    go_upto_region 10 with (fail)
    clear d1 d2 c0 c1 t2; have htq : txtOf C (q1, q2) = some tx := txt_some_of HT.out HX.out (show q1 < q2 by omega) (show q2 <= tx.hi by omega); obtain ⟨-, p1, p2, p3, p4, p5⟩ := txt_at HT.out htq; have hq1 : 0 <= q1 := by have : tx.lo <= q1 := p2; omega
    obtain ⟨p, rfl⟩ : ∃ p : Nat, q1 = (p : Int) := ⟨q1.toNat, by omega⟩; obtain ⟨e, rfl⟩ : ∃ e : Nat, q2 = (e : Int) := ⟨q2.toNat, by have : (p : Int) < q2 := p3; omega⟩; obtain ⟨tl, htl⟩ : ∃ n : Nat, tx.lo = (n : Int) := ⟨tx.lo.toNat, by omega⟩; obtain ⟨th, hth⟩ : ∃ n : Nat, tx.hi = (n : Int) := ⟨tx.hi.toNat, by have : (e : Int) <= tx.hi := p4; omega⟩; have r1 : tl <= p := by have : tx.lo <= (p : Int) := p2; omega
    have r2 : p < e := by have : (p : Int) < (e : Int) := p3; omega
    have r3 : e <= th := by have : (e : Int) <= tx.hi := p4; omega
    have r4 : th <= C.toks.length := by omega
    clear p1 p2 p3 p4 p5 hq1 hA hA2 HX; have HTX : Hid (txtOf C ((p : Int), (e : Int)) = some tx /\ tx.lo = (tl : Int) /\ tx.hi = (th : Int)) := ⟨htq, htl, hth⟩; rw [htl, hth] at o_t |-; clear htl hth htq; generalize tx.name = nm at o_t |-; obtain ⟨bl, hbl⟩ : ∃ b, b = nearL C (W : Int) (L.take k) := ⟨_, rfl⟩; rw [<- hbl] at HM3; have HBL := Z' hbl; have HBN : Hid (bl.length = C.toks.length) := by show _ = _; rw [hbl, nearL_len]
    clear hbl; have t1 := o_t.c1; have hne1 : ¬ g1 = B + 1 := by omega
    have hne2 : ¬ g2 = B + 1 := by omega
    go_upto_region 11 with (fail)
    clear t1
    go_loopg [15] (th + 1 - tl) (fun q9 v9 wr => ∃ i : Nat, q9 = th + 1 - i /\ tl <= i /\ i <= th /\ v9 = .int .i64 (i : Int) /\ Hid (Own wr (B + 1) 4 ((mk9 bl (fun j => decide (tl <= j) && decide (j < i) && hitB tx (W : Int) ((p : Int), (e : Int)) j)).map Value.bool)) /\ Chg (fun k => k = B + 1) w3 wr)
    case atStart => exact ⟨tl, rfl, Nat.le_refl _, by omega, rfl, by show Own _ _ _ _; rw [mk9_none fun j _ => by rw [Bool.eq_false_iff]; intro h; simp only [Bool.and_eq_true, decide_eq_true_eq] at h; omega]; exact HM3.out, Chg.refl _ _⟩
    case round =>
     obtain ⟨i, rfl, hi1, hi2, rfl, HMi, hch⟩ := hrel; have hwi := hch.size; have o_si := hch.own o_s3 hne1; have o_ti := hch.own o_t hne2; have c0 := o_si.c0; have c1 := o_si.c1; have t2 := o_ti.c2
     by_cases hlti : i < th
     ·skip
      have hli : i < bl.length := by rw [HBN.out]; omega
      have hlm : i < (mk9 bl (fun j => decide (tl <= j) && decide (j < i) && hitB tx (W : Int) ((p : Int), (e : Int)) j)).length := by rw [mk9_len]; exact hli
      have n1 : wr.cell? ⟨B + 1, i, none⟩ = some (.bool (mk9 bl (fun j => decide (tl <= j) && decide (j < i) && hitB tx (W : Int) ((p : Int), (e : Int)) j))[i]) := by rw [HMi.out.cell]; simp [hlm]
      have nf := HMi.out.frozen i; have HST : Hid (hitB tx (W : Int) ((p : Int), (e : Int)) i = true -> Own (wr.setCell ⟨B + 1, i, none⟩ (.bool true)) (B + 1) 4 ((mk9 bl (fun j => decide (tl <= j) && decide (j < (i + 1)) && hitB tx (W : Int) ((p : Int), (e : Int)) j)).map Value.bool)) := fun hh => by
       rw [mk9_set (p := fun j => decide (tl <= j) && decide (j < i) && hitB tx (W : Int) ((p : Int), (e : Int)) j) (i := i) fun j _ => by
        rw [Bool.eq_iff_iff]
        simp only [Bool.or_eq_true, Bool.and_eq_true, decide_eq_true_eq]
        constructor
        ·rintro ⟨⟨h1, h2⟩, h3⟩
         rcases Nat.lt_or_ge j i with h | h
         ·exact .inl ⟨⟨h1, h⟩, h3⟩
         ·exact .inr (by omega)
        ·rintro (⟨⟨h1, h2⟩, h3⟩ | rfl)
         ·exact ⟨⟨h1, by omega⟩, h3⟩
         ·exact ⟨⟨hi1, by omega⟩, hh⟩]
       have := HMi.out.set_ i (.bool true)
       rwa [show ((mk9 bl (fun j => decide (tl <= j) && decide (j < i) && hitB tx (W : Int) ((p : Int), (e : Int)) j)).map Value.bool).set i (.bool true) = ((mk9 bl (fun j => decide (tl <= j) && decide (j < i) && hitB tx (W : Int) ((p : Int), (e : Int)) j)).set i true).map Value.bool from by rw [List.map_set]] at this
      have HNO : Hid (hitB tx (W : Int) ((p : Int), (e : Int)) i = false -> Own wr (B + 1) 4 ((mk9 bl (fun j => decide (tl <= j) && decide (j < (i + 1)) && hitB tx (W : Int) ((p : Int), (e : Int)) j)).map Value.bool)) := fun hh => by
       rw [mk9_same (q := fun j => decide (tl <= j) && decide (j < i) && hitB tx (W : Int) ((p : Int), (e : Int)) j) fun j _ => by
        rw [Bool.eq_iff_iff]
        simp only [Bool.and_eq_true, decide_eq_true_eq]
        constructor
        ·rintro ⟨⟨h1, h2⟩, h3⟩; refine ⟨⟨h1, ?_⟩, h3⟩
         rcases Nat.lt_or_ge j i with h | h
         ·exact h
         ·have : j = i := by omega
          rw [this, hh] at h3; cases h3
        ·rintro ⟨⟨h1, h2⟩, h3⟩; exact ⟨⟨h1, by omega⟩, h3⟩]
       exact HMi.out
      have hch2 : Chg (fun k => k = B + 1) w3 (wr.setCell ⟨B + 1, i, none⟩ (.bool true)) := hch.setCell (p := ⟨B + 1, i, none⟩) rfl _; have HHT : Hid (hitB tx (W : Int) ((p : Int), (e : Int)) i = ((decide ((p : Int) - (W : Int) <= (i : Int)) && decide (i < p)) || (decide (e <= i) && decide ((i : Int) < (e : Int) + (W : Int))))) := by
       show _ = _
       rw [Bool.eq_iff_iff]
       simp only [hitB, Bool.or_eq_true, Bool.and_eq_true, decide_eq_true_eq, HTX.out.2.1, HTX.out.2.2]
       omega
      generalize (mk9 bl (fun j => decide (tl <= j) && decide (j < i) && hitB tx (W : Int) ((p : Int), (e : Int)) j))[i] = bi at n1; clear HMi hli hlm o_si o_ti
      by_cases x1 : (p : Int) - (W : Int) <= (i : Int)
      ·skip
       by_cases x2 : i < p
       ·skip
        have HMj := Z' (HST.out (by rw [HHT.out]; simp only [Bool.or_eq_true, Bool.and_eq_true, decide_eq_true_eq]; omega)); clear HST HNO HHT
        go_wp2
        clear n1 nf c0 c1 t2
        go_roundg (th + 1 - (i + 1))
        case measure => omega
        case rel => exact ⟨i + 1, rfl, by omega, by omega, by go_num, HMj, hch2⟩
       ·skip
        by_cases x3 : e <= i
        ·skip
         by_cases x4 : (i : Int) < (e : Int) + (W : Int)
         ·skip
          have HMj := Z' (HST.out (by rw [HHT.out]; simp only [Bool.or_eq_true, Bool.and_eq_true, decide_eq_true_eq]; omega)); clear HST HNO HHT
          go_wp2
          clear n1 nf c0 c1 t2
          go_roundg (th + 1 - (i + 1))
          case measure => omega
          case rel => exact ⟨i + 1, rfl, by omega, by omega, by go_num, HMj, hch2⟩
         ·skip
          have HMj := Z' (HNO.out (by rw [HHT.out]; simp only [Bool.or_eq_false_iff, Bool.and_eq_false_iff, decide_eq_false_iff_not]; omega)); clear HST HNO HHT hch2
          go_wp2
          clear n1 nf c0 c1 t2
          go_roundg (th + 1 - (i + 1))
          case measure => omega
          case rel => exact ⟨i + 1, rfl, by omega, by omega, by go_num, HMj, hch⟩
        ·skip
         have HMj := Z' (HNO.out (by rw [HHT.out]; simp only [Bool.or_eq_false_iff, Bool.and_eq_false_iff, decide_eq_false_iff_not]; omega)); clear HST HNO HHT hch2
         go_wp2
         clear n1 nf c0 c1 t2
         go_roundg (th + 1 - (i + 1))
         case measure => omega
         case rel => exact ⟨i + 1, rfl, by omega, by omega, by go_num, HMj, hch⟩
      ·skip
       have x3 : ¬ e <= i := by omega
       have x2 : i < p := by omega
       have HMj := Z' (HNO.out (by rw [HHT.out]; simp only [Bool.or_eq_false_iff, Bool.and_eq_false_iff, decide_eq_false_iff_not]; omega)); clear HST HNO HHT hch2
       go_wp2
       clear n1 nf c0 c1 t2
       go_roundg (th + 1 - (i + 1))
       case measure => omega
       case rel => exact ⟨i + 1, rfl, by omega, by omega, by go_num, HMj, hch⟩
     ·skip
      have ei : i = th := by omega
      subst ei; have HMk : Hid (Own wr (B + 1) 4 ((nearL C (W : Int) (L.take (k + 1))).map Value.bool)) := by
       show Own _ _ _ _
       rw [HTK.out, nearL_snoc, <- HBL.out, nearStep, HTX.out.1]
       show Own _ _ _ ((mk9 bl (hitB tx (W : Int) ((p : Int), (e : Int)))).map _)
       rw [<- hit_end tx (W : Int) bl HTX.out.2.1 HTX.out.2.2 (by omega) (by omega) (by omega)]; exact HMi.out
      have HOk : Hid (∀ q ∈ L.take (k + 1), txtOf C q ≠ none) := fun q hq => by
       rw [HTK.out] at hq
       rcases List.mem_append.1 hq with h | h
       ·exact HO.out q h
       ·rw [List.mem_singleton.1 h, HTX.out.1]; exact fun h => nomatch h
      have hbr5 : Below (B + 1) wb wr := hbr3.trans (hch.below (fun k hk e => by omega) (by omega))
      go_wp2
      go_roundg (L.length + 1 - (k + 1))
      case measure => omega
      case rel => exact ⟨k + 1, rfl, by omega, by go_num, HMk, HOk, hbr5, by omega⟩
  ·skip
   have ek : k = L.length := by omega
   subst ek; rw [List.take_length] at HM HO; obtain ⟨bl, hbl⟩ : ∃ b, b = nearL C (W : Int) L := ⟨_, rfl⟩; rw [<- hbl] at HM; have HBL := Z' hbl; have HBN : Hid (bl.length = C.toks.length) := by show _ = _; rw [hbl, nearL_len]
   clear hbl; obtain ⟨w1, hw1⟩ : ∃ x, x = wr := ⟨_, rfl⟩; rw [<- hw1] at HM hbr hbB o_r hwr |-; clear hw1
   go_wp2_with fail
   go_loopg [16, 115] (C.toks.length + 1) (fun q9 v8 v9 wr => ∃ i : Nat, q9 = C.toks.length + 1 - i /\ i <= C.toks.length /\ v9 = .int .i64 (i : Int) /\ v8 = .int .i64 (((bl.take i).count true : Nat) : Int) /\ wr = w1)
   case atStart => exact ⟨0, rfl, Nat.zero_le _, rfl, rfl, rfl⟩
   case round =>
    obtain ⟨i, rfl, hi, rfl, rfl, hw9⟩ := hrel; subst hw9
    by_cases hlti : i < C.toks.length
    ·skip
     have hbi : i < bl.length := by rw [HBN.out]; exact hlti
     have n1 : wr.cell? ⟨B + 1, i, none⟩ = some (.bool bl[i]) := by rw [HM.out.cell]; simp [hbi]
     have hct : (bl.take (i + 1)).count true = (bl.take i).count true + [bl[i]].count true := by rw [List.take_add_one, List.getElem?_eq_getElem hbi, List.count_append]; rfl
     have hcl : (bl.take i).count true <= i := Nat.le_trans List.count_le_length (by rw [List.length_take]; omega); generalize (bl.take i).count true = c0 at hct hcl
     rcases hbv : bl[i] with _ | _
     ·rw [hbv] at n1 hct; have hc9 : Hid ((bl.take (i + 1)).count true = c0) := hct; clear hbv hct
      go_wp2
      clear n1
      go_roundg (C.toks.length + 1 - (i + 1))
      case measure => omega
      case rel => exact ⟨i + 1, rfl, by omega, by go_num, by rw [hc9.out], rfl⟩
     ·rw [hbv] at n1 hct; have hc9 : Hid ((bl.take (i + 1)).count true = c0 + 1) := hct; clear hbv hct
      go_wp2
      clear n1
      go_roundg (C.toks.length + 1 - (i + 1))
      case measure => omega
      case rel => exact ⟨i + 1, rfl, by omega, by go_num, by rw [hc9.out]; go_num, rfl⟩
    ·skip
     have ei : i = C.toks.length := by omega
     subst ei; rw [List.take_of_length_le (by rw [HBN.out]; exact Nat.le_refl _)]; generalize hnn : bl.count true = nn; have HNN := Z' hnn; have hnl : nn <= C.toks.length := by rw [<- hnn, <- HBN.out]; exact List.count_le_length
     clear hnn; obtain ⟨w2, hw2⟩ : ∃ x, x = wr := ⟨_, rfl⟩; rw [<- hw2] at HM hbr hbB o_r hwr |-; clear hw2
     go_wp2_with fail
     obtain ⟨B5, hB5⟩ : ∃ B5, B5 = w2.heap.size := ⟨_, rfl⟩; have HB5 := Z' hB5; have hB51 : B + 1 + 1 <= B5 := by omega
     clear hB5; obtain ⟨cc, hcc⟩ : ∃ c, c = colC C j bl := ⟨_, rfl⟩; have H5 : Hid (∀ s, (cc s).length = 5) := by show ∀ s, _; rw [hcc]; exact fun _ => rfl
     have H1 : Hid (∀ s, ∀ v ∈ cc s, v.oneCell' = true) := by show ∀ s, _; rw [hcc]; exact colC_one C j bl
     have HCC := Z' hcc; clear hcc
     go_loopg [19, 125] (C.toks.length + 1) (fun q9 v8 v9 wr => ∃ (i m : Nat) (l : List ByteArray) (AL : Option Addr) (cL : Nat), q9 = C.toks.length + 1 - i /\ i <= C.toks.length /\ v9 = .int .i64 (i : Int) /\ v8 = .slice AL m cL /\ m <= i /\ Hid (m = l.length) /\ Hid (wr.ownsRow B5 49 5 (.slice AL m cL) m (flat5 cc l)) /\ Hid (Srt (ltC (cn (nearW C j bl))) l) /\ Hid (∀ s, s ∈ l ↔ s ∈ selN (wordsOf C j) bl i) /\ Below B5 w2 wr /\ B5 <= wr.heap.size)
     case atStart => exact ⟨0, 0, [], none, 0, rfl, Nat.zero_le _, rfl, rfl, Nat.le_refl _, rfl, World.ownsRow_nil _ _ _ _, List.Pairwise.nil, (fun s => Iff.rfl), Below.refl _ _, by have := HB5.out; omega⟩
     case round =>
      obtain ⟨i, m, l, A, c, rfl, hi, rfl, rfl, hmi, HML, HRW, HSR, HME, hb5, hw5⟩ := hrel; have hbr5 : Below (B + 1) wb wr := hbr.trans (hb5.mono (by omega)); have o_r5 := o_r.below hb5 (by omega); have HM5 := Z' (HM.out.below hb5 (by omega))
      by_cases hlti : i < C.toks.length
      ·skip
       have hji := HJ.out _ (List.getElem_mem hlti); have hbi : i < bl.length := by rw [HBN.out]; exact hlti
       have HQ5 := Z' (HQ.out.below (hsz ▸ hbr5)); obtain ⟨bk, ok, v, rfl, -, k0, hv⟩ := RowsO.get HQ5.out.t hlti; obtain ⟨Av, cv, rfl, u3, u4, hv2⟩ := EO.form hv; obtain ⟨b2, off2, rfl, -, k1, hzs⟩ := StrsO.get hv2 hji; have HW := Z' (wordsOf_get hlti hji); unfold maxLen at u4; clear hv hv2; generalize C.toks[i][j] = sw at k1 HW hzs; generalize C.toks[i].length = nr at k0 u3 hji; have n1 : wr.cell? ⟨B + 1, i, none⟩ = some (.bool bl[i]) := by rw [HM5.out.cell]; simp [hbi]
       have HBI := Z' (List.getElem?_eq_getElem hbi); generalize bl[i] = bi at n1 HBI; have k2 := o_r5.c1; clear hbi
       go_upto_region 28 with (fail)
       clear k0 k1 k2 n1 u3 u4 hji hzs; obtain ⟨n1, hn1⟩ : ∃ n, n = cn (nearW C j bl) sw := ⟨_, rfl⟩; obtain ⟨n2, hn2⟩ : ∃ n, n = cn (wordsOf C j) sw := ⟨_, rfl⟩; have HN1 := Z' hn1; have HN2 := Z' hn2; have HC5 : Hid (cc sw = [.string sw, .int .i64 (n1 : Int), .int .i64 (nn : Int), .int .i64 (n2 : Int), .int .i64 (C.toks.length : Int)]) := by show _ = _; rw [HCC.out, HN1.out, HN2.out, <- HNN.out]; rfl
       clear hn1 hn2; obtain ⟨B9, hB9⟩ : ∃ B9, B9 = wr.heap.size := ⟨_, rfl⟩; have HB9 := Z' hB9; have hs9 : B9 <= wr.heap.size := Nat.le_of_eq hB9; have hB59 : B5 <= B9 := by omega
       clear hB9; refine wp_reg_m (fun a b => Below B9 a b) (fun L u w8 => XK B9 [.string sw, .int .i64 (n1 : Int), .int .i64 (nn : Int), .int .i64 (n2 : Int), .int .i64 (C.toks.length : Int)] (L 16) (L 17) (u 16) w8) ((fun a => Below.refl _ a)) ((fun _ _ _ h h' => h.trans h')) [some 138, some 139, some 140, some 141, some 142, some 143, some 144, some 145, some 146, some 147, some 148, some 149, some 150, some 151, some 152, some 153, some 23, none] [isV ?v1_0, isV ?v1_1, isV ?v1_2, isV ?v1_3, isV ?v1_4, isV (.int .i64 (n1 : Int)), isV ?v1_6, isV ?v1_7, isV ?v1_8, isV ?v1_9, isV (.int .i64 (n2 : Int)), isV ?v1_11, isV ?v1_12, isV ?v1_13, isV ?v1_14, isV ?v1_15, (fun _ _ => True), anyV] rfl (by kernel_rfl) rfl rfl ?n1 ?k1 ⟨?s1_0, ?s1_1, ?s1_2, ?s1_3, ?s1_4, ?s1_5, ?s1_6, ?s1_7, ?s1_8, ?s1_9, ?s1_10, ?s1_11, ?s1_12, ?s1_13, ?s1_14, ?s1_15, ?s1_16, ?s1_17, trivial⟩ ?p1
       case s1_0 =>
        intro L9 u9 t9 w9 hT9 hL9 hD9 hV9 hO9 hM9 K9 hK9; have o9_22 := hO9.l 22; clear hV9 hO9; clear hL9 hD9; go_simp
        (refine hK9 _ _ ((fun a => Below.refl _ a) w9) ?_ hM9; exact rfl)
       case s1_1 =>
        intro L9 u9 t9 w9 hT9 hL9 hD9 hV9 hO9 hM9 K9 hK9; have o9_4 := hO9.l 4; clear hV9 hO9; clear hL9 hD9; obtain ⟨d9_0, d9_1, d9_2, d9_3, d9_4, d9_5, d9_6⟩ := (Own.below (w := wr.drew) o_r5 hT9 (by omega)).cells7; go_simp
        (refine hK9 _ _ ((fun a => Below.refl _ a) w9) ?_ hM9; exact rfl)
       case s1_2 =>
        intro L9 u9 t9 w9 hT9 hL9 hD9 hV9 hO9 hM9 K9 hK9; have o9_3 := hO9.l 3; clear hV9 hO9; clear hL9 hD9; go_simp
        (refine hK9 _ _ ((fun a => Below.refl _ a) w9) ?_ hM9; exact rfl)
       case s1_3 =>
        intro L9 u9 t9 w9 hT9 hL9 hD9 hV9 hO9 hM9 K9 hK9; have o9_22 := hO9.l 22; clear hV9 hO9; clear hL9 hD9; go_simp
        (refine hK9 _ _ ((fun a => Below.refl _ a) w9) ?_ hM9; exact rfl)
       case s1_4 =>
        intro L9 u9 t9 w9 hT9 hL9 hD9 hV9 hO9 hM9 K9 hK9; have o9_10 := hO9.l 10; clear hV9 hO9; clear hL9 hD9; go_simp
        (refine hK9 _ _ ((fun a => Below.refl _ a) w9) ?_ hM9; exact rfl)
       case s1_5 =>
        intro L9 u9 t9 w9 hT9 hL9 hD9 hV9 hO9 hM9 K9 hK9; have p9_1 : t9[139]? = some ?v1_1 := hV9.l 1 139; have p9_2 : t9[140]? = some ?v1_2 := hV9.l 2 140; have p9_3 : t9[141]? = some ?v1_3 := hV9.l 3 141; have p9_4 : t9[142]? = some ?v1_4 := hV9.l 4 142; clear hV9 hO9; have o9 := Own.below (w := wr.drew) HM5.out hT9 (by omega); have q9 := (HQ5.out.chg (Chg.refl S wr).drew).chg (Chg.of_below hT9 fun k h1 h2 => by have h3 : k < wr.heap.size := h1; have := HB9.out; omega); go_simp; refine (count_near w9 q9 j HJ hfew sw o9 HBN.out).mono ?_; rintro _ w8 ⟨rfl, hb8⟩; exact hK9 _ _ (hb8.mono (by have := hM9.hs; exact this)) (by rw [HN1.out]) (hM9.next hb8)
       case s1_6 =>
        intro L9 u9 t9 w9 hT9 hL9 hD9 hV9 hO9 hM9 K9 hK9; have o9_16 := hO9.l 16; clear hV9 hO9; clear hL9 hD9; go_simp
        (refine hK9 _ _ ((fun a => Below.refl _ a) w9) ?_ hM9; exact rfl)
       case s1_7 =>
        intro L9 u9 t9 w9 hT9 hL9 hD9 hV9 hO9 hM9 K9 hK9; have o9_4 := hO9.l 4; clear hV9 hO9; clear hL9 hD9; obtain ⟨d9_0, d9_1, d9_2, d9_3, d9_4, d9_5, d9_6⟩ := (Own.below (w := wr.drew) o_r5 hT9 (by omega)).cells7; go_simp
        (refine hK9 _ _ ((fun a => Below.refl _ a) w9) ?_ hM9; exact rfl)
       case s1_8 =>
        intro L9 u9 t9 w9 hT9 hL9 hD9 hV9 hO9 hM9 K9 hK9; have o9_3 := hO9.l 3; clear hV9 hO9; clear hL9 hD9; go_simp
        (refine hK9 _ _ ((fun a => Below.refl _ a) w9) ?_ hM9; exact rfl)
       case s1_9 =>
        intro L9 u9 t9 w9 hT9 hL9 hD9 hV9 hO9 hM9 K9 hK9; have o9_22 := hO9.l 22; clear hV9 hO9; clear hL9 hD9; go_simp
        (refine hK9 _ _ ((fun a => Below.refl _ a) w9) ?_ hM9; exact rfl)
       case s1_10 =>
        intro L9 u9 t9 w9 hT9 hL9 hD9 hV9 hO9 hM9 K9 hK9; have p9_7 : t9[145]? = some ?v1_7 := hV9.l 7 145; have p9_8 : t9[146]? = some ?v1_8 := hV9.l 8 146; have p9_9 : t9[147]? = some ?v1_9 := hV9.l 9 147; clear hV9 hO9; have o9 := Own.below (w := wr.drew) HM5.out hT9 (by omega); have q9 := (HQ5.out.chg (Chg.refl S wr).drew).chg (Chg.of_below hT9 fun k h1 h2 => by have h3 : k < wr.heap.size := h1; have := HB9.out; omega); go_simp; refine (count_nil w9 q9 j HJ hfew sw).mono ?_; rintro _ w8 ⟨rfl, hb8⟩; exact hK9 _ _ (hb8.mono (by have := hM9.hs; exact this)) (by rw [HN2.out]) (hM9.next hb8)
       case s1_11 =>
        intro L9 u9 t9 w9 hT9 hL9 hD9 hV9 hO9 hM9 K9 hK9; have o9_4 := hO9.l 4; clear hV9 hO9; clear hL9 hD9; go_simp
        (refine hK9 _ _ ((fun a => Below.refl _ a) w9) ?_ hM9; exact rfl)
       case s1_12 =>
        intro L9 u9 t9 w9 hT9 hL9 hD9 hV9 hO9 hM9 K9 hK9; have p9_11 : t9[149]? = some ?v1_11 := hV9.l 11 149; clear hV9 hO9; clear hL9 hD9; obtain ⟨d9_0, d9_1, d9_2, d9_3, d9_4, d9_5, d9_6⟩ := (Own.below (w := wr.drew) o_r5 hT9 (by omega)).cells7; go_simp
        (refine hK9 _ _ ((fun a => Below.refl _ a) w9) ?_ hM9; exact rfl)
       case s1_13 =>
        intro L9 u9 t9 w9 hT9 hL9 hD9 hV9 hO9 hM9 K9 hK9; have p9_12 : t9[150]? = some ?v1_12 := hV9.l 12 150; clear hV9 hO9; clear hL9 hD9; go_simp
        (refine hK9 _ _ ((fun a => Below.refl _ a) w9) ?_ hM9; exact rfl)
       case s1_14 =>
        intro L9 u9 t9 w9 hT9 hL9 hD9 hV9 hO9 hM9 K9 hK9; have p9_5 : t9[143]? = some ((.int .i64 (n1 : Int))) := hV9.l 5 143; have p9_6 : t9[144]? = some ?v1_6 := hV9.l 6 144; have p9_10 : t9[148]? = some ((.int .i64 (n2 : Int))) := hV9.l 10 148; have p9_13 : t9[151]? = some ?v1_13 := hV9.l 13 151; clear hV9 hO9; clear hL9 hD9; go_simp
        (refine hK9 _ _ ((fun a => Below.refl _ a) w9) ?_ hM9; exact rfl)
       case s1_15 =>
        intro L9 u9 t9 w9 hT9 hL9 hD9 hV9 hO9 hM9 K9 hK9; have p9_0 : t9[138]? = some ?v1_0 := hV9.l 0 138; have p9_14 : t9[152]? = some ?v1_14 := hV9.l 14 152; clear hV9 hO9; clear hL9 hD9; go_simp
        (refine hK9 _ _ ((fun a => Below.refl _ a) w9) ?_ hM9; exact rfl)
       case s1_16 =>
        intro l u t w T L D V O M K k; clear V O; have l17 := bool_f M.h L; have M9 : Hid (XK B9 [.string sw, .int .i64 (n1 : Int), .int .i64 (nn : Int), .int .i64 (n2 : Int), .int .i64 (C.toks.length : Int)] true (l 17) (.pointer (some ⟨w.heap.size, 0, none⟩)) (w.alloc (.cells #[.string ⟨#[]⟩, .int .i64 0, .int .i64 0, .int .i64 0, .int .i64 0] 49))) := ⟨fun _ => rfl, fun _ => ⟨_, rfl, M.hs, fun _ => Own.new _ _ _, fun h => by rw [l17] at h; cases h⟩, Nat.le_trans M.hs (by simp)⟩; have hb9 : Below B9 w (w.alloc (.cells #[.string ⟨#[]⟩, .int .i64 0, .int .i64 0, .int .i64 0, .int .i64 0] 49)) := ((Below.refl _ w).alloc (Nat.le_refl _) _).mono M.hs; clear M L D l17; go_simp; exact k _ _ hb9 trivial M9.out
       case s1_17 =>
        intro L9 u9 t9 w9 hT9 hL9 hD9 hV9 hO9 hM9 K9 hK9; have p9_15 : t9[153]? = some ?v1_15 := hV9.l 15 153; obtain ⟨x9_16, p9_16, q9_16⟩ := hV9.g 16 23 rfl rfl (by kernel_rfl); obtain ⟨q9_16, e9_16⟩ := q9_16; replace q9_16 : ((fun _ _ => True)) x9_16 w9 := q9_16; clear hV9 hO9; obtain ⟨g9, eg9, h91, h92, -⟩ := hM9.a (hD9 16 rfl); rw [eg9] at e9_16; subst e9_16; have o9 := h92 hL9; obtain ⟨k90, k91, k92, k93, k94⟩ := o9.cells5; obtain ⟨f90, f91, f92, f93, f94⟩ := o9.frozens5; have o8 := ((((o9.set_ 0 (.string sw)).set_ 1 (.int .i64 (n1 : Int))).set_ 2 (.int .i64 (nn : Int))).set_ 3 (.int .i64 (n2 : Int))).set_ 4 (.int .i64 (C.toks.length : Int)); have c9 : Below B9 w9 (((((w9.setCell ⟨g9, 0, none⟩ (.string sw)).setCell ⟨g9, 1, none⟩ (.int .i64 (n1 : Int))).setCell ⟨g9, 2, none⟩ (.int .i64 (nn : Int))).setCell ⟨g9, 3, none⟩ (.int .i64 (n2 : Int))).setCell ⟨g9, 4, none⟩ (.int .i64 (C.toks.length : Int))) := (((((Below.refl _ w9).setCell (p := ⟨g9, 0, none⟩) h91 _).setCell (p := ⟨g9, 1, none⟩) h91 _).setCell (p := ⟨g9, 2, none⟩) h91 _).setCell (p := ⟨g9, 3, none⟩) h91 _).setCell (p := ⟨g9, 4, none⟩) h91 _
        have M9 : Hid (XK B9 [.string sw, .int .i64 (n1 : Int), .int .i64 (nn : Int), .int .i64 (n2 : Int), .int .i64 (C.toks.length : Int)] (L9 16) true (u9 16) (((((w9.setCell ⟨g9, 0, none⟩ (.string sw)).setCell ⟨g9, 1, none⟩ (.int .i64 (n1 : Int))).setCell ⟨g9, 2, none⟩ (.int .i64 (nn : Int))).setCell ⟨g9, 3, none⟩ (.int .i64 (n2 : Int))).setCell ⟨g9, 4, none⟩ (.int .i64 (C.toks.length : Int)))) := ⟨fun _ => hD9 16 rfl, fun _ => ⟨g9, eg9, h91, (fun h => nomatch h), fun _ => o8⟩, Nat.le_trans hM9.hs c9.size⟩; clear hM9 hL9 hD9 o9 o8 h92; go_simp; exact hK9 undef _ c9 trivial M9.out
       case n1 =>
        intro L9 u9 h9; have h1 := h9 16 (by decide); have h2 := h9 17 (by decide)
        show XK B9 [.string sw, .int .i64 (n1 : Int), .int .i64 (nn : Int), .int .i64 (n2 : Int), .int .i64 (C.toks.length : Int)] (L9 16) (L9 17) _ _
        rw [h1, h2]; exact ⟨(fun h => nomatch h), (fun h => nomatch h), hs9⟩
       case k1 =>
        intro i9 v9 w9 x9 h9 g9
        match i9, h9 with
        | 0, h9 => exact h9
        | 1, h9 => exact h9
        | 2, h9 => exact h9
        | 3, h9 => exact h9
        | 4, h9 => exact h9
        | 5, h9 => exact h9
        | 6, h9 => exact h9
        | 7, h9 => exact h9
        | 8, h9 => exact h9
        | 9, h9 => exact h9
        | 10, h9 => exact h9
        | 11, h9 => exact h9
        | 12, h9 => exact h9
        | 13, h9 => exact h9
        | 14, h9 => exact h9
        | 15, h9 => exact h9
        | 16, h9 => (replace h9 : (fun _ _ => True) v9 w9 := h9); exact trivial
        | 17, h9 => exact h9
        | _ + 18, h9 => exact trivial
       intro u9 w9 hE9 hM9 hu9; have r9_0 : u9 0 = ?v1_0 := hu9 0 (by decide); have r9_1 : u9 1 = ?v1_1 := hu9 1 (by decide); have r9_2 : u9 2 = ?v1_2 := hu9 2 (by decide); have r9_3 : u9 3 = ?v1_3 := hu9 3 (by decide); have r9_4 : u9 4 = ?v1_4 := hu9 4 (by decide); have r9_5 : u9 5 = (.int .i64 (n1 : Int)) := hu9 5 (by decide); have r9_6 : u9 6 = ?v1_6 := hu9 6 (by decide); have r9_7 : u9 7 = ?v1_7 := hu9 7 (by decide); have r9_8 : u9 8 = ?v1_8 := hu9 8 (by decide); have r9_9 : u9 9 = ?v1_9 := hu9 9 (by decide); have r9_10 : u9 10 = (.int .i64 (n2 : Int)) := hu9 10 (by decide); have r9_11 : u9 11 = ?v1_11 := hu9 11 (by decide); have r9_12 : u9 12 = ?v1_12 := hu9 12 (by decide); have r9_13 : u9 13 = ?v1_13 := hu9 13 (by decide); have r9_14 : u9 14 = ?v1_14 := hu9 14 (by decide); have r9_15 : u9 15 = ?v1_15 := hu9 15 (by decide); have r9_16 : (fun _ _ => True) (u9 16) w9 := hu9 16 (by decide)
       clear hu9
       simp only [putAll, Act.put, List.setIfInBounds_toArray, List.set_cons_succ, List.set_cons_zero, List.getD_cons_succ, List.getD_cons_zero, Nat.reduceAdd, Nat.zero_add]
       simp only [r9_0, r9_1, r9_2, r9_3, r9_4, r9_5, r9_6, r9_7, r9_8, r9_9, r9_10, r9_11, r9_12, r9_13, r9_14, r9_15]
       clear r9_0 r9_1 r9_2 r9_3 r9_4 r9_5 r9_6 r9_7 r9_8 r9_9 r9_10 r9_11 r9_12 r9_13 r9_14 r9_15; obtain ⟨gx, e16, hgx, -, hxx⟩ := hM9.a rfl; have o_x := hxx rfl
       simp only [e16]
       clear hM9 r9_16 e16 hxx HQ5; have hbx : Below B9 wr w9 := (Below.refl B9 wr).drew.trans hE9; have HRW6 := Z' (ownsRow_chg HRW.out (S := fun k => B9 <= k) (Chg.of_below hbx fun k _ e => e) (fun b hb e => by have := (HRW.out.lt b hb); have := HB9.out; omega)); have o_r6 := o_r5.below hbx (by omega); have HM6 := Z' (HM5.out.below hbx (by omega)); have hb6 : Below B5 w2 w9 := hb5.trans (hbx.mono hB59); have hw6 := hbx.size; clear hE9 hbx HRW o_r5 HM5 hbr5 hb5; obtain ⟨w6, hw66⟩ : ∃ x, x = w9 := ⟨_, rfl⟩; rw [<- hw66] at o_x HRW6 o_r6 HM6 hb6 hw6 |-; clear hw66; have hgx2 := o_x.lt; have hcc9 : m <= c /\ c <= maxLen := by
        obtain ⟨_, _, e9, h1, h2⟩ := own_form HRW6.out
        injection e9 with _ _ e9
        subst e9; exact ⟨h1, h2⟩
       go_upto_block 8 with (fail)
       go_cut [24] from 156 to 168 (fun s24 wx => ∃ k : Nat, s24 = .int .i64 (k : Int) /\ k <= m /\ Hid (∀ y ∈ l.drop k, ltC (cn (nearW C j bl)) sw y = true) /\ Hid (∀ y, 0 < k -> l[k - 1]? = some y -> ltC (cn (nearW C j bl)) sw y = false) /\ Below w6.heap.size w6 wx)
       case first =>
        go_wp2_with fail
        go_loopg [24] (m + 1) (fun q9 v9 wr => ∃ k : Nat, q9 = k + 1 /\ k <= m /\ v9 = .int .i64 (k : Int) /\ Hid (∀ y ∈ l.drop k, ltC (cn (nearW C j bl)) sw y = true) /\ Below w6.heap.size w6 wr)
        case atStart => exact ⟨m, rfl, Nat.le_refl _, rfl, (fun y hy => by rw [HML.out, List.drop_length] at hy; cases hy), Below.refl _ _⟩
        case round =>
         obtain ⟨k, rfl, hk, rfl, HDR, hb7⟩ := hrel; have hw7 := hb7.size; have o_x7 := o_x.below hb7 hgx2; have HRW7 := Z' (ownsRow_below HRW6.out hb7); have hb66 := hb7; clear hb7
         by_cases hk0 : k = 0
         ·skip
          obtain ⟨Bk, hBk⟩ : ∃ B, B = wr.heap.size := ⟨_, rfl⟩; have HBk := Z' hBk; clear hBk; have dk : decide ((0 : Int) < (k : Int)) = false := decide_eq_false (by omega); have dkn : decide (0 < k) = false := decide_eq_false (by omega)
          go_upto_region 30 with (fail)
          refine wp_reg_t (fun a b => Below Bk a b) ((fun a => Below.refl _ a)) ((fun _ _ _ h h' => h.trans h')) [some 156, some 157, some 158, some 159, some 160, some 161, some 162, some 163, some 164, some 165, some 166] [isV ?v2_0, isV ?v2_1, isV ?v2_2, isV ?v2_3, isV ?v2_4, isV ?v2_5, isV ?v2_6, isV ?v2_7, isV ?v2_8, isV ?v2_9, isV ?v2_10] rfl (by kernel_rfl) rfl rfl ?k2 ⟨?s2_0, ?s2_1, ?s2_2, ?s2_3, ?s2_4, ?s2_5, ?s2_6, ?s2_7, ?s2_8, ?s2_9, ?s2_10, trivial⟩ ?p2
          case s2_0 =>
           intro t9 w9 hT9 hV9 hO9 K9 hK9; have o9_24 := hO9.l 24; clear hV9 hO9; go_simp
           (refine hK9 _ _ ((fun a => Below.refl _ a) w9) ?_; exact rfl)
          case s2_1 =>
           intro t w T V O K k; have p0 : t[156]? = some ?v2_0 := V.v 0 156 rfl rfl (by kernel_rfl) rfl; clear V O; go_simp
           (refine k _ _ ((fun a => Below.refl _ a) w) ?_; exact rfl)
          case s2_2 =>
           intro t w T V O K k; have p1 : t[157]? = some ?v2_1 := V.v 1 157 rfl rfl (by kernel_rfl) rfl; clear V O; go_simp
           (refine k _ _ ((fun a => Below.refl _ a) w) ?_; exact rfl)
          case s2_3 =>
           intro t9 w9 hT9 hV9 hO9 K9 hK9; have p9_2 : t9[158]? = some ?v2_2 := hV9.v 2 158 rfl rfl (by kernel_rfl) rfl; have o9_23 := hO9.l 23; clear hV9 hO9; go_simp
           (refine hK9 _ _ ((fun a => Below.refl _ a) w9) ?_; exact rfl)
          case s2_4 =>
           intro t9 w9 hT9 hV9 hO9 K9 hK9; have p9_2 : t9[158]? = some ?v2_2 := hV9.v 2 158 rfl rfl (by kernel_rfl) rfl; have o9_19 := hO9.l 19; clear hV9 hO9; go_simp
           (refine hK9 _ _ ((fun a => Below.refl _ a) w9) ?_; exact rfl)
          case s2_5 =>
           intro t9 w9 hT9 hV9 hO9 K9 hK9; have p9_2 : t9[158]? = some ?v2_2 := hV9.v 2 158 rfl rfl (by kernel_rfl) rfl; have o9_24 := hO9.l 24; clear hV9 hO9; go_simp
           (refine hK9 _ _ ((fun a => Below.refl _ a) w9) ?_; exact rfl)
          case s2_6 =>
           intro t w T V O K k; have p2 : t[158]? = some ?v2_2 := V.v 2 158 rfl rfl (by kernel_rfl) rfl; have p5 : t[161]? = some ?v2_5 := V.v 5 161 rfl rfl (by kernel_rfl) rfl; clear V O; go_simp
           (refine k _ _ ((fun a => Below.refl _ a) w) ?_; exact rfl)
          case s2_7 =>
           intro t w T V O K k; have p2 : t[158]? = some ?v2_2 := V.v 2 158 rfl rfl (by kernel_rfl) rfl; have p4 : t[160]? = some ?v2_4 := V.v 4 160 rfl rfl (by kernel_rfl) rfl; have p6 : t[162]? = some ?v2_6 := V.v 6 162 rfl rfl (by kernel_rfl) rfl; clear V O; go_simp
           (refine k _ _ ((fun a => Below.refl _ a) w) ?_; exact rfl)
          case s2_8 =>
           intro t w T V O K k; have p2 : t[158]? = some ?v2_2 := V.v 2 158 rfl rfl (by kernel_rfl) rfl; have p7 : t[163]? = some ?v2_7 := V.v 7 163 rfl rfl (by kernel_rfl) rfl; clear V O; go_simp
           (refine k _ _ ((fun a => Below.refl _ a) w) ?_; exact rfl)
          case s2_9 =>
           intro t w T V O K k; have p2 : t[158]? = some ?v2_2 := V.v 2 158 rfl rfl (by kernel_rfl) rfl; have p3 : t[159]? = some ?v2_3 := V.v 3 159 rfl rfl (by kernel_rfl) rfl; have p8 : t[164]? = some ?v2_8 := V.v 8 164 rfl rfl (by kernel_rfl) rfl; clear V O; go_simp
           (refine k _ _ ((fun a => Below.refl _ a) w) ?_; exact rfl)
          case s2_10 =>
           intro t w T V O K k; have p2 : t[158]? = some ?v2_2 := V.v 2 158 rfl rfl (by kernel_rfl) rfl; have p9 : t[165]? = some ?v2_9 := V.v 9 165 rfl rfl (by kernel_rfl) rfl; clear V O; go_simp
           (refine k _ _ ((fun a => Below.refl _ a) w) ?_; exact rfl)
          case k2 =>
           intro i9 v9 w9 x9 h9 g9
           match i9, h9 with
           | 0, h9 => exact h9
           | 1, h9 => exact h9
           | 2, h9 => exact h9
           | 3, h9 => exact h9
           | 4, h9 => exact h9
           | 5, h9 => exact h9
           | 6, h9 => exact h9
           | 7, h9 => exact h9
           | 8, h9 => exact h9
           | 9, h9 => exact h9
           | 10, h9 => exact h9
           | _ + 11, h9 => exact trivial
          intro u9 w9 hE9 hu9; have r9_0 : u9 0 = ?v2_0 := hu9 0 (by decide); have r9_1 : u9 1 = ?v2_1 := hu9 1 (by decide); have r9_2 : u9 2 = ?v2_2 := hu9 2 (by decide); have r9_3 : u9 3 = ?v2_3 := hu9 3 (by decide); have r9_4 : u9 4 = ?v2_4 := hu9 4 (by decide); have r9_5 : u9 5 = ?v2_5 := hu9 5 (by decide); have r9_6 : u9 6 = ?v2_6 := hu9 6 (by decide); have r9_7 : u9 7 = ?v2_7 := hu9 7 (by decide); have r9_8 : u9 8 = ?v2_8 := hu9 8 (by decide); have r9_9 : u9 9 = ?v2_9 := hu9 9 (by decide); have r9_10 : u9 10 = ?v2_10 := hu9 10 (by decide); clear hu9
          simp only [putAll, Act.put, List.setIfInBounds_toArray, List.set_cons_succ, List.set_cons_zero, List.getD_cons_succ, List.getD_cons_zero, Nat.reduceAdd, Nat.zero_add]
          simp only [r9_0, r9_1, r9_2, r9_3, r9_4, r9_5, r9_6, r9_7, r9_8, r9_9, r9_10]
          clear r9_0 r9_1 r9_2 r9_3 r9_4 r9_5 r9_6 r9_7 r9_8 r9_9 r9_10; clear dk dkn; have hb78 : Below Bk wr w9 := (Below.refl Bk wr).drew.trans hE9; have hb80 : Below w6.heap.size w6 w9 := hb66.trans (hb78.mono (by have := HBk.out; omega)); clear hE9 hb78 hb66 o_x7 HRW7; subst hk0
          go_wp2_with fail
          go_meet
          exact ⟨0, rfl, Nat.zero_le _, HDR, (fun y h => absurd h (Nat.lt_irrefl _)), hb80⟩
         ·skip
          obtain ⟨k, rfl⟩ : ∃ k', k = k' + 1 := ⟨k - 1, by omega⟩; clear hk0; obtain ⟨Bk, hBk⟩ : ∃ B, B = wr.heap.size := ⟨_, rfl⟩; have HBk := Z' hBk; clear hBk; have dk : decide ((0 : Int) < ((k + 1 : Nat) : Int)) = true := decide_eq_true (by omega); have dkn : decide (0 < k + 1) = true := decide_eq_true (by omega); have hkl : k < l.length := by rw [<- HML.out]; omega
          obtain ⟨gl, hA, hcl⟩ := flat5_cell H5.out (by have := HRW7.out; rw [HML.out] at this; exact this) hkl; obtain ⟨y, hy⟩ : ∃ y, y = l[k] := ⟨_, rfl⟩; rw [<- hy] at hcl; have HYK : Hid (l[k]? = some y) := by show _ = _; rw [List.getElem?_eq_getElem hkl, hy]
          clear hy hkl; obtain ⟨y1, hy1⟩ : ∃ n, n = cn (nearW C j bl) y := ⟨_, rfl⟩; obtain ⟨y3, hy3⟩ : ∃ n, n = cn (wordsOf C j) y := ⟨_, rfl⟩; have hyc : cc y = [.string y, .int .i64 (y1 : Int), .int .i64 (nn : Int), .int .i64 (y3 : Int), .int .i64 (C.toks.length : Int)] := by rw [HCC.out, hy1, hy3, <- HNN.out]; rfl
          rw [hyc] at hcl; obtain ⟨bq, hbq⟩ : ∃ b, b = (decide (y1 < n1) || (decide (n1 = y1) && ltS sw y)) := ⟨_, rfl⟩; have HLT : Hid (ltC (cn (nearW C j bl)) sw y = bq) := by show _ = _; rw [hbq, hy1, HN1.out]; rfl
          have HBQ := Z' hbq; subst hA; clear hyc hy1 hy3 hbq; have zk : IntKind.i64.wrap (((k + 1 : Nat) : Int) - 1) = (k : Int) := (IntWalk.i64_in _ (by omega)).trans (by omega); have zk2 : IntKind.i64.wrap ((k : Int) + 1 - 1) = (k : Int) := (IntWalk.i64_in _ (by omega)).trans (by omega); have hkm : k < m := by omega
          have zk3 : IntKind.i64.wrap (k : Int) = (k : Int) := (IntWalk.i64_in _ (by omega)).trans rfl; have hgl : gl < Bk := by have h2 : gl < wr.heap.size := World.block_lt_of_cell? wr _ (hcl 0 _ rfl); have := HBk.out; omega
          have hgxk : gx < Bk := by have := HBk.out; omega
          have l0 : wr.cell? ⟨gl, k * 5, none⟩ = some (.string y) := hcl 0 _ rfl; have l1 : wr.cell? ⟨gl, k * 5 + 1, none⟩ = some (.int .i64 (y1 : Int)) := hcl 1 _ rfl; have l2 : wr.cell? ⟨gl, k * 5 + 2, none⟩ = some (.int .i64 (nn : Int)) := hcl 2 _ rfl; have l3 : wr.cell? ⟨gl, k * 5 + 3, none⟩ = some (.int .i64 (y3 : Int)) := hcl 3 _ rfl; have l4 : wr.cell? ⟨gl, k * 5 + 4, none⟩ = some (.int .i64 (C.toks.length : Int)) := hcl 4 _ rfl; clear hcl
          go_upto_region 30 with (fail)
          refine wp_reg_t (fun a b => Below Bk a b) ((fun a => Below.refl _ a)) ((fun _ _ _ h h' => h.trans h')) [some 156, some 157, some 158, some 159, some 160, some 161, some 162, some 163, some 164, some 165, some 166] [isV ?v3_0, isV ?v3_1, isV ?v3_2, isV ?v3_3, isV ?v3_4, isV ?v3_5, isV ?v3_6, isV ?v3_7, isV ?v3_8, isV (.bool bq), isV ?v3_10] rfl (by kernel_rfl) rfl rfl ?k3 ⟨?s3_0, ?s3_1, ?s3_2, ?s3_3, ?s3_4, ?s3_5, ?s3_6, ?s3_7, ?s3_8, ?s3_9, ?s3_10, trivial⟩ ?p3
          case s3_0 =>
           intro t9 w9 hT9 hV9 hO9 K9 hK9; have o9_24 := hO9.l 24; clear hV9 hO9; go_simp
           (refine hK9 _ _ ((fun a => Below.refl _ a) w9) ?_; exact rfl)
          case s3_1 =>
           intro t w T V O K k; have p0 : t[156]? = some ?v3_0 := V.v 0 156 rfl rfl (by kernel_rfl) rfl; clear V O; go_simp
           (refine k _ _ ((fun a => Below.refl _ a) w) ?_; exact rfl)
          case s3_2 =>
           intro t w T V O K k; have p1 : t[157]? = some ?v3_1 := V.v 1 157 rfl rfl (by kernel_rfl) rfl; clear V O; go_simp
           (refine k _ _ ((fun a => Below.refl _ a) w) ?_; exact rfl)
          case s3_3 =>
           intro t9 w9 hT9 hV9 hO9 K9 hK9; have p9_2 : t9[158]? = some ?v3_2 := hV9.v 2 158 rfl rfl (by kernel_rfl) rfl; have o9_23 := hO9.l 23; clear hV9 hO9; obtain ⟨d0, d1, d2, d3, d4⟩ := (Own.below (w := wr.drew) o_x7 hT9 hgxk).cells5; go_simp
           (refine hK9 _ _ ((fun a => Below.refl _ a) w9) ?_; exact rfl)
          case s3_4 =>
           intro t9 w9 hT9 hV9 hO9 K9 hK9; have p9_2 : t9[158]? = some ?v3_2 := hV9.v 2 158 rfl rfl (by kernel_rfl) rfl; have o9_19 := hO9.l 19; clear hV9 hO9; go_simp
           (refine hK9 _ _ ((fun a => Below.refl _ a) w9) ?_; exact rfl)
          case s3_5 =>
           intro t9 w9 hT9 hV9 hO9 K9 hK9; have p9_2 : t9[158]? = some ?v3_2 := hV9.v 2 158 rfl rfl (by kernel_rfl) rfl; have o9_24 := hO9.l 24; clear hV9 hO9; go_simp
           (refine hK9 _ _ ((fun a => Below.refl _ a) w9) ?_; exact rfl)
          case s3_6 =>
           intro t w T V O K k; have p2 : t[158]? = some ?v3_2 := V.v 2 158 rfl rfl (by kernel_rfl) rfl; have p5 : t[161]? = some ?v3_5 := V.v 5 161 rfl rfl (by kernel_rfl) rfl; clear V O; go_simp
           (refine k _ _ ((fun a => Below.refl _ a) w) ?_; exact rfl)
          case s3_7 =>
           intro t w T V O K k; have p2 : t[158]? = some ?v3_2 := V.v 2 158 rfl rfl (by kernel_rfl) rfl; have p4 : t[160]? = some ?v3_4 := V.v 4 160 rfl rfl (by kernel_rfl) rfl; have p6 : t[162]? = some ?v3_6 := V.v 6 162 rfl rfl (by kernel_rfl) rfl; clear V O; go_simp
           (refine k _ _ ((fun a => Below.refl _ a) w) ?_; exact rfl)
          case s3_8 =>
           intro t9 w9 hT9 hV9 hO9 K9 hK9; have p9_2 : t9[158]? = some ?v3_2 := hV9.v 2 158 rfl rfl (by kernel_rfl) rfl; have p9_7 : t9[163]? = some ?v3_7 := hV9.v 7 163 rfl rfl (by kernel_rfl) rfl; clear hV9 hO9; have d0 := (Below.cell (w := wr.drew) hT9 hgl).trans l0; have d1 := (Below.cell (w := wr.drew) hT9 hgl).trans l1; have d2 := (Below.cell (w := wr.drew) hT9 hgl).trans l2; have d3 := (Below.cell (w := wr.drew) hT9 hgl).trans l3; have d4 := (Below.cell (w := wr.drew) hT9 hgl).trans l4; go_simp
           (refine hK9 _ _ ((fun a => Below.refl _ a) w9) ?_; exact rfl)
          case s3_9 =>
           intro t w T V O K k; have p2 : t[158]? = some ?v3_2 := V.v 2 158 rfl rfl (by kernel_rfl) rfl; have p3 : t[159]? = some ?v3_3 := V.v 3 159 rfl rfl (by kernel_rfl) rfl; have p8 : t[164]? = some ?v3_8 := V.v 8 164 rfl rfl (by kernel_rfl) rfl; clear V O; go_simp; refine (less38_any sw y n1 y1 _ _ _ _ _ _ w).mono ?_; rintro _ w8 ⟨rfl, hb8⟩; exact k _ _ (hb8.mono (by have h1 := T.size; have h2 := HBk.out; have h3 : wr.drew.heap.size = wr.heap.size := rfl; omega)) (by rw [<- HBQ.out])
          case s3_10 =>
           intro t w T V O K k; have p2 : t[158]? = some ?v3_2 := V.v 2 158 rfl rfl (by kernel_rfl) rfl; have p9 : t[165]? = some ((.bool bq)) := V.v 9 165 rfl rfl (by kernel_rfl) rfl; clear V O; go_simp
           (refine k _ _ ((fun a => Below.refl _ a) w) ?_; exact rfl)
          case k3 =>
           intro i9 v9 w9 x9 h9 g9
           match i9, h9 with
           | 0, h9 => exact h9
           | 1, h9 => exact h9
           | 2, h9 => exact h9
           | 3, h9 => exact h9
           | 4, h9 => exact h9
           | 5, h9 => exact h9
           | 6, h9 => exact h9
           | 7, h9 => exact h9
           | 8, h9 => exact h9
           | 9, h9 => exact h9
           | 10, h9 => exact h9
           | _ + 11, h9 => exact trivial
          intro u9 w9 hE9 hu9; have r9_0 : u9 0 = ?v3_0 := hu9 0 (by decide); have r9_1 : u9 1 = ?v3_1 := hu9 1 (by decide); have r9_2 : u9 2 = ?v3_2 := hu9 2 (by decide); have r9_3 : u9 3 = ?v3_3 := hu9 3 (by decide); have r9_4 : u9 4 = ?v3_4 := hu9 4 (by decide); have r9_5 : u9 5 = ?v3_5 := hu9 5 (by decide); have r9_6 : u9 6 = ?v3_6 := hu9 6 (by decide); have r9_7 : u9 7 = ?v3_7 := hu9 7 (by decide); have r9_8 : u9 8 = ?v3_8 := hu9 8 (by decide); have r9_9 : u9 9 = (.bool bq) := hu9 9 (by decide); have r9_10 : u9 10 = ?v3_10 := hu9 10 (by decide); clear hu9
          simp only [putAll, Act.put, List.setIfInBounds_toArray, List.set_cons_succ, List.set_cons_zero, List.getD_cons_succ, List.getD_cons_zero, Nat.reduceAdd, Nat.zero_add]
          simp only [r9_0, r9_1, r9_2, r9_3, r9_4, r9_5, r9_6, r9_7, r9_8, r9_9, r9_10]
          clear r9_0 r9_1 r9_2 r9_3 r9_4 r9_5 r9_6 r9_7 r9_8 r9_9 r9_10; clear dk dkn l0 l1 l2 l3 l4; have hb78 : Below Bk wr w9 := (Below.refl Bk wr).drew.trans hE9; have hb80 : Below w6.heap.size w6 w9 := hb66.trans (hb78.mono (by have := HBk.out; omega)); clear hE9 hb78 hb66 o_x7 HRW7
          rcases bq with _ | _
          ·skip
           have HPV : Hid (∀ z, 0 < k + 1 -> l[k + 1 - 1]? = some z -> ltC (cn (nearW C j bl)) sw z = false) := fun z _ hz => by
            rw [Nat.add_sub_cancel, HYK.out] at hz
            injection hz with hz
            subst hz; exact HLT.out
           go_wp2_with fail
           go_meet
           exact ⟨k + 1, rfl, hk, HDR, HPV, hb80⟩
          ·skip
           have HDR2 : Hid (∀ z ∈ l.drop k, ltC (cn (nearW C j bl)) sw z = true) := by
            have := drop_step (l := l) (k := k + 1) (by omega) (by rw [<- HML.out]; omega) HDR.out (fun z hz => by rw [Nat.add_sub_cancel, HYK.out] at hz; injection hz with hz; subst hz; exact HLT.out)
            rwa [Nat.add_sub_cancel] at this
           go_wp2
           go_roundg (k + 1)
           case measure => omega
           case rel => exact ⟨k, rfl, by omega, by go_num, HDR2, hb80⟩
       case rest =>
        obtain ⟨k, rfl, hk, HDR, HPL, hb7⟩ := hcut; obtain ⟨wr, hwr9⟩ : ∃ x, x = wc := ⟨_, rfl⟩; rw [<- hwr9] at hb7 |-; clear hwr9; have hw7 := hb7.size; have o_x7 := o_x.below hb7 hgx2; have HRW7 := Z' (ownsRow_below HRW6.out hb7); have hb77 : Below B5 w2 wr := hb6.trans (hb7.mono (by omega)); clear hb7 o_x HRW6 hb6 o_r6 HM6
        go_upto_region 32 with (fail)
        go_cut [183] (fun s183 wx => ∃ bb : Bool, s183 = .bool bb /\ Hid (bb = true -> bi = true /\ ∀ y, 0 < k -> l[k - 1]? = some y -> y ≠ sw) /\ Hid (bb = false -> bi = false \/ sw ∈ l) /\ wx = wr)
        case first =>
         rcases bi with _ | _
         ·skip
          go_wp2_with fail
          go_meet
          exact ⟨false, rfl, (fun h => nomatch h), (fun _ => .inl (by first | rfl | trivial)), rfl⟩
         by_cases hk0 : k = 0
         ·skip
          have f1 : ((k : Int) == (0 : Int)) = true := beq_iff_eq.2 (by omega); have f2 : ((k : Nat) == (0 : Nat)) = true := beq_iff_eq.2 (by omega); have HK0 := Z' hk0; clear hk0
          go_wp2_with fail
          go_meet
          exact ⟨true, rfl, (fun _ => ⟨by first | rfl | trivial, fun y h => by have := HK0.out; omega⟩), (fun h => nomatch h), rfl⟩
         ·skip
          obtain ⟨k, rfl⟩ : ∃ k', k = k' + 1 := ⟨k - 1, by omega⟩; clear hk0; have hkl : k < l.length := by rw [<- HML.out]; omega
          obtain ⟨gl, hA, hcl⟩ := flat5_cell H5.out (by have := HRW7.out; rw [HML.out] at this; exact this) hkl; obtain ⟨y, hy⟩ : ∃ y, y = l[k] := ⟨_, rfl⟩; rw [<- hy] at hcl; have HYK : Hid (l[k]? = some y) := by show _ = _; rw [List.getElem?_eq_getElem hkl, hy]
          clear hy hkl; subst hA; have l0 : wr.cell? ⟨gl, k * 5, none⟩ = some (.string y) := by
           refine hcl 0 _ ?_; rw [HCC.out]
           rfl
          clear hcl; have zk : IntKind.i64.wrap (((k + 1 : Nat) : Int) - 1) = (k : Int) := (IntWalk.i64_in _ (by omega)).trans (by omega); have zk2 : IntKind.i64.wrap ((k : Int) + 1 - 1) = (k : Int) := (IntWalk.i64_in _ (by omega)).trans (by omega); have hkm : k < m := by omega
          have zk3 : IntKind.i64.wrap (k : Int) = (k : Int) := (IntWalk.i64_in _ (by omega)).trans rfl; have f1 : (((k + 1 : Nat) : Int) == (0 : Int)) = false := beq_eq_false_iff_ne.2 (by omega); have f2 : ((k + 1 : Nat) == (0 : Nat)) = false := beq_eq_false_iff_ne.2 (by omega); have f3 : ((k : Int) + 1 == (0 : Int)) = false := beq_eq_false_iff_ne.2 (by omega)
          by_cases hyw : y = sw
          ·have d1 : (y.toList == sw.toList) = true := by rw [str_beq]; exact decide_eq_true hyw
           have HYM : Hid (sw ∈ l) := by show sw ∈ l; rw [<- hyw]; exact List.mem_of_getElem? HYK.out
           clear hyw
           go_wp2_with fail
           go_meet
           exact ⟨false, rfl, (fun h => nomatch h), (fun _ => .inr HYM.out), rfl⟩
          ·have d1 : (y.toList == sw.toList) = false := by rw [str_beq]; exact decide_eq_false hyw
           have HYN : Hid (∀ z, 0 < k + 1 -> l[k + 1 - 1]? = some z -> z ≠ sw) := fun z _ hz => by
            rw [Nat.add_sub_cancel, HYK.out] at hz
            injection hz with hz
            subst hz; exact hyw
           clear hyw
           go_wp2_with fail
           go_meet
           exact ⟨true, rfl, (fun _ => ⟨by first | rfl | trivial, HYN.out⟩), (fun h => nomatch h), rfl⟩
        case rest =>
         obtain ⟨bb, rfl, HNE, HIN, hwc⟩ := hcut; have hwc := hwc.symm; subst hwc
         rcases bb with _ | _
         ·skip
          have HME2 : Hid (∀ s, s ∈ l ↔ s ∈ selN (wordsOf C j) bl (i + 1)) := fun s => by rw [mem_selN HBI.out HW.out s, <- HME.out s]; constructor; exact .inl; rintro (h | ⟨h1, h2⟩); exact h; rcases HIN.out rfl with h | h; rw [h] at h1; cases h1; rw [h2]; exact h
          go_wp2
          go_roundg (C.toks.length + 1 - (i + 1))
          case measure => omega
          case rel => exact ⟨i + 1, m, l, A, c, rfl, by omega, by go_num, rfl, by omega, HML, HRW7, HSR, HME2, hb77, by omega⟩
         ·skip
          have HPV : Hid (∀ y, 0 < k -> l[k - 1]? = some y -> ltC (cn (nearW C j bl)) sw y = false /\ y ≠ sw) := fun y h1 h2 => ⟨HPL.out y h1 h2, (HNE.out rfl).2 y h1 h2⟩; obtain rfl : bi = true := (HNE.out rfl).1; clear HNE HIN HPL; obtain ⟨i1, hi1, hy0, hy1, hy2⟩ := info_parts col_info9; obtain ⟨A1, hs1, hd1⟩ := sliced_to Tryz.underlying35 sizeOfC (A) m c (k) (by omega); obtain ⟨A2, hs2, hd2⟩ := sliced_from Tryz.underlying35 sizeOfC (A) m c (k) (by omega) hcc9.1
          skip
          have HR := Z' (Rd.of_own HRW7.out); have HLL : Hid ((flat5 cc l).length = m * 5) := by show _ = _; rw [flat5_len H5.out, HML.out]
          go_upto_region 33 with (fail)
          obtain ⟨B9', hB9⟩ : ∃ B9', B9' = wr.heap.size := ⟨_, rfl⟩; have HB9' := Z' hB9; have hs9 : B9' <= wr.heap.size := Nat.le_of_eq hB9; have HRT : Hid (∀ w9, Below B9' wr.drew w9 -> Rd w9 A1 ((flat5 cc l).take ((k) * 5))) := fun w9 hb => (hd1 w9 _ ((HR.out.keep fun p hp => (Below.cell (w := wr.drew) hb (by show _ < B9'; omega)).trans rfl))).take _; have HRD : Hid (∀ w9, Below B9' wr.drew w9 -> Rd w9 A2 ((flat5 cc l).drop ((k) * 5))) := fun w9 hb => hd2 w9 (flat5 cc l) HLL.out ((HR.out.keep fun p hp => (Below.cell (w := wr.drew) hb (by show _ < B9'; omega)).trans rfl)); have hgxx : gx < B9' := by omega
          clear hd1 hd2 hB9; refine wp_reg_n (fun a b => Below B9' a b) (fun L u w8 => IM B9' 49 5 (k) ((flat5 cc l).take ((k) * 5)) [.string sw, .int .i64 (n1 : Int), .int .i64 (nn : Int), .int .i64 (n2 : Int), .int .i64 (C.toks.length : Int)] (m - (k)) ((flat5 cc l).drop ((k) * 5)) (L 0) (L 4) (L 6) (L 7) (L 11) (u 0) (u 4) (u 6) (u 7) (u 11) w8 /\ FL L /\ (L 12 = false -> u 12 = .slice (A) m c) /\ (L 12 = true -> u 12 = u 11)) ((fun a => Below.refl _ a)) ((fun _ _ _ h h' => h.trans h')) [some 184, some 185, some 186, some 187, some 188, some 189, some 190, some 191, some 192, some 193, some 194, some 195, some 19] [(fun _ _ => True), isV ?v4_1, isV ?v4_2, isV (.slice A1 (k) c), (fun _ _ => True), isV ?v4_5, (fun _ _ => True), (fun _ _ => True), isV ?v4_8, isV ?v4_9, isV (.slice A2 (m - (k)) (c - (k))), (fun _ _ => True), (fun _ _ => True)] rfl (by kernel_rfl) rfl rfl ?n4 ?k4 ⟨?s4_0, ?s4_1, ?s4_2, ?s4_3, ?s4_4, ?s4_5, ?s4_6, ?s4_7, ?s4_8, ?s4_9, ?s4_10, ?s4_11, ?s4_12, trivial⟩ ?p4
          case s4_0 =>
           intro l u t w T L D V O N M K k; clear V O; have m9 := Z' (M.1.i0 L); have F9 := Z' (M.2.1.step 0 (fun e => absurd e (by decide)) (fun e => absurd e (by decide)) (fun e => absurd e (by decide)) (fun e => absurd e (by decide)) (fun e => absurd e (by decide)) (fun e => absurd e (by decide))); have hb9 : Below B9' w (w.alloc (.cells #[] 49)) := ((Below.refl _ w).alloc (Nat.le_refl _) _).mono M.1.hs; have M2 := Z' M.2.2; clear M L D N; go_simp; exact k _ _ hb9 trivial ⟨m9.out, F9.out, M2.out⟩
          case s4_1 =>
           intro l u t w T L D V O N M K k; clear V O; have o5 := N 12 19 rfl (of_decide_eq_true (by kernel_rfl)); rw [M.2.2.1 (M.2.1.l12_1 L)] at o5; have F9 := Z' (M.2.1.step 1 (fun e => absurd e (by decide)) (fun e => absurd e (by decide)) (fun e => absurd e (by decide)) (fun e => absurd e (by decide)) (fun e => absurd e (by decide)) (fun e => absurd e (by decide))); have m9 := Z' M.1; have M2 := Z' M.2.2; clear M L D N; go_simp; refine k _ _ (Below.refl _ w) ?_ ⟨m9.out, F9.out, M2.out⟩; exact rfl
          case s4_2 =>
           intro L9 u9 t9 w9 hT9 hL9 hD9 hV9 hO9 hN9 hM9 K9 hK9; have o9_24 := hO9.l 24; clear hV9 hO9; have F9 := Z' (hM9.2.1.step 2 (fun e => absurd e (by decide)) (fun e => absurd e (by decide)) (fun e => absurd e (by decide)) (fun e => absurd e (by decide)) (fun e => absurd e (by decide)) (fun e => absurd e (by decide))); have m9 := Z' hM9.1; have M2 := Z' hM9.2.2; clear hM9 hL9 hD9 hN9; go_simp; refine hK9 _ _ (Below.refl _ w9) ?_ ⟨m9.out, F9.out, M2.out⟩; exact rfl
          case s4_3 =>
           intro L9 u9 t9 w9 hT9 hL9 hD9 hV9 hO9 hN9 hM9 K9 hK9; have p9_1 : t9[185]? = some ?v4_1 := hV9.l 1 185; have p9_2 : t9[186]? = some ?v4_2 := hV9.l 2 186; clear hV9 hO9; have F9 := Z' (hM9.2.1.step 3 (fun _ => hD9 1 rfl) (fun e => absurd e (by decide)) (fun e => absurd e (by decide)) (fun e => absurd e (by decide)) (fun e => absurd e (by decide)) (fun e => absurd e (by decide))); have m9 := Z' hM9.1; have M2 := Z' hM9.2.2; clear hM9 hL9 hD9 hN9; go_simp; refine hK9 _ _ (Below.refl _ w9) ?_ ⟨m9.out, F9.out, M2.out⟩; exact rfl
          case s4_4 =>
           intro L9 u9 t9 w9 hT9 hL9 hD9 hV9 hO9 hN9 hM9 K9 hK9; obtain ⟨x9_0, p9_0, q9_0⟩ := hV9.g 0 184 rfl rfl (by kernel_rfl); obtain ⟨q9_0, e9_0⟩ := q9_0; replace q9_0 : ((fun _ _ => True)) x9_0 w9 := q9_0; have p9_3 : t9[187]? = some ((.slice A1 (k) c)) := hV9.l 3 187; clear hV9 hO9; have r9 := hM9.1.r0 (hD9 0 rfl) hL9; obtain ⟨v9, w9', hr9, ho9, hg9, hat9⟩ := run_append_src (P := Tryz.prog) w9 B9' 35 35 49 i1 _ 5 48 Tryz.underlying35 hi1 hy0 hy1 hy2 rfl (by decide) _ _ _ r9 A1 (k) c ((flat5 cc l).take ((k) * 5)) (by rw [List.length_take, HLL.out]; omega) (HRT.out _ hT9) (fun u hu => flat5_one9 H1.out u (List.mem_of_mem_take hu)) (by unfold maxLen; omega) (by omega) hM9.1.hs; rw [Nat.zero_add, List.nil_append] at ho9; have g9 := below_grown9 hg9 (own_lt r9) hM9.1.hs; have M9 := Z' (hM9.1.i4 (hD9 0 rfl) hL9 ho9 hg9 hat9); have F9 := Z' (hM9.2.1.step 4 (fun e => absurd e (by decide)) (fun _ => hD9 3 rfl) (fun e => absurd e (by decide)) (fun e => absurd e (by decide)) (fun e => absurd e (by decide)) (fun e => absurd e (by decide)))
           have Q9 := Z' hM9.2.2.1; have q9 := Z' hM9.2.2.2; subst e9_0; clear hM9 r9 ho9 hg9 hat9 hL9 hD9 hN9; rw [if_pos (wanted_of9 rfl)]; exact wp_append_eq (.tmp 184) (.tmp 187) 35 rfl _ _ v9 (ev_tmp9 p9_0) (ev_tmp9 p9_3) hr9 (hK9 _ _ g9 trivial ⟨M9.out, F9.out, Q9.out, q9.out⟩)
          case s4_5 =>
           intro L9 u9 t9 w9 hT9 hL9 hD9 hV9 hO9 hN9 hM9 K9 hK9; have o9_23 := hO9.l 23; clear hV9 hO9; obtain ⟨d9_0, d9_1, d9_2, d9_3, d9_4⟩ := (Own.below (w := wr.drew) o_x7 hT9 (by omega)).cells5; have F9 := Z' (hM9.2.1.step 5 (fun e => absurd e (by decide)) (fun e => absurd e (by decide)) (fun e => absurd e (by decide)) (fun e => absurd e (by decide)) (fun e => absurd e (by decide)) (fun e => absurd e (by decide))); have m9 := Z' hM9.1; have M2 := Z' hM9.2.2; clear hM9 hL9 hD9 hN9; go_simp; refine hK9 _ _ (Below.refl _ w9) ?_ ⟨m9.out, F9.out, M2.out⟩; exact rfl
          case s4_6 =>
           intro L9 u9 t9 w9 hT9 hL9 hD9 hV9 hO9 hN9 hM9 K9 hK9; have p9_5 : t9[189]? = some ?v4_5 := hV9.l 5 189; clear hV9 hO9; have m9 := Z' (hM9.1.i6 hL9); have F9 := Z' (hM9.2.1.step 6 (fun e => absurd e (by decide)) (fun e => absurd e (by decide)) (fun e => absurd e (by decide)) (fun e => absurd e (by decide)) (fun e => absurd e (by decide)) (fun e => absurd e (by decide))); have hb9 : Below B9' w9 (w9.alloc (.cells #[.string sw, .int .i64 (n1 : Int), .int .i64 (nn : Int), .int .i64 (n2 : Int), .int .i64 (C.toks.length : Int)] 49)) := ((Below.refl _ w9).alloc (Nat.le_refl _) _).mono hM9.1.hs; have M2 := Z' hM9.2.2; clear hM9 hL9 hD9 hN9; go_simp; exact hK9 _ _ hb9 trivial ⟨m9.out, F9.out, M2.out⟩
          case s4_7 =>
           intro L9 u9 t9 w9 hT9 hL9 hD9 hV9 hO9 hN9 hM9 K9 hK9; obtain ⟨x9_4, p9_4, q9_4⟩ := hV9.g 4 188 rfl rfl (by kernel_rfl); obtain ⟨q9_4, e9_4⟩ := q9_4; replace q9_4 : ((fun _ _ => True)) x9_4 w9 := q9_4; obtain ⟨x9_6, p9_6, q9_6⟩ := hV9.g 6 190 rfl rfl (by kernel_rfl); obtain ⟨q9_6, e9_6⟩ := q9_6; replace q9_6 : ((fun _ _ => True)) x9_6 w9 := q9_6; clear hV9 hO9; obtain ⟨g9', eg9, og9, -, -⟩ := hM9.1.r6 (hD9 6 rfl) hL9; have p6' : t9[190]? = some (.slice (some ⟨g9', 0, none⟩) 1 1) := by rw [p9_6, e9_6, eg9]
           have r9 := hM9.1.r4 (hD9 4 rfl) hL9; obtain ⟨v9, w9', hr9, ho9, hg9, hat9⟩ := run_append_src (P := Tryz.prog) w9 B9' 35 35 49 i1 _ 5 48 Tryz.underlying35 hi1 hy0 hy1 hy2 rfl (by decide) _ _ _ r9 (some ⟨g9', 0, none⟩) 1 1 ([.string sw, .int .i64 (n1 : Int), .int .i64 (nn : Int), .int .i64 (n2 : Int), .int .i64 (C.toks.length : Int)]) rfl og9.rd0 (by intro u hu; simp at hu; rcases hu with rfl | rfl | rfl | rfl | rfl <;> rfl) (by unfold maxLen; omega) (by omega) hM9.1.hs; have g9 := below_grown9 hg9 (own_lt r9) hM9.1.hs; have M9 := Z' (hM9.1.i7 (hD9 4 rfl) (hD9 6 rfl) hL9 ho9 hg9); have F9 := Z' (hM9.2.1.step 7 (fun e => absurd e (by decide)) (fun e => absurd e (by decide)) (fun _ => hD9 4 rfl) (fun e => absurd e (by decide)) (fun e => absurd e (by decide)) (fun e => absurd e (by decide))); have Q9 := Z' hM9.2.2.1; have q9 := Z' hM9.2.2.2; subst e9_4; clear hM9 r9 ho9 hg9 hat9 hL9 hD9 hN9
           rw [if_pos (wanted_of9 rfl)]; exact wp_append_eq (.tmp 188) (.tmp 190) 35 rfl _ _ v9 (ev_tmp9 p9_4) (ev_tmp9 p6') hr9 (hK9 _ _ g9 trivial ⟨M9.out, F9.out, Q9.out, q9.out⟩)
          case s4_8 =>
           intro l u t w T L D V O N M K k; clear V O; have o5 := N 12 19 rfl (of_decide_eq_true (by kernel_rfl)); rw [M.2.2.1 (M.2.1.l12_8 L)] at o5; have F9 := Z' (M.2.1.step 8 (fun e => absurd e (by decide)) (fun e => absurd e (by decide)) (fun e => absurd e (by decide)) (fun e => absurd e (by decide)) (fun e => absurd e (by decide)) (fun e => absurd e (by decide))); have m9 := Z' M.1; have M2 := Z' M.2.2; clear M L D N; go_simp; refine k _ _ (Below.refl _ w) ?_ ⟨m9.out, F9.out, M2.out⟩; exact rfl
          case s4_9 =>
           intro L9 u9 t9 w9 hT9 hL9 hD9 hV9 hO9 hN9 hM9 K9 hK9; have o9_24 := hO9.l 24; clear hV9 hO9; have F9 := Z' (hM9.2.1.step 9 (fun e => absurd e (by decide)) (fun e => absurd e (by decide)) (fun e => absurd e (by decide)) (fun e => absurd e (by decide)) (fun e => absurd e (by decide)) (fun e => absurd e (by decide))); have m9 := Z' hM9.1; have M2 := Z' hM9.2.2; clear hM9 hL9 hD9 hN9; go_simp; refine hK9 _ _ (Below.refl _ w9) ?_ ⟨m9.out, F9.out, M2.out⟩; exact rfl
          case s4_10 =>
           intro L9 u9 t9 w9 hT9 hL9 hD9 hV9 hO9 hN9 hM9 K9 hK9; have p9_8 : t9[192]? = some ?v4_8 := hV9.l 8 192; have p9_9 : t9[193]? = some ?v4_9 := hV9.l 9 193; clear hV9 hO9; have F9 := Z' (hM9.2.1.step 10 (fun e => absurd e (by decide)) (fun e => absurd e (by decide)) (fun e => absurd e (by decide)) (fun e => absurd e (by decide)) (fun e => absurd e (by decide)) (fun _ => hD9 8 rfl)); have m9 := Z' hM9.1; have M2 := Z' hM9.2.2; clear hM9 hL9 hD9 hN9; go_simp; refine hK9 _ _ (Below.refl _ w9) ?_ ⟨m9.out, F9.out, M2.out⟩; exact rfl
          case s4_11 =>
           intro L9 u9 t9 w9 hT9 hL9 hD9 hV9 hO9 hN9 hM9 K9 hK9; obtain ⟨x9_7, p9_7, q9_7⟩ := hV9.g 7 191 rfl rfl (by kernel_rfl); obtain ⟨q9_7, e9_7⟩ := q9_7; replace q9_7 : ((fun _ _ => True)) x9_7 w9 := q9_7; have p9_10 : t9[194]? = some ((.slice A2 (m - (k)) (c - (k)))) := hV9.l 10 194; clear hV9 hO9; have r9 := hM9.1.r7 (hD9 7 rfl) hL9; obtain ⟨v9, w9', hr9, ho9, hg9, hat9⟩ := run_append_src (P := Tryz.prog) w9 B9' 35 35 49 i1 _ 5 48 Tryz.underlying35 hi1 hy0 hy1 hy2 rfl (by decide) _ _ _ r9 A2 (m - (k)) (c - (k)) ((flat5 cc l).drop ((k) * 5)) (by rw [List.length_drop, HLL.out, <- Nat.sub_mul]) (HRD.out _ hT9) (fun u hu => flat5_one9 H1.out u (List.mem_of_mem_drop hu)) (by unfold maxLen; omega) (by omega) hM9.1.hs; have g9 := below_grown9 hg9 (own_lt r9) hM9.1.hs; have h12 : L9 12 = false := bool_f hM9.2.1.fcb hL9; have M9 := Z' (hM9.1.i11 (hD9 7 rfl) ho9 hg9); have F9 := Z' (hM9.2.1.step 11 (fun e => absurd e (by decide)) (fun e => absurd e (by decide)) (fun e => absurd e (by decide)) (fun _ => ⟨hD9 7 rfl, hD9 10 rfl⟩) (fun e => absurd e (by decide)) (fun e => absurd e (by decide)))
           have Q9 := Z' hM9.2.2.1; have q9 := Z' h12; subst e9_7; clear hM9 r9 ho9 hg9 hat9 hL9 hD9 hN9 h12; rw [if_pos (wanted_of9 rfl)]; exact wp_append_eq (.tmp 191) (.tmp 194) 35 rfl _ _ v9 (ev_tmp9 p9_7) (ev_tmp9 p9_10) hr9 (hK9 _ _ g9 trivial ⟨M9.out, F9.out, Q9.out, (fun h => by have h12 := q9.out; exact absurd (h12.symm.trans h) (by decide))⟩)
          case s4_12 =>
           intro l u t w T L D V O N M K k; obtain ⟨x11, p11, q11⟩ := V 11 195 rfl rfl (of_decide_eq_true (by kernel_rfl)); obtain ⟨q11, e11⟩ := q11; replace q11 : ((fun _ _ => True)) x11 w := q11; clear V O; have F9 := Z' (M.2.1.step 12 (fun e => absurd e (by decide)) (fun e => absurd e (by decide)) (fun e => absurd e (by decide)) (fun e => absurd e (by decide)) (fun _ => D 11 rfl) (fun e => absurd e (by decide))); have m9 := Z' M.1; have E9 := Z' e11; clear M L D N e11; go_simp; exact k _ _ (Below.refl _ w) trivial ⟨m9.out, F9.out, (fun h => nomatch h), fun _ => E9.out⟩
          case n4 =>
           intro L9 u9 h9 n9; have h1 := h9 0 (by decide); have h2 := h9 4 (by decide); have h3 := h9 6 (by decide); have h4 := h9 7 (by decide); have h5 := h9 11 (by decide); have h6 := h9 12 (by decide); have hF := FL.zero h9; have n5 : u9 12 = .slice (A) m c := Option.some.inj (n9 12 19 rfl (of_decide_eq_true (by kernel_rfl))).symm
           show IM B9' 49 5 (k) ((flat5 cc l).take ((k) * 5)) [.string sw, .int .i64 (n1 : Int), .int .i64 (nn : Int), .int .i64 (n2 : Int), .int .i64 (C.toks.length : Int)] (m - (k)) ((flat5 cc l).drop ((k) * 5)) (L9 0) (L9 4) (L9 6) (L9 7) (L9 11) _ _ _ _ _ _ /\ _
           rw [h1, h2, h3, h4, h5]; exact ⟨IM.start (w := World.drew wr) hs9 _ _ _ _ _, hF, fun _ => n5, fun h => by rw [h6] at h; cases h⟩
          case k4 =>
           intro i9 v9 w9 x9 h9 g9
           match i9, h9 with
           | 0, h9 => (replace h9 : (fun _ _ => True) v9 w9 := h9); exact trivial
           | 1, h9 => exact h9
           | 2, h9 => exact h9
           | 3, h9 => exact h9
           | 4, h9 => (replace h9 : (fun _ _ => True) v9 w9 := h9); exact trivial
           | 5, h9 => exact h9
           | 6, h9 => (replace h9 : (fun _ _ => True) v9 w9 := h9); exact trivial
           | 7, h9 => (replace h9 : (fun _ _ => True) v9 w9 := h9); exact trivial
           | 8, h9 => exact h9
           | 9, h9 => exact h9
           | 10, h9 => exact h9
           | 11, h9 => (replace h9 : (fun _ _ => True) v9 w9 := h9); exact trivial
           | 12, h9 => (replace h9 : (fun _ _ => True) v9 w9 := h9); exact trivial
           | _ + 13, h9 => exact trivial
          intro u9 w9 hE9 hM9 hu9; have r9_0 : (fun _ _ => True) (u9 0) w9 := hu9 0 (by decide); have r9_1 : u9 1 = ?v4_1 := hu9 1 (by decide); have r9_2 : u9 2 = ?v4_2 := hu9 2 (by decide); have r9_3 : u9 3 = (.slice A1 (k) c) := hu9 3 (by decide); have r9_4 : (fun _ _ => True) (u9 4) w9 := hu9 4 (by decide); have r9_5 : u9 5 = ?v4_5 := hu9 5 (by decide); have r9_6 : (fun _ _ => True) (u9 6) w9 := hu9 6 (by decide); have r9_7 : (fun _ _ => True) (u9 7) w9 := hu9 7 (by decide); have r9_8 : u9 8 = ?v4_8 := hu9 8 (by decide); have r9_9 : u9 9 = ?v4_9 := hu9 9 (by decide); have r9_10 : u9 10 = (.slice A2 (m - (k)) (c - (k))) := hu9 10 (by decide); have r9_11 : (fun _ _ => True) (u9 11) w9 := hu9 11 (by decide); have r9_12 : (fun _ _ => True) (u9 12) w9 := hu9 12 (by decide); clear hu9
          simp only [putAll, Act.put, List.setIfInBounds_toArray, List.set_cons_succ, List.set_cons_zero, List.getD_cons_succ, List.getD_cons_zero, Nat.reduceAdd, Nat.zero_add]
          simp only [r9_1, r9_2, r9_3, r9_5, r9_8, r9_9, r9_10]
          clear r9_1 r9_2 r9_3 r9_5 r9_8 r9_9 r9_10; have hrow := hM9.1.r11 rfl; rw [<- hM9.2.2.2 rfl] at hrow; clear hM9 HRT HRD hs1 hs2 r9_0 r9_4 r9_6 r9_7 r9_11 r9_12 hi1 hy0 hy1 hy2; generalize u9 12 = v12 at hrow |-; obtain ⟨l2, hl2⟩ : ∃ x, x = l.take (k) ++ [sw] ++ l.drop (k) := ⟨_, rfl⟩; have HL2 := Z' hl2; have HML2 : Hid (m + 1 = l2.length) := by show _ = _; rw [hl2]; simp [<- HML.out]; omega
          have HRW8 : Hid (w9.ownsRow B5 49 5 v12 (m + 1) (flat5 cc l2)) := by
           have e1 : (k) + 1 + (m - (k)) = m + 1 := by omega
           obtain ⟨e3, e4⟩ := flat5_split (l := l) H5.out (k) (by rw [<- HML.out]; omega); rw [e1, e3, e4, <- HC5.out] at hrow; have e2 : flat5 cc l2 = flat5 cc (l.take (k)) ++ cc sw ++ flat5 cc (l.drop (k)) := by rw [hl2, flat5_app, flat5_app, flat5_one]
           rw [e2]; exact ownsRow_base hrow (by have := HB9'.out; omega)
          clear hrow hl2; obtain ⟨A3, c3, rfl, -, -⟩ := own_form HRW8.out; have hbx : Below B9' wr w9 := (Below.refl B9' wr).drew.trans hE9; have hb8 : Below B5 w2 w9 := hb77.trans (hbx.mono (by have := HB9'.out; omega)); have hw8 : B5 <= w9.heap.size := by have := hbx.size; omega
          have HSI := Z' (HSR.out.insert9 (ltC_tot _) (s := sw) (k := k) (by rw [<- HML.out]; omega) HDR.out HPV.out); have HSR2 : Hid (Srt (ltC (cn (nearW C j bl))) l2) := by rw [HL2.out]; exact HSI.out.1
          have HME2 : Hid (∀ s, s ∈ l2 ↔ s ∈ selN (wordsOf C j) bl (i + 1)) := fun s => by rw [HL2.out, HSI.out.2 s, mem_selN HBI.out HW.out s, <- HME.out s]; simp
          clear hE9 hbx
          go_wp2
          go_roundg (C.toks.length + 1 - (i + 1))
          case measure => omega
          case rel => exact ⟨i + 1, m + 1, l2, A3, c3, rfl, by omega, by go_num, rfl, by omega, HML2, HRW8, HSR2, HME2, hb8, hw8⟩
      ·skip
       have ei : i = C.toks.length := by omega
       subst ei; have hbz : Below B w wr := (hbB.trans (hb5.mono (by omega))); have HRES : Hid (ResC C L (W : Int) (j : Int) w.heap.size wr (.returned (.tuple #[.slice A m c, .int .i64 0]))) := by
        refine .ok HC.out HO.out _ l ?_ ?_ ?_
        ·rw [<- HBL.out]; refine ⟨l.map cc, ?_, ?_⟩
         ·have := flat5_els (l := l) H5.out; rw [HCC.out] at this |-; exact this
         ·have := SO.of_own (S := fun k => k < w.heap.size) HRW.out (fun k hk e => by have := HB5.out; have := HB.out; omega); rw [HML.out] at this |-; exact this
        ·rw [<- HBL.out]; exact HSR.out
        ·intro s; rw [<- HBL.out]; exact HME.out s
       go_wp2
       exact bodyPost_ret (v := .tuple #[.slice A m c, .int .i64 0]) (by simp [results, Tryz.results16, go_sem]) rfl ⟨HRES.out, HB.out ▸ hbz⟩
end Go.Proofs.YtjimfbmegmnocaaGreatDoor
