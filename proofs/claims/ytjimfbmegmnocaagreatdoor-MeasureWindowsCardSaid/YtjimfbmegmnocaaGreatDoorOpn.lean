/- Parts of the proof: Wq, Opn. No condition of its own. -/
import Derived.Test.YtjimfbmegmnocaaGreatDoorOq
import Derived.Test.YtjimfbmegmnocaaGreatDoorWo
import Derived.Test.YtjimfbmegmnocaaGreatDoorMv
import Derived.Test.YtjimfbmegmnocaaGreatDoorRows
import Derived.Test.YtjimfbmegmnocaaGreatDoorChecked
import Derived.ProofKit
import Derived.OpenShut
import Derived.ChangeOld
import Derived.Deep.Slices
import Derived.Deep.Fields
import Derived.Lib.SmallJoins
set_option linter.unusedSimpArgs false
set_option linter.unusedVariables false
set_option maxRecDepth 100000
set_option maxHeartbeats 16000000
namespace Go.Proofs.YtjimfbmegmnocaaGreatDoor
open Go.RowKit Dg

theorem windows_law (A : Option Addr) (l : List Int) (c : Nat) (X : Int) (w : World) (hA : Ints w A l) (hl : l.length <= c) (hc : c <= maxLen) (hwf : ∀ x ∈ l, -9223372036854775808 <= x /\ x <= 9223372036854775807) (hX1 : -9223372036854775808 <= X) (hX2 : X <= 9223372036854775807) (ht : Tab w) :
  Calls Tryz.prog 5 #[.slice A l.length c, .int .i64 X] w fun e w' => e = .returned (.bool true) /\ Below w.heap.size w w' := by
 have T0 := Lib.hid ht; obtain ⟨k4, hk4, hm4⟩ := mod_lit9 X 4 4 rfl hX1 hX2 (by decide) (by decide); have HM4 := Lib.hid hm4; clear ht hm4 hX1 hX2
 go_enter Tryz.func5, Tryz.ntmps5
 go_wp2_with fail
 refine (new_any A l c w hA hl hc hwf).mono ?_; rintro e w1 ⟨rfl, ⟨l', hT⟩, hb1⟩; have tp := TP.start hT; obtain ⟨p, hp⟩ : ∃ p, p = w.heap.size := ⟨_, rfl⟩; rw [<- hp] at tp |-; have HP := Lib.hid hp; have hpl := tp.lt; have hbw : Below p w w1 := hp ▸ hb1; clear hT hb1 hA hl hc hwf hp
 go_wp2_with fail
 refine (corpus_lit9 w1 tp _ 7 rfl (by decide) (by decide)).mono ?_; rintro e w2 ⟨⟨v, C, rfl, ⟨a, t, x, r, n, h, s, rfl, q⟩, hM⟩, tp2, hc2⟩; obtain ⟨Aa, ca, rfl, -, -, -⟩ := EO.form q.a; obtain ⟨At, ct, rfl, -, -, -⟩ := EO.form q.t; obtain ⟨Ax, cx, rfl, -, -, -⟩ := EO.form q.x; obtain ⟨Ar, cr, rfl, -, -, -⟩ := EO.form q.r; obtain ⟨An, cn9, rfl, -, -, -⟩ := EO.form q.n; obtain ⟨Ah, ch, rfl, -, -, -⟩ := EO.form q.h; obtain ⟨As, cs, rfl, -, -, -⟩ := EO.form q.s; have hw2 := hc2.size; have hbw2 : Below p w w2 := hbw.trans (hc2.below (fun k hk e => by omega) (by omega)); have HM := Lib.hid hM; obtain ⟨o_b, hb3⟩ := new1 w2 [.slice Aa C.attrs.length ca, .slice At C.toks.length ct, .slice Ax C.texts.length cx, .slice Ar C.regs.length cr, .slice An C.nodes.length cn9, .slice Ah C.heads.length ch, .slice As C.rels.length cs] 30; have hs3 : (w2.alloc (.cells #[.slice Aa C.attrs.length ca, .slice At C.toks.length ct, .slice Ax C.texts.length cx, .slice Ar C.regs.length cr, .slice An C.nodes.length cn9, .slice Ah C.heads.length ch, .slice As C.rels.length cs] 30)).heap.size = w2.heap.size + 1 := by simp
 have tp3 := tp2.below hb3; have HQ3 := Lib.hid ((q.below hb3).weak (T := fun k => k = p) fun k e => by omega); clear tp tp2 hc2 q hM hbw
 go_upto_region 3 with (fail)
 generalize (w2.alloc (.cells #[.slice Aa C.attrs.length ca, .slice At C.toks.length ct, .slice Ax C.texts.length cx, .slice Ar C.regs.length cr, .slice An C.nodes.length cn9, .slice Ah C.heads.length ch, .slice As C.rels.length cs] 30)) = w3 at o_b hb3 hs3 tp3 HQ3 |-; generalize hg : w2.heap.size = gb at o_b hs3 hw2 |-; have hbw3 : Below p w w3 := hbw2.trans (hb3.mono (by omega)); have hgp : ¬ gb = p := by omega
 clear hb3 hbw2 hg; obtain ⟨b0, b1, b2, b3, b4, b5, b6⟩ := o_b.cells7
 go_wp2_with fail
 clear b0 b1 b2 b3 b4 b5 b6; refine (spans_lit9 w3 tp3 HQ3.out HM.out (by decide) _ 3 rfl (by decide)).mono ?_; rintro e w4 ⟨⟨vs, L, rfl, hL, hlen, hin⟩, -, hc4⟩; have hw4 := hc4.size; have hbw4 : Below p w w4 := hbw3.trans (hc4.below (fun k hk e => by omega) (by omega)); have o_b4 := hc4.own o_b hgp; have HQ4 := Lib.hid ((HQ3.out.chg hc4).weak (T := fun _ => False) fun _ h => h.elim); have HL4 : Hid (SpansO (fun _ => False) w4 vs L) := EO.weak' hL fun _ h => h.elim; have HF := Lib.hid (HM.out.fit (by decide)); have HIN : Hid (∀ q ∈ L, txtOf C q ≠ none) := fun q hq => spanIn_txt HF.out.texts (hin q hq); have HAT : Hid (C.attrs.length = 3) := by show _ = _; rw [HM.out.attrs]; rfl
 have hfew := HF.out.few; have HPO := Lib.hid HM.out.pos; clear tp3 HQ3 HM o_b hbw3 hc4 hL hlen hin
 go_wp2_with fail
 refine (HM4.out _).mono ?_; rintro e w' ⟨rfl, rfl⟩
 go_upto_region 5 with (fail)
 obtain ⟨b0, b1, b2, b3, b4, b5, b6⟩ := o_b4.cells7; obtain ⟨W, hWe⟩ : ∃ W : Int, W = 1 + (k4 : Int) := ⟨_, rfl⟩; have HWE := Lib.hid hWe; have HC1 : Hid (¬ ((0 : Int) < 0 \/ (C.attrs.length : Int) <= 0 \/ W < 1 \/ 50 < W)) := by show ¬ _; have := HAT.out; omega
 have HC2 : Hid (¬ ((0 : Int) < 0 \/ (C.attrs.length : Int) <= 0 \/ W + 1 < 1 \/ 50 < W + 1)) := by show ¬ _; have := HAT.out; omega
 have zW : IntKind.i64.wrap (W + 1) = W + 1 := IntWalk.i64_in _ (by omega); rw [<- hWe]; clear hWe
 go_wp2_with fail
 clear b0 b1 b2 b3 b4 b5 b6; refine (collocates_any w4 HQ4.out HF.out HL4.out W 0 (by decide)).mono ?_; rintro e w5 ⟨hres, hb5⟩; obtain ⟨v1, lx, rfl, h1, hs1, hm1⟩ := hres.ok9 HC1.out HIN.out; have hbw5 : Below p w w5 := hbw4.trans (hb5.mono (by omega)); have o_b5 := o_b4.below hb5 o_b4.lt; have HQ5 := Lib.hid (HQ4.out.below hb5); have HL5 : Hid (SpansO (fun _ => False) w5 vs L) := EO.below HL4.out hb5; have hw5 := hb5.size; have HX := Lib.hid h1; have HXS := Lib.hid hs1; have HXM := Lib.hid hm1; clear hres HQ4 HL4 o_b4 hb5 hbw4 h1 hs1 hm1; obtain ⟨b0, b1, b2, b3, b4, b5, b6⟩ := o_b5.cells7
 go_wp2_with fail
 clear b0 b1 b2 b3 b4 b5 b6; refine (collocates_any w5 HQ5.out HF.out HL5.out (W + 1) 0 (by decide)).mono ?_; rintro e w6 ⟨hres, hb6⟩; obtain ⟨v2, ly, rfl, h2, hs2, hm2⟩ := hres.ok9 HC2.out HIN.out; have hbw6 : Below p w w6 := hbw5.trans (hb6.mono (by omega)); have hw6 := hb6.size; have HY := Lib.hid h2; have HYM := Lib.hid hm2; have HX6 := Lib.hid (EO.below HX.out hb6); clear hres HQ5 HL5 o_b5 hb6 hbw5 h2 hs2 hm2 HX zW; obtain ⟨A1, c1, rfl, u1, u2, h1⟩ := EO.form HX6.out; obtain ⟨A2, c2, rfl, u3, u4, h2⟩ := EO.form HY.out; unfold maxLen at u2 u4; have HX1 := Lib.hid h1; have HY1 := Lib.hid h2; clear h1 h2 HX6 HY
 go_wp2_with fail
 obtain ⟨cx, hcx⟩ : ∃ f, f = fun s => colC C (0 : Int).toNat (nearL C W L) s := ⟨_, rfl⟩; obtain ⟨cy, hcy⟩ : ∃ f, f = fun s => colC C (0 : Int).toNat (nearL C (W + 1) L) s := ⟨_, rfl⟩; obtain ⟨bl, hbl⟩ : ∃ b, b = nearL C W L := ⟨_, rfl⟩; obtain ⟨bm, hbm⟩ : ∃ b, b = nearL C (W + 1) L := ⟨_, rfl⟩; obtain ⟨SW, hSW⟩ : ∃ x, x = nearW C 0 bl := ⟨_, rfl⟩; obtain ⟨SM, hSM⟩ : ∃ x, x = nearW C 0 bm := ⟨_, rfl⟩; obtain ⟨WS, hWS⟩ : ∃ x, x = wordsOf C 0 := ⟨_, rfl⟩; have hwl : WS.length = C.toks.length := by rw [hWS, wordsOf_length]
 have hbll : bl.length = C.toks.length := by rw [hbl, nearL_len]
 have HSL : Hid (SW.length = bl.count true) := by show _ = _; rw [hSW, nearW, selN_len _ _ _ (by rw [hbll]; exact Nat.le_refl _), List.take_of_length_le (by rw [hbll]; exact Nat.le_refl _)]
 have hcl : bl.count true <= C.toks.length := by rw [<- hbll]; exact List.count_le_length
 have HVC : Hid (∀ s ∈ SW, VC (cn SW s) (bl.count true) (cn WS s) C.toks.length) := by
  intro s hs; have h9 := sel_cells WS bl s C.toks.length (by rw [hbll]; exact Nat.le_refl _) (by rw [hwl]; exact Nat.le_refl _); rw [show selN WS bl C.toks.length = SW from by rw [hSW, hWS]; rfl, List.take_of_length_le (by rw [hbll]; exact Nat.le_refl _), List.take_of_length_le (by rw [hwl]; exact Nat.le_refl _)] at h9; have hp := HPO.out; refine ⟨by omega, by omega, hcl, ?_, h9.1, h9.2.1, h9.2.2⟩; rw [<- hwl]; exact List.countP_le_length
 have HMO : Hid (∀ s, cn SW s <= cn SM s) := by
  intro s; have h9 := sel_mono (by rw [hbl, hbm]; exact near_grows C W L : Sub9 bl bm) WS s C.toks.length (by rw [hbll]; exact Nat.le_refl _) (by rw [hwl]; exact Nat.le_refl _); rw [hSW, hSM, nearW, nearW, <- hWS]; exact h9
 have HCX : Hid (∀ s, cx s = [.string s, .int .i64 ((cn SW s : Nat) : Int), .int .i64 ((bl.count true : Nat) : Int), .int .i64 ((cn WS s : Nat) : Int), .int .i64 ((C.toks.length : Nat) : Int)]) := by intro s; rw [hcx, <- hbl, hSW, hWS]; rfl
 have HCY : Hid (∀ s, cy s = [.string s, .int .i64 ((cn SM s : Nat) : Int), .int .i64 ((bm.count true : Nat) : Int), .int .i64 ((cn WS s : Nat) : Int), .int .i64 ((C.toks.length : Nat) : Int)]) := by intro s; rw [hcy, <- hbm, hSM, hWS]; rfl
 have HX2 : Hid (EO (fun _ => False) w6 5 (fun s e => e = cx s) (.slice A1 lx.length c1) lx) := by show EO _ _ _ _ _ _; rw [hcx]; exact HX1.out.weak' fun _ h => h.elim
 have HY2 : Hid (EO (fun _ => False) w6 5 (fun s e => e = cy s) (.slice A2 ly.length c2) ly) := by show EO _ _ _ _ _ _; rw [hcy]; exact HY1.out.weak' fun _ h => h.elim
 have HXM2 : Hid (∀ s, s ∈ lx ↔ s ∈ SW) := by rw [hSW, hbl]; exact HXM.out
 have HYM2 : Hid (∀ s, s ∈ ly ↔ s ∈ SM) := by rw [hSM, hbm]; exact HYM.out
 have HND : Hid (lx.Nodup) := by
  show lx.Nodup
  exact (HXS.out : List.Pairwise _ _).imp fun h e => by subst e; rw [(ltC_tot _).irr] at h; cases h
 generalize hnn : bl.count true = nn at HSL hcl HVC HCX; generalize bm.count true = nm at HCY; clear HX1 HY1 HXM HYM HXS hcx hcy hbl hbm hSW hSM hWS hwl hbll hnn HF HIN HAT HPO
 go_loopg [12, 51] (lx.length + 1) (fun q v8 v9 wr => ∃ i : Nat, q = lx.length + 1 - i /\ i <= lx.length /\ v9 = .int .i64 (i : Int) /\ v8 = .int .i64 ((sumC (lx.take i) SW : Nat) : Int) /\ Below w6.heap.size w6 wr)
 case atStart => exact ⟨0, rfl, Nat.zero_le _, rfl, rfl, Below.refl _ _⟩
 case round =>
  obtain ⟨i, rfl, hi, rfl, rfl, hbr⟩ := hrel; have hwr := hbr.size
  by_cases hlt : i < lx.length
  ·skip
   obtain ⟨b, off, e, hA1, -, -, he, k⟩ := EO.get (EO.below HX2.out hbr) (by decide) hlt; obtain ⟨b0, off0, e0, hA10, -, -, he0, kz⟩ := EO.get (EO.below HX2.out hbr) (by decide) (show 0 < lx.length by omega); rw [hA10] at hA1
   injection hA1 with hA1
   injection hA1 with e1 e2
   subst e1 e2; subst hA10; have HML : Hid (lx[i] ∈ lx) := List.getElem_mem hlt; have HST := Lib.hid (sumC_step (W := SW) hlt); have HSB : Hid (sumC (lx.take (i + 1)) SW <= nn) := by show _ <= _; rw [<- HSL.out]; exact sumC_le (HND.out.sublist (List.take_sublist _ _)) SW
   rw [he, HCX.out] at k; rw [he0, HCX.out] at kz; clear he he0; generalize lx[i] = s at k HML HST; have HV := Lib.hid (HVC.out s ((HXM2.out s).1 HML.out)); have k0 : wr.cell? ⟨b0, off0 + i * 5, none⟩ = some (.string s) := k 0 _ rfl; have k1 : wr.cell? ⟨b0, off0 + i * 5 + 1, none⟩ = some (.int .i64 ((cn SW s : Nat) : Int)) := k 1 _ rfl; have k2 : wr.cell? ⟨b0, off0 + i * 5 + 2, none⟩ = some (.int .i64 (nn : Int)) := k 2 _ rfl; have k3 : wr.cell? ⟨b0, off0 + i * 5 + 3, none⟩ = some (.int .i64 ((cn WS s : Nat) : Int)) := k 3 _ rfl; have k4 : wr.cell? ⟨b0, off0 + i * 5 + 4, none⟩ = some (.int .i64 (C.toks.length : Int)) := k 4 _ rfl; have z2 : wr.cell? ⟨b0, off0 + 2, none⟩ = some (.int .i64 (nn : Int)) := by have := kz 2 _ rfl; rw [Nat.zero_mul, Nat.add_zero] at this; exact this
   clear k kz; obtain ⟨o_a, hba⟩ := new1 wr [.string s, .int .i64 ((cn SW s : Nat) : Int), .int .i64 (nn : Int), .int .i64 ((cn WS s : Nat) : Int), .int .i64 (C.toks.length : Int)] 49; have hsa : (wr.alloc (.cells #[.string s, .int .i64 ((cn SW s : Nat) : Int), .int .i64 (nn : Int), .int .i64 ((cn WS s : Nat) : Int), .int .i64 (C.toks.length : Int)] 49)).heap.size = wr.heap.size + 1 := by simp
   go_upto_region 13 with (fail)
   have HZ : Hid (∀ w9, Below wr.heap.size wr w9 -> w9.cell? ⟨b0, off0 + 2, none⟩ = some (.int .i64 (nn : Int))) := fun w9 hb => below_cell hb z2; clear k0 k1 k2 k3 k4 z2; generalize (wr.alloc (.cells #[.string s, .int .i64 ((cn SW s : Nat) : Int), .int .i64 (nn : Int), .int .i64 ((cn WS s : Nat) : Int), .int .i64 (C.toks.length : Int)] 49)) = w7 at o_a hba hsa |-; generalize hg1 : wr.heap.size = g1 at o_a hsa hwr hba HZ |-; have hb7 : Below w6.heap.size w6 w7 := hbr.trans (hba.mono (by omega))
   go_wp2_with fail
   go_loopg [15, 57] (ly.length + 1) (fun q v8 v9 wr => ∃ j : Nat, q = ly.length + 1 - j /\ j <= ly.length /\ v9 = .int .i64 (j : Int) /\ v8 = .bool ((ly.take j).any (fun t => decide (s = t))) /\ Below w7.heap.size w7 wr)
   case atStart => exact ⟨0, rfl, Nat.zero_le _, rfl, rfl, Below.refl _ _⟩
   case round =>
    obtain ⟨j, rfl, hj, rfl, rfl, hbt⟩ := hrel; have hwt := hbt.size; have o_at := o_a.below hbt (by omega); have hb8 : Below w6.heap.size w6 wr := hb7.trans (hbt.mono (by omega))
    by_cases hltj : j < ly.length
    ·skip
     obtain ⟨by_, offy, e, rfl, -, -, he, k⟩ := EO.get (EO.below HY2.out hb8) (by decide) hltj; have HTJ : Hid ((ly.take (j + 1)).any (fun t => decide (s = t)) = ((ly.take j).any (fun t => decide (s = t)) || decide (s = ly[j]))) := by
      show _ = _
      rw [List.take_add_one, List.getElem?_eq_getElem hltj, List.any_append]
      simp
     rw [he, HCY.out] at k; clear he; generalize ly[j] = t at k HTJ; have k0 : wr.cell? ⟨by_, offy + j * 5, none⟩ = some (.string t) := k 0 _ rfl; have k1 : wr.cell? ⟨by_, offy + j * 5 + 1, none⟩ = some (.int .i64 ((cn SM t : Nat) : Int)) := k 1 _ rfl; have k2 : wr.cell? ⟨by_, offy + j * 5 + 2, none⟩ = some (.int .i64 (nm : Int)) := k 2 _ rfl; have k3 : wr.cell? ⟨by_, offy + j * 5 + 3, none⟩ = some (.int .i64 ((cn WS t : Nat) : Int)) := k 3 _ rfl; have k4 : wr.cell? ⟨by_, offy + j * 5 + 4, none⟩ = some (.int .i64 (C.toks.length : Int)) := k 4 _ rfl; clear k; obtain ⟨o_b, hbb⟩ := new1 wr [.string t, .int .i64 ((cn SM t : Nat) : Int), .int .i64 (nm : Int), .int .i64 ((cn WS t : Nat) : Int), .int .i64 (C.toks.length : Int)] 49; have hsb : (wr.alloc (.cells #[.string t, .int .i64 ((cn SM t : Nat) : Int), .int .i64 (nm : Int), .int .i64 ((cn WS t : Nat) : Int), .int .i64 (C.toks.length : Int)] 49)).heap.size = wr.heap.size + 1 := by simp
     go_upto_region 17 with (fail)
     clear k0 k1 k2 k3 k4; generalize (wr.alloc (.cells #[.string t, .int .i64 ((cn SM t : Nat) : Int), .int .i64 (nm : Int), .int .i64 ((cn WS t : Nat) : Int), .int .i64 (C.toks.length : Int)] 49)) = w9 at o_b hbb hsb |-; have hb99 : Below w7.heap.size w7 w9 := hbt.trans (hbb.mono (by omega)); have o_a9 := o_at.below hbb (by omega); generalize hg2 : wr.heap.size = g2 at o_b hsb |-; obtain ⟨f, hf⟩ : ∃ f, f = (ly.take j).any (fun t => decide (s = t)) := ⟨_, rfl⟩; rw [<- hf] at HTJ |-; clear hf o_at hbt hg2 hbb; have a0 := o_a9.c0; have a1 := o_a9.c1; have a3 := o_a9.c3; have b0 := o_b.c0; have b1 := o_b.c1; have b3 := o_b.c3
     cases f with
     | true =>
      go_wp2
      clear a0 a1 a3 b0 b1 b3
      go_roundg (ly.length + 1 - (j + 1))
      case measure => omega
      case rel => exact ⟨j + 1, rfl, by omega, by go_num, by rw [HTJ.out]; rfl, hb99⟩
     | false =>
      by_cases hst : s = t
      ·skip
       subst hst; have d1 : (s.toList == s.toList) = true := by rw [str_beq]; exact decide_eq_true rfl
       have hmo := HMO.out s; have d2 : decide (cn SW s <= cn SM s) = true := decide_eq_true hmo; have d3 : decide (((cn SW s : Nat) : Int) <= ((cn SM s : Nat) : Int)) = true := decide_eq_true (by omega); have d4 : (((cn WS s : Nat) : Int) == ((cn WS s : Nat) : Int)) = true := by simp
       have d5 : ((cn WS s) == (cn WS s)) = true := by simp
       clear hmo
       go_wp2
       clear a0 a1 a3 b0 b1 b3 d1 d2 d3 d4 d5
       go_roundg (ly.length + 1 - (j + 1))
       case measure => omega
       case rel => exact ⟨j + 1, rfl, by omega, by go_num, by rw [HTJ.out]; simp, hb99⟩
      ·skip
       have d1 : (s.toList == t.toList) = false := by rw [str_beq]; exact decide_eq_false hst
       go_wp2
       clear a0 a1 a3 b0 b1 b3 d1
       go_roundg (ly.length + 1 - (j + 1))
       case measure => omega
       case rel => exact ⟨j + 1, rfl, by omega, by go_num, by rw [HTJ.out]; simp [hst], hb99⟩
    ·skip
     have ej : j = ly.length := by omega
     subst ej; have hfo : (ly.take ly.length).any (fun t => decide (s = t)) = true := by
      rw [List.take_length]; refine List.any_eq_true.2 ⟨s, (HYM2.out s).2 ?_, decide_eq_true rfl⟩; have h1 := (HXM2.out s).1 HML.out; have h2 := HMO.out s; have h3 : 0 < cn SW s := List.countP_pos_iff.2 ⟨s, h1, by simp⟩; obtain ⟨x, hx, hxs⟩ := List.countP_pos_iff.1 (show 0 < cn SM s by omega); have : x = s := by simpa using hxs
      exact this ▸ hx
     rw [hfo]; clear hfo; have hz9 := HZ.out wr (hba.trans (hbt.mono (by omega))); clear hb7 hba HZ
     go_upto_region 19 with (fail)
     obtain ⟨w8, hw8⟩ : ∃ x, x = wr := ⟨_, rfl⟩; rw [<- hw8] at o_at hz9 hb8 hwt |-; clear hw8 hbt; have a1 := o_at.c1; have a2 := o_at.c2; have a3 := o_at.c3; have a4 := o_at.c4; have n1 : ((nn : Int) != (nn : Int)) = false := by simp
     have n2 : (nn != nn) = false := by simp
     have hl0 : 0 < lx.length := by omega
     refine wp_reg_abs [some 88, some 89, some 90, some 91, some 92, some 93, some 94, some 95, some 96, some 97, some 98, some 99, some 100, some 101, some 102, some 103, some 104, some 105, some 106] [?v1_0, ?v1_1, ?v1_2, ?v1_3, ?v1_4, ?v1_5, ?v1_6, ?v1_7, ?v1_8, ?v1_9, ?v1_10, ?v1_11, ?v1_12, ?v1_13, ?v1_14, ?v1_15, ?v1_16, ?v1_17, ?v1_18] rfl (by kernel_rfl) rfl rfl ⟨?s1_0, ?s1_1, ?s1_2, ?s1_3, ?s1_4, ?s1_5, ?s1_6, ?s1_7, ?s1_8, ?s1_9, ?s1_10, ?s1_11, ?s1_12, ?s1_13, ?s1_14, ?s1_15, ?s1_16, ?s1_17, ?s1_18, trivial⟩ ?p1
     case s1_0 =>
      intro t w T V O K k; have o15 := O 15 _ (by kernel_rfl) rfl; clear V O; go_simp; exact k _ (Grow.refl _)
     case s1_1 =>
      intro t w T V O K k; have p0 : t[88]? = some ?v1_0 := V.g 0 88 rfl rfl (by kernel_rfl); clear V O; go_simp; exact k _ (Grow.refl _)
     case s1_2 =>
      intro t w T V O K k; have p1 : t[89]? = some ?v1_1 := V.g 1 89 rfl rfl (by kernel_rfl); clear V O; go_simp; exact k _ (Grow.refl _)
     case s1_3 =>
      intro t w T V O K k; have p2 : t[90]? = some ?v1_2 := V.g 2 90 rfl rfl (by kernel_rfl); have o14 := O 14 _ (by kernel_rfl) rfl; clear V O; go_simp; exact k _ (Grow.refl _)
     case s1_4 =>
      intro t w T V O K k; have p2 : t[90]? = some ?v1_2 := V.g 2 90 rfl rfl (by kernel_rfl); have p3 : t[91]? = some ?v1_3 := V.g 3 91 rfl rfl (by kernel_rfl); clear V O; have d0 := grow_cell T a1; have d1 := grow_cell T a2; have d2 := grow_cell T a3; have d3 := grow_cell T a4; have d4 := grow_cell T hz9; go_simp; exact k _ (Grow.refl _)
     case s1_5 =>
      intro t w T V O K k; have p2 : t[90]? = some ?v1_2 := V.g 2 90 rfl rfl (by kernel_rfl); have p4 : t[92]? = some ?v1_4 := V.g 4 92 rfl rfl (by kernel_rfl); clear V O; go_simp
      first | exact k _ (Grow.refl _) | (refine (mvalid_yes HV.out _).mono ?_; rintro _ w8 ⟨rfl, hb8⟩; exact k _ hb8)
     case s1_6 =>
      intro t w T V O K k; have p2 : t[90]? = some ?v1_2 := V.g 2 90 rfl rfl (by kernel_rfl); have p5 : t[93]? = some ?v1_5 := V.g 5 93 rfl rfl (by kernel_rfl); clear V O; go_simp; exact k _ (Grow.refl _)
     case s1_7 =>
      intro t w T V O K k; have p2 : t[90]? = some ?v1_2 := V.g 2 90 rfl rfl (by kernel_rfl); have p6 : t[94]? = some ?v1_6 := V.g 6 94 rfl rfl (by kernel_rfl); clear V O; go_simp; exact k _ (Grow.refl _)
     case s1_8 =>
      intro t w T V O K k; have p7 : t[95]? = some ?v1_7 := V.g 7 95 rfl rfl (by kernel_rfl); clear V O; go_simp; exact k _ (Grow.refl _)
     case s1_9 =>
      intro t w T V O K k; have p8 : t[96]? = some ?v1_8 := V.g 8 96 rfl rfl (by kernel_rfl); have o14 := O 14 _ (by kernel_rfl) rfl; clear V O; go_simp; exact k _ (Grow.refl _)
     case s1_10 =>
      intro t w T V O K k; have p8 : t[96]? = some ?v1_8 := V.g 8 96 rfl rfl (by kernel_rfl); have p9 : t[97]? = some ?v1_9 := V.g 9 97 rfl rfl (by kernel_rfl); clear V O; go_simp; exact k _ (Grow.refl _)
     case s1_11 =>
      intro t w T V O K k; have p8 : t[96]? = some ?v1_8 := V.g 8 96 rfl rfl (by kernel_rfl); have p10 : t[98]? = some ?v1_10 := V.g 10 98 rfl rfl (by kernel_rfl); clear V O; have d0 := grow_cell T a1; have d1 := grow_cell T a2; have d2 := grow_cell T a3; have d3 := grow_cell T a4; have d4 := grow_cell T hz9; go_simp; exact k _ (Grow.refl _)
     case s1_12 =>
      intro t w T V O K k; have p8 : t[96]? = some ?v1_8 := V.g 8 96 rfl rfl (by kernel_rfl); have o8 := O 8 _ (by kernel_rfl) rfl; clear V O; go_simp; exact k _ (Grow.refl _)
     case s1_13 =>
      intro t w T V O K k; have p8 : t[96]? = some ?v1_8 := V.g 8 96 rfl rfl (by kernel_rfl); have p12 : t[100]? = some ?v1_12 := V.g 12 100 rfl rfl (by kernel_rfl); clear V O; go_simp; exact k _ (Grow.refl _)
     case s1_14 =>
      intro t w T V O K k; have p8 : t[96]? = some ?v1_8 := V.g 8 96 rfl rfl (by kernel_rfl); have p13 : t[101]? = some ?v1_13 := V.g 13 101 rfl rfl (by kernel_rfl); clear V O; go_simp; exact k _ (Grow.refl _)
     case s1_15 =>
      intro t w T V O K k; have p8 : t[96]? = some ?v1_8 := V.g 8 96 rfl rfl (by kernel_rfl); have p14 : t[102]? = some ?v1_14 := V.g 14 102 rfl rfl (by kernel_rfl); clear V O; go_simp; exact k _ (Grow.refl _)
     case s1_16 =>
      intro t w T V O K k; have p8 : t[96]? = some ?v1_8 := V.g 8 96 rfl rfl (by kernel_rfl); have p15 : t[103]? = some ?v1_15 := V.g 15 103 rfl rfl (by kernel_rfl); clear V O; have d0 := grow_cell T a1; have d1 := grow_cell T a2; have d2 := grow_cell T a3; have d3 := grow_cell T a4; have d4 := grow_cell T hz9; go_simp; exact k _ (Grow.refl _)
     case s1_17 =>
      intro t w T V O K k; have p8 : t[96]? = some ?v1_8 := V.g 8 96 rfl rfl (by kernel_rfl); have p11 : t[99]? = some ?v1_11 := V.g 11 99 rfl rfl (by kernel_rfl); have p16 : t[104]? = some ?v1_16 := V.g 16 104 rfl rfl (by kernel_rfl); clear V O; go_simp; exact k _ (Grow.refl _)
     case s1_18 =>
      intro t w T V O K k; have p8 : t[96]? = some ?v1_8 := V.g 8 96 rfl rfl (by kernel_rfl); have p17 : t[105]? = some ?v1_17 := V.g 17 105 rfl rfl (by kernel_rfl); clear V O; go_simp; exact k _ (Grow.refl _)
     intro w9 hb9
     simp only [putAll, Act.put, List.setIfInBounds_toArray, List.set_cons_succ, List.set_cons_zero, List.getD_cons_succ, List.getD_cons_zero, Nat.reduceAdd, Nat.zero_add]
     clear a1 a2 a3 a4 hz9 n1 n2 hl0; have o_a8 := o_at.below hb9 (by omega); have hb10 : Below w6.heap.size w6 w9 := hb8.trans (hb9.mono (by omega)); clear o_at hb8 hb9 HV; have zs : IntKind.i64.wrap (((sumC (lx.take i) SW : Nat) : Int) + ((cn SW s : Nat) : Int)) = ((sumC (lx.take (i + 1)) SW : Nat) : Int) := (IntWalk.i64_in _ (by have := HST.out; have := HSB.out; omega)).trans (by have := HST.out; omega); have a1 := o_a8.c1
     go_wp2
     clear a1 zs
     go_roundg (lx.length + 1 - (i + 1))
     case measure => omega
     case rel => exact ⟨i + 1, rfl, by omega, by go_num, rfl, hb10⟩
  ·skip
   have ei : i = lx.length := by omega
   subst ei; have hsum : sumC (lx.take lx.length) SW = nn := by rw [List.take_length, sumC_all HND.out HXM2.out, HSL.out]
   rw [hsum]; clear hsum; have hbz : Below p w wr := hbw6.trans (hbr.mono (by omega))
   by_cases h0 : lx.length = 0
   ·skip
    have f1 : ((lx.length : Int) == (0 : Int)) = true := beq_iff_eq.2 (by omega); have f2 : ((lx.length : Nat) == (0 : Nat)) = true := beq_iff_eq.2 (by omega); clear h0
    go_wp2_with fail
    refine (known38_yes _ (T0.out.below (HP.out ▸ hbz))).mono ?_; rintro e w8 ⟨rfl, hb8⟩; have hbw8 : Below p w w8 := hbz.trans (hb8.mono (by omega))
    go_wp2
    go_ret
    exact ⟨rfl, HP.out ▸ hbw8⟩
   ·skip
    obtain ⟨b0, off0, e0, hA10, -, -, he0, kz⟩ := EO.get (EO.below HX2.out hbr) (by decide) (show 0 < lx.length by omega); subst hA10; rw [he0, HCX.out] at kz; have z2 : wr.cell? ⟨b0, off0 + 2, none⟩ = some (.int .i64 (nn : Int)) := by have := kz 2 _ rfl; rw [Nat.zero_mul, Nat.add_zero] at this; exact this
    clear he0 kz; have hl0 : 0 < lx.length := by omega
    have f1 : ((lx.length : Int) == (0 : Int)) = false := beq_eq_false_iff_ne.2 (by omega); have f2 : ((lx.length : Nat) == (0 : Nat)) = false := beq_eq_false_iff_ne.2 (by omega); have n1 : ((nn : Int) == (nn : Int)) = true := by simp
    have n2 : (nn == nn) = true := by simp
    clear h0
    go_wp2_with fail
    refine (known38_yes _ (T0.out.below (HP.out ▸ hbz))).mono ?_; rintro e w8 ⟨rfl, hb8⟩; have hbw8 : Below p w w8 := hbz.trans (hb8.mono (by omega))
    go_wp2
    go_ret
    exact ⟨rfl, HP.out ▸ hbw8⟩
open Go.ChangeShapes Go.WideShapes Go.ChangeAt Go.RowKit Go.Deep

theorem addr_lit {w : World} {x : Addr} {u : Value} (h : w.cell? (x.add 0) = some u) : x = ⟨x.block, x.off, none⟩ := by
 obtain ⟨b, off, spot⟩ := x; have hs : spot = none := by simpa [Addr.add] using World.cell?_spot h
 subst hs
 rfl
theorem wide_of {n : Int} (h : (Lit.int .i64 n).wf = true) : -9223372036854775808 <= n /\ n <= 9223372036854775807 := by
 have e1 : IntKind.i64.min = -9223372036854775808 := by decide
 have e2 : IntKind.i64.max = 9223372036854775807 := by decide
 simp [Lit.wf] at h
 omega

section
variable {H : Type} {enc : TypeId × Value -> H} {P : Program} {w : World} {base : Nat} {spare : Nat -> Bool} {held : Bool}
theorem ints_of2 {t e : TypeId} {a : Option Addr} {len cap : Nat} {d : DataW H} {p : List MemPlace} (ht : P.underlying t = some (.slice e)) (he : P.underlying e = some (.int .i64)) (hc : P.cellsOf e = 1)
  (h : DataW.Trod enc P w base spare held t (.slice a len cap) d p) : ∃ l : List Int, l.length = len /\ len <= cap /\ cap <= maxLen /\ Ints w a l /\ Wide l := by
 obtain ⟨fuel, hf⟩ := h
 rcases open_ints ht he hc hf with ⟨hcs, _⟩ | ⟨x, l, c, zs, hcs, _, hl, hm, hz, _, hcell, hwz⟩
 ·simp [Value.cells] at hcs
  obtain ⟨rfl, rfl, rfl⟩ := hcs; exact ⟨[], rfl, by omega, by simp [maxLen], Rd.nil _ _, by intro x hx; simp at hx⟩
 ·simp [Value.cells] at hcs
  obtain ⟨rfl, rfl, rfl⟩ := hcs; have hz' : len <= zs.length := by rw [hz]; split <;> omega
  refine ⟨zs.take len, by rw [List.length_take]; omega, by omega, by omega, ?_, fun n hn => wide_of (hwz n (List.mem_of_mem_take hn))⟩; intro j u hu; have hj : j < len /\ j < zs.length := by
   have := (List.getElem?_eq_some_iff.1 hu).1
   simp only [ci, List.length_map, List.length_take] at this
   omega
  have hcj := hcell j hj.2; have e := addr_lit (hcell 0 (by omega)); refine ⟨x.block, x.off, by rw [<- e], ?_⟩; rw [e, Addr.add_lit] at hcj; rw [hcj]; have : (ci (zs.take len))[j]? = some (.int .i64 (zs.getD j 0)) := by
   simp only [ci, List.getElem?_map, List.getElem?_take, hj.1, if_true, List.getD, List.getElem?_eq_getElem hj.2]
   rfl
  rw [this] at hu; exact hu
end
end Go.Proofs.YtjimfbmegmnocaaGreatDoor
