/- Parts of the proof: Qe, Qf, Wa. No condition of its own. -/
import Derived.Test.YtjimfbmegmnocaaGreatDoorQd
import Derived.Test.YtjimfbmegmnocaaGreatDoorCn
import Derived.Test.YtjimfbmegmnocaaGreatDoorCa
import Derived.Test.YtjimfbmegmnocaaGreatDoorCma
import Derived.Maps.OwnOps
import Derived.Maps.RangeWalk
import Derived.Maps.Views
import Derived.StringKeys
set_option linter.unusedSimpArgs false
set_option linter.unusedVariables false
set_option maxRecDepth 100000
set_option maxHeartbeats 4000000
namespace Go.Proofs.YtjimfbmegmnocaaGreatDoor
open Go.RowKit

def ChainT : Int -> List Spn -> Int -> Prop
 | a, [], b => a = b
 | a, t :: ts, b => t.lo = a /\ t.lo < t.hi /\ ChainT t.hi ts b
theorem ChainT.app : ∀ {l l' : List Spn} {a b c : Int}, ChainT a l b -> ChainT b l' c -> ChainT a (l ++ l') c := by
 intro l
 induction l with
 | nil => intro l' a b c h h'; cases h; exact h'
 | cons t ts ih => intro l' a b c h h'; exact ⟨h.1, h.2.1, ih h.2.2 h'⟩
theorem ChainT.shift : ∀ {l : List Spn} {a b : Int} (n : Nat), ChainT a l b -> ChainT (a + n) (l.map (sh n)) (b + n) := by
 intro l
 induction l with
 | nil => intro a b n h; cases h; rfl
 | cons t ts ih =>
  intro a b n h; exact ⟨by show t.lo + (n : Int) = a + n; rw [h.1], by show t.lo + (n : Int) < t.hi + n; have := h.2.1; omega, ih n h.2.2⟩
structure MadeC (most : Nat) (C : Cor) : Prop where
 attrs : C.attrs = atts9
 pos : 0 < C.toks.length
 few : C.toks.length <= most
 rows : ∀ t ∈ C.toks, t.length = 3
 texts : ChainT 0 C.texts C.toks.length
theorem DocC.made {name : ByteArray} {most : Nat} {C : Cor} (h : DocC name most C) : MadeC most C := by
 refine ⟨h.attrs, h.pos, h.few, h.rows, ?_⟩; obtain ⟨ks, e⟩ := h.texts; rw [e]; have := h.pos; exact ⟨rfl, by show (0 : Int) < C.toks.length; omega, rfl⟩
theorem MadeC.join {m1 m2 : Nat} {C D E : Cor} (h : MadeC m1 C) (h' : MadeC m2 D) (j : Joined C D E) : MadeC (m1 + m2) E := by
 have h1 := h.pos; have h2 := h.few; have h3 := h'.few; refine ⟨j.attrs.trans h.attrs, by rw [j.toks, List.length_append]; omega, by rw [j.toks, List.length_append]; omega, fun t ht => ?_, ?_⟩
 ·rw [j.toks] at ht; exact (List.mem_append.1 ht).elim (h.rows t) (h'.rows t)
 ·rw [j.texts, j.toks, List.length_append]; have := (h'.texts).shift C.toks.length; rw [Int.zero_add] at this; have e : ((C.toks.length + D.toks.length : Nat) : Int) = (D.toks.length : Int) + (C.toks.length : Int) := by omega
  rw [e]; exact h.texts.app this
theorem MadeC.more {m1 m2 : Nat} {C : Cor} (h : MadeC m1 C) (hm : m1 <= m2) : MadeC m2 C := ⟨h.attrs, h.pos, Nat.le_trans h.few hm, h.rows, h.texts⟩
theorem corpus_made {T : Option Addr × List Int × Nat} {B p : Nat} (w : World) (tp : TP T B w p) (most : Nat) (hm0 : 0 < most) (hm : most <= 100) :
  Calls Tryz.prog 8 #[.pointer (some ⟨p, 0, none⟩), .int .i64 (most : Int)] w fun e w' => (∃ v C, e = .returned v /\ CorV (fun k => k < w.heap.size) w' v C /\ MadeC (4 * most) C) /\ TP T B w' p /\ Chg (fun k => k = p) w w' := by
 have hp := tp.lt; have hBw := tp.size; obtain ⟨B3, hB3⟩ : ∃ B3, B3 = w.heap.size := ⟨_, rfl⟩; obtain ⟨o_r, hbw⟩ := new1 w [.slice none 0 0, .slice none 0 0, .slice none 0 0, .slice none 0 0, .slice none 0 0, .slice none 0 0, .slice none 0 0] 30; rw [<- hB3] at o_r; have tp0 := tp.below hbw
 go_enter Tryz.func8, Tryz.ntmps8
 go_upto_region 1 with (fail)
 have hsz : (w.alloc (.cells #[.slice none 0 0, .slice none 0 0, .slice none 0 0, .slice none 0 0, .slice none 0 0, .slice none 0 0, .slice none 0 0] 30)).heap.size = w.heap.size + 1 := by simp
 generalize (w.alloc (.cells #[.slice none 0 0, .slice none 0 0, .slice none 0 0, .slice none 0 0, .slice none 0 0, .slice none 0 0, .slice none 0 0] 30)) = wb at o_r hbw tp0 hsz |-; rw [<- hB3] at hsz hbw |-; have HB3 := Z' hB3; have hBB3 : B <= B3 := by omega
 clear hB3 tp
 go_wp2_with fail
 refine (document_made wb tp0 ⟨#[116, 48]⟩ (by decide) most hm0 hm).mono ?_; rintro e w1 ⟨⟨_, C, rfl, ⟨a, t, x, r, n, h, s, rfl, q⟩, hd⟩, tp1, hc1⟩; obtain ⟨Aa1, ca1, rfl, -, -, -⟩ := EO.form q.a; obtain ⟨At1, ct1, rfl, -, -, -⟩ := EO.form q.t; obtain ⟨Ax1, cx1, rfl, -, -, -⟩ := EO.form q.x; obtain ⟨Ar1, cr1, rfl, -, -, -⟩ := EO.form q.r; obtain ⟨An1, cn1, rfl, -, -, -⟩ := EO.form q.n; obtain ⟨Ah1, ch1, rfl, -, -, -⟩ := EO.form q.h; obtain ⟨As1, cs1, rfl, -, -, -⟩ := EO.form q.s; have hw1 := hc1.size; have o_r1 := hc1.own o_r (by omega); have HM := Z' hd.made; have HQ := Z' q.fresh; have hcw : Chg (fun k => k = p) w w1 := (Chg.of_below (S := fun k => k = p) (HB3.out ▸ hbw) fun k h1 h2 => by omega).trans hc1; clear hd q hc1 tp0 o_r hbw; obtain ⟨o_c, hb5⟩ := new1 w1 [.slice Aa1 C.attrs.length ca1, .slice At1 C.toks.length ct1, .slice Ax1 C.texts.length cx1, .slice Ar1 C.regs.length cr1, .slice An1 C.nodes.length cn1, .slice Ah1 C.heads.length ch1, .slice As1 C.rels.length cs1] 30
 have tp2 := tp1.below hb5; have o_r2 := o_r1.below hb5 o_r1.lt; have hs5 : (w1.alloc (.cells #[.slice Aa1 C.attrs.length ca1, .slice At1 C.toks.length ct1, .slice Ax1 C.texts.length cx1, .slice Ar1 C.regs.length cr1, .slice An1 C.nodes.length cn1, .slice Ah1 C.heads.length ch1, .slice As1 C.rels.length cs1] 30)).heap.size = w1.heap.size + 1 := by simp
 go_upto_region 2 with (fail)
 generalize (w1.alloc (.cells #[.slice Aa1 C.attrs.length ca1, .slice At1 C.toks.length ct1, .slice Ax1 C.texts.length cx1, .slice Ar1 C.regs.length cr1, .slice An1 C.nodes.length cn1, .slice Ah1 C.heads.length ch1, .slice As1 C.rels.length cs1] 30)) = w2 at o_c hb5 tp2 o_r2 hs5 |-; have HQ2 := Z' (HQ.out.chg (Chg.of_below (S := fun k => k < wb.heap.size \/ w1.heap.size <= k) hb5 fun k h1 h2 => .inr h2)); obtain ⟨g5, hg5⟩ : ∃ x, x = w1.heap.size := ⟨_, rfl⟩; rw [<- hg5] at o_c hs5 HQ2 |-; have hgw : wb.heap.size <= g5 := by omega
 replace hcw := hcw.trans (Chg.of_below (S := fun k => k = p) hb5 fun k h1 h2 => by omega); clear HQ hb5 tp1 o_r1 hg5; have HQ3 : Hid (CorC (fun k => k <= B3 \/ k = g5) w2 (.slice Aa1 C.attrs.length ca1) (.slice At1 C.toks.length ct1) (.slice Ax1 C.texts.length cx1) (.slice Ar1 C.regs.length cr1) (.slice An1 C.nodes.length cn1) (.slice Ah1 C.heads.length ch1) (.slice As1 C.rels.length cs1) C) := HQ2.out.weak fun k h => by omega
 clear HQ2
 go_wp2_with fail
 refine (next9 T B p 3 _ rfl _ tp2 (by decide) (by decide)).mono ?_; rintro e w3 ⟨k0, rfl, hk0, tp3, hc3⟩; have hw3 := hc3.size; have HQ4 := Z' (HQ3.out.chg (hc3.mono fun k _ e => by omega)); have o_c3 := hc3.own o_c (by omega); have o_r3 := hc3.own o_r2 (by omega); replace hcw := hcw.trans hc3; clear HQ3 o_c o_r2 tp2 hc3
 go_wp2_with fail
 have hg3 : g5 < w3.heap.size := by omega
 go_loopg [6] (k0 + 1) (fun q v6 wr => ∃ (k : Nat) (C : Cor) (a t x r n h s : Value), q = k + 1 /\ k < 3 /\ v6 = .int .i64 (k : Int) /\ Own wr g5 30 [a, t, x, r, n, h, s] /\ Hid (CorC (fun k => k <= B3 \/ k = g5) wr a t x r n h s C) /\ Hid (MadeC ((4 - k) * most) C) /\ TP T B wr p /\ Own wr B3 30 [.slice none 0 0, .slice none 0 0, .slice none 0 0, .slice none 0 0, .slice none 0 0, .slice none 0 0, .slice none 0 0] /\ Chg (fun k => k = p \/ k = g5) w3 wr)
 case atStart => exact ⟨k0, C, _, _, _, _, _, _, _, rfl, hk0, rfl, o_c3, HQ4, HM.out.more (by have : 1 * most <= (4 - k0) * most := Nat.mul_le_mul_right _ (by omega); omega), tp3, o_r3, Chg.refl _ _⟩
 case round =>
  clear o_c3 HQ4 HM tp3 o_r3; obtain ⟨k, C, a, t, x, r, n, h, s, rfl, hk3, rfl, o_c, HQ, HM, tp, o_r, hch⟩ := hrel; have hwr := hch.size; obtain ⟨Aa2, ca2, rfl, -, -, -⟩ := EO.form HQ.out.a; obtain ⟨At2, ct2, rfl, -, -, -⟩ := EO.form HQ.out.t; obtain ⟨Ax2, cx2, rfl, -, -, -⟩ := EO.form HQ.out.x; obtain ⟨Ar2, cr2, rfl, -, -, -⟩ := EO.form HQ.out.r; obtain ⟨An2, cn2, rfl, -, -, -⟩ := EO.form HQ.out.n; obtain ⟨Ah2, ch2, rfl, -, -, -⟩ := EO.form HQ.out.h; obtain ⟨As2, cs2, rfl, -, -, -⟩ := EO.form HQ.out.s
  by_cases hk : 0 < k
  ·skip
   obtain ⟨k, rfl⟩ : ∃ x, k = x + 1 := ⟨k - 1, by omega⟩; have dk : decide ((0 : Int) < ((k + 1 : Nat) : Int)) = true := decide_eq_true (by omega); have dkn : decide (0 < k + 1) = true := decide_eq_true (by omega); obtain ⟨o_n, hbn⟩ := new1 wr [.string ⟨#[116, 48]⟩, .string ⟨#[116, 49]⟩, .string ⟨#[116, 50]⟩] 9; obtain ⟨nm, kn, hnm⟩ := str_at (three_at ⟨#[116, 48]⟩ ⟨#[116, 49]⟩ ⟨#[116, 50]⟩ (by decide) (by decide) (by decide)) (show k + 1 < 3 by omega) o_n; have ikn : ((k + 1 : Nat) : Int) < 3 := by omega
   have ikn2 : (k : Int) + 1 < 3 := by omega
   have ikn3 : decide (((k + 1 : Nat) : Int) < 3) = true := decide_eq_true ikn; have tpn := tp.below hbn
   go_wp2_with fail
   clear kn dk dkn ikn ikn2 ikn3; have hsn : (wr.alloc (.cells #[.string ⟨#[116, 48]⟩, .string ⟨#[116, 49]⟩, .string ⟨#[116, 50]⟩] 9)).heap.size = wr.heap.size + 1 := by simp
   generalize (wr.alloc (.cells #[.string ⟨#[116, 48]⟩, .string ⟨#[116, 49]⟩, .string ⟨#[116, 50]⟩] 9)) = w4 at o_n hbn tpn hsn |-; refine (document_made w4 tpn nm hnm most hm0 hm).mono ?_; rintro e w5 ⟨⟨_, D, rfl, ⟨da, dt, dx, dr, dn, dh, ds, rfl, qd⟩, hd⟩, tp5, hc5⟩; obtain ⟨Aa3, ca3, rfl, -, -, -⟩ := EO.form qd.a; obtain ⟨At3, ct3, rfl, -, -, -⟩ := EO.form qd.t; obtain ⟨Ax3, cx3, rfl, -, -, -⟩ := EO.form qd.x; obtain ⟨Ar3, cr3, rfl, -, -, -⟩ := EO.form qd.r; obtain ⟨An3, cn3, rfl, -, -, -⟩ := EO.form qd.n; obtain ⟨Ah3, ch3, rfl, -, -, -⟩ := EO.form qd.h; obtain ⟨As3, cs3, rfl, -, -, -⟩ := EO.form qd.s; have hw5 := hc5.size; have hcn : Chg (fun k => k = p) wr w5 := (Chg.grow9 (S := fun k => k = p) hbn).trans hc5; have HQ5 := Z' (HQ.out.chg (hcn.mono fun k _ e => by omega)); have o_c5 := hcn.own o_c (by omega); have o_r5 := hcn.own o_r (by omega); have HD5 : Hid (CorC (fun k => k <= B3 \/ k = g5) w5 (.slice Aa3 D.attrs.length ca3) (.slice At3 D.toks.length ct3) (.slice Ax3 D.texts.length cx3) (.slice Ar3 D.regs.length cr3) (.slice An3 D.nodes.length cn3) (.slice Ah3 D.heads.length ch3) (.slice As3 D.rels.length cs3) D) := qd.weak fun k h => by have := o_c.lt; have := o_r.lt; omega
   have HMD := Z' hd.made; replace hch : Chg (fun k => k = p \/ k = g5) w3 w5 := hch.trans (hcn.mono fun k _ e => .inl e); have hcl := o_c5.lt; clear qd hd hbn o_n HQ o_c o_r tp tpn hc5 hcn hsn; obtain ⟨o_d, hbd⟩ := new1 w5 [.slice Aa3 D.attrs.length ca3, .slice At3 D.toks.length ct3, .slice Ax3 D.texts.length cx3, .slice Ar3 D.regs.length cr3, .slice An3 D.nodes.length cn3, .slice Ah3 D.heads.length ch3, .slice As3 D.rels.length cs3] 30; have hsd : (w5.alloc (.cells #[.slice Aa3 D.attrs.length ca3, .slice At3 D.toks.length ct3, .slice Ax3 D.texts.length cx3, .slice Ar3 D.regs.length cr3, .slice An3 D.nodes.length cn3, .slice Ah3 D.heads.length ch3, .slice As3 D.rels.length cs3] 30)).heap.size = w5.heap.size + 1 := by simp
   have o_c6 := o_c5.below hbd hcl; obtain ⟨y0, y1, y2, y3, y4, y5, y6⟩ := o_c6.cells7
   go_wp2_with fail
   clear y0 y1 y2 y3 y4 y5 y6; generalize (w5.alloc (.cells #[.slice Aa3 D.attrs.length ca3, .slice At3 D.toks.length ct3, .slice Ax3 D.texts.length cx3, .slice Ar3 D.regs.length cr3, .slice An3 D.nodes.length cn3, .slice Ah3 D.heads.length ch3, .slice As3 D.rels.length cs3] 30)) = w6 at o_d hbd hsd o_c6 |-; have tp6 := tp5.below hbd; have o_r6 := o_r5.below hbd o_r5.lt; have HQ6 := Z' (HQ5.out.below hbd); have HD6 := Z' (HD5.out.below hbd); replace hch := hch.trans (Chg.grow9 (S := fun k => k = p \/ k = g5) hbd); have hw6 := hbd.size; have hcl6 := o_c6.lt; clear HQ5 HD5 o_c5 o_r5 tp5 hbd; refine (concat6_any (S := fun k => k <= B3 \/ k = g5) w6 HQ6.out HD6.out (fun k h => by have := o_r6.lt; omega)).mono ?_; rintro e w7 ⟨hres, hb7⟩; have tp7 := tp6.below hb7; have o_c7 := o_c6.below hb7 hcl6; have o_r7 := o_r6.below hb7 o_r6.lt; have HQ7 := Z' (HQ6.out.below hb7); replace hch := hch.trans (Chg.grow9 (S := fun k => k = p \/ k = g5) hb7)
   have hcl7 := o_c7.lt; have zk : IntKind.i64.wrap (((k + 1 : Nat) : Int) - 1) = (k : Int) := (IntWalk.i64_in _ (by omega)).trans (by omega); have zk2 : IntKind.i64.wrap ((k : Int) + 1 - 1) = (k : Int) := (IntWalk.i64_in _ (by omega)).trans (by omega); clear HQ6 HD6 o_c6 o_r6 tp6 hb7
   rcases hres with ⟨kk, rfl, hkk⟩ | ⟨v, E, rfl, ⟨ea, et, ex, er, en, eh, es, rfl, qe⟩, hj, -, -⟩
   ·skip
    obtain ⟨-, hbz⟩ := new1 w7 [.slice none 0 0, .slice none 0 0, .slice none 0 0, .slice none 0 0, .slice none 0 0, .slice none 0 0, .slice none 0 0] 30; have tp8 := tp7.below hbz; have o_c8 := o_c7.below hbz hcl7; have o_r8 := o_r7.below hbz o_r7.lt; have HQ8 := Z' (HQ7.out.below hbz); replace hch := hch.trans (Chg.grow9 (S := fun k => k = p \/ k = g5) hbz); have HM8 := Z' (HM.out.more (m2 := (4 - k) * most) (Nat.mul_le_mul_right _ (by omega))); clear hbz HQ7 o_c7 o_r7 tp7; have qe : ((kk : Int) == (0 : Int)) = false := beq_eq_false_iff_ne.2 (by omega); have qd : ((kk : Int) != (0 : Int)) = true := by rw [bne_iff_ne]; omega
    go_wp2
    go_roundg (k + 1)
    case measure => omega
    case rel => exact ⟨k, C, _, _, _, _, _, _, _, rfl, by omega, rfl, o_c8, HQ8, HM8, tp8, o_r8, hch⟩
   ·skip
    obtain ⟨Aa4, ca4, rfl, -, -, -⟩ := EO.form qe.a; obtain ⟨At4, ct4, rfl, -, -, -⟩ := EO.form qe.t; obtain ⟨Ax4, cx4, rfl, -, -, -⟩ := EO.form qe.x; obtain ⟨Ar4, cr4, rfl, -, -, -⟩ := EO.form qe.r; obtain ⟨An4, cn4, rfl, -, -, -⟩ := EO.form qe.n; obtain ⟨Ah4, ch4, rfl, -, -, -⟩ := EO.form qe.h; obtain ⟨As4, cs4, rfl, -, -, -⟩ := EO.form qe.s; obtain ⟨o_x, hbx⟩ := new1 w7 [.slice Aa4 E.attrs.length ca4, .slice At4 E.toks.length ct4, .slice Ax4 E.texts.length cx4, .slice Ar4 E.regs.length cr4, .slice An4 E.nodes.length cn4, .slice Ah4 E.heads.length ch4, .slice As4 E.rels.length cs4] 30; have hsx : (w7.alloc (.cells #[.slice Aa4 E.attrs.length ca4, .slice At4 E.toks.length ct4, .slice Ax4 E.texts.length cx4, .slice Ar4 E.regs.length cr4, .slice An4 E.nodes.length cn4, .slice Ah4 E.heads.length ch4, .slice As4 E.rels.length cs4] 30)).heap.size = w7.heap.size + 1 := by simp
    have tp8 := tp7.below hbx; have o_c8 := o_c7.below hbx hcl7; have o_r8 := o_r7.below hbx o_r7.lt; have HQ8 := Z' (qe.below hbx); replace hch := hch.trans (Chg.grow9 (S := fun k => k = p \/ k = g5) hbx); have HM8 : Hid (MadeC ((4 - k) * most) E) := by
     have := HM.out.join HMD.out hj; have e : (4 - (k + 1)) * most + most = (4 - k) * most := by
      have : 4 - k = (4 - (k + 1)) + 1 := by omega
      rw [this, Nat.add_mul, Nat.one_mul]
     rwa [e] at this
    clear hbx HQ7 o_c7 o_r7 tp7 qe hj
    go_upto_region 8 with (fail)
    generalize (w7.alloc (.cells #[.slice Aa4 E.attrs.length ca4, .slice At4 E.toks.length ct4, .slice Ax4 E.texts.length cx4, .slice Ar4 E.regs.length cr4, .slice An4 E.nodes.length cn4, .slice Ah4 E.heads.length ch4, .slice As4 E.rels.length cs4] 30)) = w8 at o_x hsx tp8 o_c8 o_r8 HQ8 hch |-; generalize w7.heap.size = gx at o_x hsx hcl7 |-; obtain ⟨x0, x1, x2, x3, x4, x5, x6⟩ := o_x.cells7; obtain ⟨r9_0, r9_1, r9_2, r9_3, r9_4, r9_5, r9_6⟩ := o_c8.cells7; obtain ⟨fr9_0, fr9_1, fr9_2, fr9_3, fr9_4, fr9_5, fr9_6⟩ := o_c8.frozens7; have o_c9 := o_c8.set7' (.slice Aa4 E.attrs.length ca4) (.slice At4 E.toks.length ct4) (.slice Ax4 E.texts.length cx4) (.slice Ar4 E.regs.length cr4) (.slice An4 E.nodes.length cn4) (.slice Ah4 E.heads.length ch4) (.slice As4 E.rels.length cs4); have hc9 : Hid (Chg (fun k => k = g5) w8 ((((((((w8.setCell ⟨g5, 0, none⟩ (.slice Aa4 E.attrs.length ca4)).setCell ⟨g5, 1, none⟩ (.slice At4 E.toks.length ct4)).setCell ⟨g5, 2, none⟩ (.slice Ax4 E.texts.length cx4)).setCell ⟨g5, 3, none⟩ (.slice Ar4 E.regs.length cr4)).setCell ⟨g5, 4, none⟩ (.slice An4 E.nodes.length cn4)).setCell ⟨g5, 5, none⟩ (.slice Ah4 E.heads.length ch4)).setCell ⟨g5, 6, none⟩ (.slice As4 E.rels.length cs4)))) := ((((((((Chg.refl (fun k => k = g5) w8).setCell (p := ⟨g5, 0, none⟩) rfl (.slice Aa4 E.attrs.length ca4)).setCell (p := ⟨g5, 1, none⟩) rfl (.slice At4 E.toks.length ct4)).setCell (p := ⟨g5, 2, none⟩) rfl (.slice Ax4 E.texts.length cx4)).setCell (p := ⟨g5, 3, none⟩) rfl (.slice Ar4 E.regs.length cr4)).setCell (p := ⟨g5, 4, none⟩) rfl (.slice An4 E.nodes.length cn4)).setCell (p := ⟨g5, 5, none⟩) rfl (.slice Ah4 E.heads.length ch4)).setCell (p := ⟨g5, 6, none⟩) rfl (.slice As4 E.rels.length cs4))
    go_upto_region 4 with (fail)
    clear x0 x1 x2 x3 x4 x5 x6 r9_0 r9_1 r9_2 r9_3 r9_4 r9_5 r9_6 fr9_0 fr9_1 fr9_2 fr9_3 fr9_4 fr9_5 fr9_6; generalize (((((((w8.setCell ⟨g5, 0, none⟩ (.slice Aa4 E.attrs.length ca4)).setCell ⟨g5, 1, none⟩ (.slice At4 E.toks.length ct4)).setCell ⟨g5, 2, none⟩ (.slice Ax4 E.texts.length cx4)).setCell ⟨g5, 3, none⟩ (.slice Ar4 E.regs.length cr4)).setCell ⟨g5, 4, none⟩ (.slice An4 E.nodes.length cn4)).setCell ⟨g5, 5, none⟩ (.slice Ah4 E.heads.length ch4)).setCell ⟨g5, 6, none⟩ (.slice As4 E.rels.length cs4)) = w9 at o_c9 hc9 |-; have tp9 := tp8.keep (hc9.out.mono fun k _ e => by omega); have o_r9 := hc9.out.own o_r8 (by omega); have HQ9 := Z' (HQ8.out.chg (hc9.out.mono fun k _ e => by omega)); replace hch := hch.trans (hc9.out.mono fun k _ e => .inr e)
    go_wp2
    go_roundg (k + 1)
    case measure => omega
    case rel => exact ⟨k, E, _, _, _, _, _, _, _, rfl, by omega, rfl, o_c9, HQ9, HM8, tp9, o_r9, hch⟩
  ·skip
   have dk : decide ((0 : Int) < (k : Int)) = false := decide_eq_false (by omega); have dkn : decide (0 < k) = false := decide_eq_false (by omega); obtain ⟨s0, s1, s2, s3, s4, s5, s6⟩ := o_c.cells7; obtain ⟨r9_0, r9_1, r9_2, r9_3, r9_4, r9_5, r9_6⟩ := o_r.cells7; obtain ⟨fr9_0, fr9_1, fr9_2, fr9_3, fr9_4, fr9_5, fr9_6⟩ := o_r.frozens7; have oz := o_r.set7' (.slice Aa2 C.attrs.length ca2) (.slice At2 C.toks.length ct2) (.slice Ax2 C.texts.length cx2) (.slice Ar2 C.regs.length cr2) (.slice An2 C.nodes.length cn2) (.slice Ah2 C.heads.length ch2) (.slice As2 C.rels.length cs2); have HC : Hid (Chg (fun k => k = B3) wr ((((((((wr.setCell ⟨B3, 0, none⟩ (.slice Aa2 C.attrs.length ca2)).setCell ⟨B3, 1, none⟩ (.slice At2 C.toks.length ct2)).setCell ⟨B3, 2, none⟩ (.slice Ax2 C.texts.length cx2)).setCell ⟨B3, 3, none⟩ (.slice Ar2 C.regs.length cr2)).setCell ⟨B3, 4, none⟩ (.slice An2 C.nodes.length cn2)).setCell ⟨B3, 5, none⟩ (.slice Ah2 C.heads.length ch2)).setCell ⟨B3, 6, none⟩ (.slice As2 C.rels.length cs2)))) := ((((((((Chg.refl (fun k => k = B3) wr).setCell (p := ⟨B3, 0, none⟩) rfl (.slice Aa2 C.attrs.length ca2)).setCell (p := ⟨B3, 1, none⟩) rfl (.slice At2 C.toks.length ct2)).setCell (p := ⟨B3, 2, none⟩) rfl (.slice Ax2 C.texts.length cx2)).setCell (p := ⟨B3, 3, none⟩) rfl (.slice Ar2 C.regs.length cr2)).setCell (p := ⟨B3, 4, none⟩) rfl (.slice An2 C.nodes.length cn2)).setCell (p := ⟨B3, 5, none⟩) rfl (.slice Ah2 C.heads.length ch2)).setCell (p := ⟨B3, 6, none⟩) rfl (.slice As2 C.rels.length cs2))
   go_wp2_with fail
   clear r9_0 r9_1 r9_2 r9_3 r9_4 r9_5 r9_6 fr9_0 fr9_1 fr9_2 fr9_3 fr9_4 fr9_5 fr9_6 s0 s1 s2 s3 s4 s5 s6; generalize (((((((wr.setCell ⟨B3, 0, none⟩ (.slice Aa2 C.attrs.length ca2)).setCell ⟨B3, 1, none⟩ (.slice At2 C.toks.length ct2)).setCell ⟨B3, 2, none⟩ (.slice Ax2 C.texts.length cx2)).setCell ⟨B3, 3, none⟩ (.slice Ar2 C.regs.length cr2)).setCell ⟨B3, 4, none⟩ (.slice An2 C.nodes.length cn2)).setCell ⟨B3, 5, none⟩ (.slice Ah2 C.heads.length ch2)).setCell ⟨B3, 6, none⟩ (.slice As2 C.rels.length cs2)) = wz at oz HC |-; obtain ⟨z90, z91, z92, z93, z94, z95, z96⟩ := oz.cells7; have q8 := (HQ.out.chg (HC.out.mono fun k _ e => by omega)).weak (T := fun k => k < w.heap.size) fun k h => by have := HB3.out; omega
   have tz := tp.keep (HC.out.mono fun k _ e => by omega); have hcz : Chg (fun k => k = p) w wz := ((hcw.mono (T := fun k => k = p \/ w.heap.size <= k) fun k _ e => .inl e).trans (hch.mono fun k _ e => e.imp id fun e => by have := HB3.out; omega)).trans (HC.out.mono fun k _ e => .inr (by have := HB3.out; omega)) |>.mono fun k hk e => e.elim id fun e => by omega
   exact bodyPost_ret (v := .agg #[.slice Aa2 C.attrs.length ca2, .slice At2 C.toks.length ct2, .slice Ax2 C.texts.length cx2, .slice Ar2 C.regs.length cr2, .slice An2 C.nodes.length cn2, .slice Ah2 C.heads.length ch2, .slice As2 C.rels.length cs2]) (by simp [results, Tryz.results8, go_sem, z90, z91, z92, z93, z94, z95, z96]) rfl ⟨⟨_, _, rfl, ⟨_, _, _, _, _, _, _, rfl, q8⟩, HM.out.more (Nat.mul_le_mul_right _ (by omega))⟩, tz, hcz⟩
open Go.RowKit

theorem ChainT.range : ∀ {l : List Spn} {a b : Int}, ChainT a l b -> a <= b /\ ∀ t ∈ l, a <= t.lo /\ t.lo < t.hi /\ t.hi <= b := by
 intro l
 induction l with
 | nil => intro a b h; cases h; exact ⟨Int.le_refl _, fun _ h => nomatch h⟩
 | cons t ts ih =>
  intro a b h; obtain ⟨h1, h2, h3⟩ := h; obtain ⟨h4, h5⟩ := ih h3; refine ⟨by omega, fun u hu => ?_⟩
  rcases List.mem_cons.1 hu with rfl | hu
  ·omega
  ·have := h5 u hu; omega
theorem ChainT.few : ∀ {l : List Spn} {a b : Int}, ChainT a l b -> (l.length : Int) <= b - a := by
 intro l
 induction l with
 | nil => intro a b h; cases h; simp
 | cons t ts ih =>
  intro a b h; obtain ⟨h1, h2, h3⟩ := h; have := ih h3
  simp only [List.length_cons]
  omega
def ESpan (q : Int × Int) (e : List Value) : Prop := e = [.int .i64 q.1, .int .i64 q.2] /\ I64 q.1 /\ I64 q.2
abbrev SpansO (S : Nat -> Prop) (w : World) (v : Value) (l : List (Int × Int)) : Prop := EO S w 2 ESpan v l
structure XM (T : Option Addr × List Int × Nat) (B p B9 : Nat) (C : Cor) (l9 l10 : Bool) (u9 : Value) (w : World) : Prop where
 tp : TP T B w p
 h : l10 = true -> l9 = true
 a : l9 = true -> ∃ g, u9 = .pointer (some ⟨g, 0, none⟩) /\ B9 <= g /\ (l10 = false -> Own w g 89 [.string ⟨#[]⟩, .int .i64 0, .int .i64 0, .slice none 0 0]) /\ (l10 = true -> ∃ t A c, t ∈ C.texts /\ Own w g 89 [.string t.name, .int .i64 t.lo, .int .i64 t.hi, .slice A t.keys.length c])
 hs : B9 <= w.heap.size
 hB : B <= B9
section
variable {T : Option Addr × List Int × Nat} {B p B9 : Nat} {C : Cor} {l9 l10 : Bool} {u9 : Value} {w w' : World}
theorem XM.next (h : XM T B p B9 C l9 l10 u9 w) (hc : Chg (fun k => k = p) w w') (tp : TP T B w' p) : XM T B p B9 C l9 l10 u9 w' := by
 have h1 := tp.lt; have h2 := h.hB; refine ⟨tp, h.h, fun a => ?_, Nat.le_trans h.hs hc.size, h.hB⟩; obtain ⟨g, e1, e2, e3, e4⟩ := h.a a; exact ⟨g, e1, e2, fun b => hc.own (e3 b) (by omega), fun b => let ⟨t, A, c, h5, h6⟩ := e4 b; ⟨t, A, c, h5, hc.own h6 (by omega)⟩⟩
end
open Go.RowKit

def wordsOf (C : Cor) (a : Nat) : List ByteArray := C.toks.map fun r => r[a]?.getD ⟨#[]⟩
def selN (ws : List ByteArray) (bl : List Bool) : Nat -> List ByteArray
 | 0 => []
 | i + 1 => selN ws bl i ++ (if bl[i]?.getD false then [ws[i]?.getD ⟨#[]⟩] else [])
theorem wordsOf_length (C : Cor) (a : Nat) : (wordsOf C a).length = C.toks.length := by simp [wordsOf]
theorem wordsOf_get {C : Cor} {a i : Nat} (hi : i < C.toks.length) (ha : a < C.toks[i].length) : (wordsOf C a)[i]? = some (C.toks[i][a]) := by
 simp [wordsOf, List.getElem?_eq_getElem hi, List.getElem?_eq_getElem ha]
theorem selN_all (ws : List ByteArray) : ∀ {i : Nat}, i <= ws.length -> selN ws (List.replicate ws.length true) i = ws.take i := by
 intro i
 induction i with
 | zero => intro _; simp [selN]
 | succ i ih =>
  intro h; have h1 : i < ws.length := h; rw [selN, ih (by omega), List.take_add_one, List.getElem?_replicate, if_pos h1, List.getElem?_eq_getElem h1]
  simp
theorem selN_le (ws : List ByteArray) (bl : List Bool) : ∀ i, (selN ws bl i).length <= i := by
 intro i
 induction i with
 | zero => simp [selN]
 | succ i ih => rw [selN, List.length_append]; split <;> simp <;> omega
end Go.Proofs.YtjimfbmegmnocaaGreatDoor
