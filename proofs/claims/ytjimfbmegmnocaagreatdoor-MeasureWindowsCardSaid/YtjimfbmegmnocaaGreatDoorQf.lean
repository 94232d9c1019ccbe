/- Parts of the proof: Qf. No condition of its own. -/
import Derived.Test.YtjimfbmegmnocaaGreatDoorQe
set_option linter.unusedSimpArgs false
set_option linter.unusedVariables false
set_option maxRecDepth 100000
set_option maxHeartbeats 4000000
namespace Go.Proofs.YtjimfbmegmnocaaGreatDoor
open Go.RowKit

def SpanIn (C : Cor) (q : Int × Int) : Prop := ∃ t ∈ C.texts, t.lo <= q.1 /\ q.1 < q.2 /\ q.2 <= t.hi
theorem ChainT.range : ∀ {l : List Spn} {a b : Int}, ChainT a l b -> a <= b /\ ∀ t ∈ l, a <= t.lo /\ t.lo < t.hi /\ t.hi <= b := by
 intro l
 induction l with
 | nil => intro a b h; cases h; exact ⟨Int.le_refl _, fun _ h => nomatch h⟩
 | cons t ts ih =>
  intro a b h; obtain ⟨h1, h2, h3⟩ := h; obtain ⟨h4, h5⟩ := ih h3; refine ⟨by omega, fun u hu => ?_⟩
  rcases List.mem_cons.1 hu with rfl | hu
  ·omega
  ·have := h5 u hu; omega
theorem ChainT.few : ∀ {l : List Spn} {a b : Int}, ChainT a l b -> (l.length : Int) <= b - a := by
 intro l
 induction l with
 | nil => intro a b h; cases h; simp
 | cons t ts ih =>
  intro a b h; obtain ⟨h1, h2, h3⟩ := h; have := ih h3
  simp only [List.length_cons]
  omega
theorem MadeC.text_pos {most : Nat} {C : Cor} (h : MadeC most C) : 0 < C.texts.length := by
 have h1 := h.texts; have h2 := h.pos
 cases hl : C.texts with
 | nil => rw [hl] at h1; have : (0 : Int) = C.toks.length := h1; omega
 | cons t ts => simp
def EMat (q : Int × Int) (e : List Value) : Prop := e = [.int .i64 q.1, .int .i64 q.2, .slice none 0 0] /\ I64 q.1 /\ I64 q.2
def ESpan (q : Int × Int) (e : List Value) : Prop := e = [.int .i64 q.1, .int .i64 q.2] /\ I64 q.1 /\ I64 q.2
abbrev SpansO (S : Nat -> Prop) (w : World) (v : Value) (l : List (Int × Int)) : Prop := EO S w 2 ESpan v l
theorem mat_info : (Tryz.prog.info? 83).map (fun i => (i.zero, i.size, i.bytes)) = some (some (.agg #[.int .i64 0, .int .i64 0, .slice none 0 0]), 3, 40) := by kernel_rfl
theorem span_info : (Tryz.prog.info? 85).map (fun i => (i.zero, i.size, i.bytes)) = some (some (.agg #[.int .i64 0, .int .i64 0]), 2, 16) := by kernel_rfl
structure XM (T : Option Addr × List Int × Nat) (B p B9 : Nat) (C : Cor) (l9 l10 : Bool) (u9 : Value) (w : World) : Prop where
 tp : TP T B w p
 h : l10 = true -> l9 = true
 a : l9 = true -> ∃ g, u9 = .pointer (some ⟨g, 0, none⟩) /\ B9 <= g /\ (l10 = false -> Own w g 89 [.string ⟨#[]⟩, .int .i64 0, .int .i64 0, .slice none 0 0]) /\ (l10 = true -> ∃ t A c, t ∈ C.texts /\ Own w g 89 [.string t.name, .int .i64 t.lo, .int .i64 t.hi, .slice A t.keys.length c])
 hs : B9 <= w.heap.size
 hB : B <= B9
section
variable {T : Option Addr × List Int × Nat} {B p B9 : Nat} {C : Cor} {l9 l10 : Bool} {u9 : Value} {w w' : World}
theorem XM.next (h : XM T B p B9 C l9 l10 u9 w) (hc : Chg (fun k => k = p) w w') (tp : TP T B w' p) : XM T B p B9 C l9 l10 u9 w' := by
 have h1 := tp.lt; have h2 := h.hB; refine ⟨tp, h.h, fun a => ?_, Nat.le_trans h.hs hc.size, h.hB⟩; obtain ⟨g, e1, e2, e3, e4⟩ := h.a a; exact ⟨g, e1, e2, fun b => hc.own (e3 b) (by omega), fun b => let ⟨t, A, c, h5, h6⟩ := e4 b; ⟨t, A, c, h5, hc.own h6 (by omega)⟩⟩
end
theorem matches_made {T : Option Addr × List Int × Nat} {B p : Nat} (w : World) (tp : TP T B w p) {a t x r n h s : Value} {C : Cor} (q : CorC (fun k => k = p) w a t x r n h s C) {mm : Nat} (hM : MadeC mm C) (hmm : mm <= 1000) (most : Nat) (hmost : most <= 100) :
  Calls Tryz.prog 35 #[.pointer (some ⟨p, 0, none⟩), .agg #[a, t, x, r, n, h, s], .int .i64 0, .int .i64 (most : Int)] w fun e w' => (∃ v l, e = .returned v /\ EO (fun k => k < w.heap.size) w' 3 EMat v l /\ l.length <= most /\ ∀ q ∈ l, SpanIn C q) /\ TP T B w' p /\ Chg (fun k => k = p) w w' := by
 have hp := tp.lt; have hBw := tp.size; obtain ⟨Ax, cx, rfl, hx1, hx2, -⟩ := EO.form q.x; have hfew := hM.few; obtain ⟨B3, hB3⟩ : ∃ B3, B3 = w.heap.size := ⟨_, rfl⟩; obtain ⟨o_b, hbw⟩ := new1 w [a, t, .slice Ax C.texts.length cx, r, n, h, s] 30; rw [<- hB3] at o_b; have tp0 := tp.below hbw; have HX0 := Lib.hid (SpnsO.chg q.x (Chg.grow9 hbw))
 go_enter Tryz.func35, Tryz.ntmps35
 go_upto_region 2 with (fail)
 have hsz : (w.alloc (.cells #[a, t, .slice Ax C.texts.length cx, r, n, h, s] 30)).heap.size = w.heap.size + 1 := by simp
 generalize (w.alloc (.cells #[a, t, .slice Ax C.texts.length cx, r, n, h, s] 30)) = wb at o_b hbw tp0 hsz HX0 |-; rw [<- hB3] at hsz hbw |-; have HB3 := Lib.hid hB3; have hBB3 : B <= B3 := by omega
 have hcw : Chg (fun k => k = p) w wb := Chg.of_below (HB3.out ▸ hbw) fun k h1 h2 => by omega
 clear hB3 tp hbw; have zm : IntKind.i64.wrap ((most : Int) + 1) = ((most + 1 : Nat) : Int) := (IntWalk.i64_in _ (by omega)).trans (by omega)
 go_wp2_with fail
 refine (next9 T B p (most + 1) _ (by omega) _ tp0 (by omega) (by omega)).mono ?_; rintro e w1 ⟨k0, rfl, hk0, tp1, hc1⟩; have hw1 := hc1.size; have o_b1 := hc1.own o_b (by omega); have HX1 := Lib.hid (SpnsO.chg HX0.out hc1); replace hcw := hcw.trans hc1; clear zm HX0 o_b tp0 hc1
 go_wp2_with fail
 obtain ⟨B4, hB4⟩ : ∃ B4, B4 = w1.heap.size := ⟨_, rfl⟩; have HB4 := Lib.hid hB4; have hB34 : B3 < B4 := by omega
 clear hB4
 go_loopg [9, 10] (k0 + 1) (fun q v9 v10 wr => ∃ (k m : Nat) (AL : Option Addr) (cL : Nat) (es : List (List Value)) (L : List (Int × Int)), q = k + 1 /\ m + k <= most /\ v10 = .int .i64 (k : Int) /\ v9 = .slice AL m cL /\ Hid (L.length = m) /\ Hid (wr.ownsRow B4 83 3 (.slice AL m cL) m es.flatten) /\ Hid (Els 3 EMat es L) /\ Hid (∀ q ∈ L, SpanIn C q) /\ TP T B wr p /\ Chg (fun k => k = p) w1 wr)
 case atStart => exact ⟨k0, 0, none, 0, [], [], rfl, by omega, rfl, rfl, rfl, World.ownsRow_nil _ _ _ _, Els.nil _ _, (fun _ h => nomatch h), tp1, Chg.refl _ _⟩
 case round =>
  clear tp1; obtain ⟨k, m, AL, cL, es, L, rfl, hmk, rfl, rfl, HLL, HRW, HES, HSP, tp, hch⟩ := hrel; have hwr := hch.size; have o_bw := hch.own o_b1 (by omega); have HX := Lib.hid (SpnsO.chg HX1.out hch)
  by_cases hk : 0 < k
  ·skip
   obtain ⟨k, rfl⟩ : ∃ x, k = x + 1 := ⟨k - 1, by omega⟩; have dk : decide ((0 : Int) < ((k + 1 : Nat) : Int)) = true := decide_eq_true (by omega); have dkn : decide (0 < k + 1) = true := decide_eq_true (by omega)
   go_upto_region 5 with (fail)
   clear dk dkn; have htp := hM.text_pos; obtain ⟨bt, ot, _, rfl, -, -, -, -, -, -, -⟩ := SpnsO.get HX.out htp; obtain ⟨B9, hB9⟩ : ∃ B9, B9 = wr.heap.size := ⟨_, rfl⟩; have HB9 := Lib.hid hB9; have hs9 : B9 <= wr.heap.size := Nat.le_of_eq hB9; clear hB9; have kc := o_bw.c2; have ngc : ¬ (B3 = p \/ B9 <= B3) := by have := HB9.out; omega
   have HXF : Hid (SpnsO (fun k => k = p \/ B9 <= k) wr.drew (.slice (some ⟨bt, ot, none⟩) C.texts.length cx) C.texts) := HB9.out ▸ (SpnsO.chg ((EO.fresh HX.out).mono fun _ _ _ ⟨m, e, h1, h2, h3, h4⟩ => ⟨m, e, h1, h2, h3, EO.fresh h4⟩) (Chg.refl _ _).drew); have htl : C.texts.length <= 1000000 := by have := hM.texts.few; omega
   have hB99 : B <= B9 := by have := HB9.out; omega
   refine wp_reg_m (fun a b => Chg (fun k => k = p \/ B9 <= k) a b) (fun L u w8 => XM T B p B9 C (L 9) (L 10) (u 9) w8) ((fun a => Chg.refl _ a)) ((fun _ _ _ h h' => h.trans h')) [some 23, some 24, some 25, some 26, some 27, some 28, some 29, some 30, some 31, some 11, none] [isV ?v1_0, isV (.slice (some ⟨bt, ot, none⟩) C.texts.length cx), isV ?v1_2, isV ?v1_3, isV (.slice (some ⟨bt, ot, none⟩) C.texts.length cx), isV ?v1_5, (fun v _ => ∃ r : Nat, v = .int .i64 (r : Int) /\ r < C.texts.length), (fun v _ => ∃ r : Nat, r < C.texts.length /\ v = .pointer (some ⟨bt, ot + r * 4, none⟩)), (fun v _ => ∃ (t : Spn) (A : Option Addr) (c : Nat), t ∈ C.texts /\ v = .agg #[.string t.name, .int .i64 t.lo, .int .i64 t.hi, .slice A t.keys.length c]), (fun _ _ => True), anyV] rfl (by kernel_rfl) rfl rfl ?n1 ?k1 ⟨?s1_0, ?s1_1, ?s1_2, ?s1_3, ?s1_4, ?s1_5, ?s1_6, ?s1_7, ?s1_8, ?s1_9, ?s1_10, trivial⟩ ?p1
   case s1_0 | s1_3 =>
    intro l u t w T L D V O M K k; have o5 := O 5 _ (show List.contains _ _ = false from by kernel_rfl) rfl; clear V O; clear L D; go_simp
    (refine k _ _ ((fun a => Chg.refl _ a) w) ?_ M; exact rfl)
   case s1_1 =>
    intro L9 u9 t9 w9 hT9 hL9 hD9 hV9 hO9 hM9 K9 hK9; have p9_0 : t9[23]? = some ?v1_0 := hV9.m 0 23 rfl rfl (by kernel_rfl) rfl; clear hV9 hO9; have d9 := hT9.cell (w := wr.drew) kc ngc; go_simp; exact hK9 _ _ (Chg.refl _ w9) rfl hM9
   case s1_2 =>
    intro l u t w T L D V O M K k; have o0 := O 0 _ (show List.contains _ _ = false from by kernel_rfl) rfl; clear V O; clear L D; go_simp
    (refine k _ _ ((fun a => Chg.refl _ a) w) ?_ M; exact rfl)
   case s1_4 =>
    intro L9 u9 t9 w9 hT9 hL9 hD9 hV9 hO9 hM9 K9 hK9; have p9_3 : t9[26]? = some ?v1_3 := hV9.m 3 26 rfl rfl (by kernel_rfl) rfl; clear hV9 hO9; have d9 := hT9.cell (w := wr.drew) kc ngc; go_simp; exact hK9 _ _ (Chg.refl _ w9) rfl hM9
   case s1_5 =>
    intro l u t w T L D V O M K k; have p4 : t[27]? = some ((.slice (some ⟨bt, ot, none⟩) C.texts.length cx)) := V.m 4 27 rfl rfl (by kernel_rfl) rfl; clear V O; clear L D; go_simp
    (refine k _ _ ((fun a => Chg.refl _ a) w) ?_ M; exact rfl)
   case s1_6 =>
    intro L9 u9 t9 w9 hT9 hL9 hD9 hV9 hO9 hM9 K9 hK9; have p9_2 : t9[25]? = some ?v1_2 := hV9.m 2 25 rfl rfl (by kernel_rfl) rfl; have p9_5 : t9[28]? = some ?v1_5 := hV9.m 5 28 rfl rfl (by kernel_rfl) rfl; clear hV9 hO9; go_simp; refine (next9 T B p C.texts.length _ rfl _ hM9.tp (by omega) (by omega)).mono ?_; rintro _ w8 ⟨r9, rfl, hr9, htp9, hc9'⟩; exact hK9 _ _ (hc9'.mono fun k _ e => .inl e) ⟨r9, rfl, hr9⟩ (hM9.next hc9' htp9)
   case s1_7 =>
    intro l u t w T L D V O M K k; have p9_1 : t[24]? = some ((.slice (some ⟨bt, ot, none⟩) C.texts.length cx)) := V.m 1 24 rfl rfl (by kernel_rfl) rfl; obtain ⟨x9_6, p9_6, q9_6⟩ := V 6 29 rfl rfl (of_decide_eq_true (by kernel_rfl)); obtain ⟨q9_6, e9_6⟩ := q9_6; replace q9_6 : ((fun v _ => ∃ r : Nat, v = .int .i64 (r : Int) /\ r < C.texts.length)) x9_6 w := q9_6; clear V O; clear e9_6; obtain ⟨r9, rfl, hr9⟩ := q9_6; have i91 : ((r9 : Nat) : Int) < (C.texts.length : Int) := by omega
    have i92 : decide (((r9 : Nat) : Int) < (C.texts.length : Int)) = true := decide_eq_true i91; go_simp; exact k _ _ (Chg.refl _ w) ⟨r9, hr9, rfl⟩ M
   case s1_8 =>
    intro l u t w T L D V O M K k; obtain ⟨x9_7, p9_7, q9_7⟩ := V 7 30 rfl rfl (of_decide_eq_true (by kernel_rfl)); obtain ⟨q9_7, e9_7⟩ := q9_7; replace q9_7 : ((fun v _ => ∃ r : Nat, r < C.texts.length /\ v = .pointer (some ⟨bt, ot + r * 4, none⟩))) x9_7 w := q9_7; clear V O; clear e9_7; obtain ⟨r9, hr9, rfl⟩ := q9_7; obtain ⟨b9, o9, m9, eA, -, d90, d91, d92, d93, hp9, -, -, -⟩ := SpnsO.get (SpnsO.chg HXF.out T) hr9; obtain ⟨Am9, cm9, rfl, -, -, -⟩ := EO.form hp9; clear hp9
    injection eA with eA
    injection eA with eA1 eA2
    subst eA1 eA2; have ht9 := List.getElem_mem hr9; generalize C.texts[r9] = tx9 at d90 d91 d92 d93 ht9; go_simp; exact k _ _ (Chg.refl _ w) ⟨tx9, Am9, cm9, ht9, rfl⟩ M
   case s1_9 =>
    intro L9 u9 t9 w9 hT9 hL9 hD9 hV9 hO9 hM9 K9 hK9; clear hV9 hO9; have l10 := bool_f hM9.h hL9; have M9 : Hid (XM T B p B9 C true (L9 10) (.pointer (some ⟨w9.heap.size, 0, none⟩)) (w9.alloc (.cells #[.string ⟨#[]⟩, .int .i64 0, .int .i64 0, .slice none 0 0] 89))) := ⟨hM9.tp.below ((Below.refl _ _).alloc (Nat.le_refl _) _), fun _ => rfl, fun _ => ⟨_, rfl, hM9.hs, fun _ => Own.new _ _ _, fun h => by rw [l10] at h; cases h⟩, Nat.le_trans hM9.hs (by simp), hM9.hB⟩; clear hM9 hL9 hD9 l10; go_simp; exact hK9 _ _ ((Chg.refl _ w9).alloc _) trivial M9.out
   case s1_10 =>
    intro L9 u9 t9 w9 hT9 hL9 hD9 hV9 hO9 hM9 K9 hK9; obtain ⟨x9_8, p9_8, q9_8⟩ := hV9.g 8 31 rfl rfl (by kernel_rfl); obtain ⟨q9_8, e9_8⟩ := q9_8; replace q9_8 : ((fun v _ => ∃ (t : Spn) (A : Option Addr) (c : Nat), t ∈ C.texts /\ v = .agg #[.string t.name, .int .i64 t.lo, .int .i64 t.hi, .slice A t.keys.length c])) x9_8 w9 := q9_8; obtain ⟨x9_9, p9_9, q9_9⟩ := hV9.g 9 11 rfl rfl (by kernel_rfl); obtain ⟨q9_9, e9_9⟩ := q9_9; replace q9_9 : ((fun _ _ => True)) x9_9 w9 := q9_9; clear hV9 hO9; clear e9_8; obtain ⟨tx9, Am9, cm9, ht9, rfl⟩ := q9_8; obtain ⟨g9, eg9, h91, h92, -⟩ := hM9.a (hD9 9 rfl); rw [eg9] at e9_9; subst e9_9; have CB9 : Chg (fun k => B <= k) w9 w9 := Chg.refl _ _; have hb9 : B <= g9 := by omega
    have o9 := h92 hL9; have k90 := o9.cell 0; have k91 := o9.cell 1; have k92 := o9.cell 2; have k93 := o9.cell 3; obtain ⟨f90, f91, f92, f93⟩ := o9.frozens4; have o8 := (((o9.set_ 0 (.string tx9.name)).set_ 1 (.int .i64 tx9.lo)).set_ 2 (.int .i64 tx9.hi)).set_ 3 (.slice Am9 tx9.keys.length cm9); have c9 : Chg (fun k => k = p \/ B9 <= k) w9 ((((w9.setCell ⟨g9, 0, none⟩ (.string tx9.name)).setCell ⟨g9, 1, none⟩ (.int .i64 tx9.lo)).setCell ⟨g9, 2, none⟩ (.int .i64 tx9.hi)).setCell ⟨g9, 3, none⟩ (.slice Am9 tx9.keys.length cm9)) := ((((Chg.refl _ w9).setCell (p := ⟨g9, 0, none⟩) (.inr h91) _).setCell (p := ⟨g9, 1, none⟩) (.inr h91) _).setCell (p := ⟨g9, 2, none⟩) (.inr h91) _).setCell (p := ⟨g9, 3, none⟩) (.inr h91) _; have M9 : Hid (XM T B p B9 C (L9 9) true (u9 9) ((((w9.setCell ⟨g9, 0, none⟩ (.string tx9.name)).setCell ⟨g9, 1, none⟩ (.int .i64 tx9.lo)).setCell ⟨g9, 2, none⟩ (.int .i64 tx9.hi)).setCell ⟨g9, 3, none⟩ (.slice Am9 tx9.keys.length cm9))) := ⟨hM9.tp.keep ((((CB9.setCell (p := ⟨g9, 0, none⟩) hb9 _).setCell (p := ⟨g9, 1, none⟩) hb9 _).setCell (p := ⟨g9, 2, none⟩) hb9 _).setCell (p := ⟨g9, 3, none⟩) hb9 _), fun _ => hD9 9 rfl, fun _ => ⟨g9, eg9, h91, (fun h => nomatch h), fun _ => ⟨tx9, Am9, cm9, ht9, o8⟩⟩, Nat.le_trans hM9.hs c9.size, hM9.hB⟩
    clear hM9 hL9 hD9 o9 o8 h92; go_simp; exact hK9 undef _ c9 trivial M9.out
   case n1 =>
    intro L9 u9 h9; have h1 := h9 9 (by decide); have h2 := h9 10 (by decide)
    show XM T B p B9 C (L9 9) (L9 10) _ _
    rw [h1, h2]; exact ⟨tp.drew, (fun h => nomatch h), (fun h => nomatch h), hs9, hB99⟩
   case k1 =>
    intro i9 v9 w9 x9 h9 g9
    match i9, h9 with
    | 0, h9 => exact h9
    | 1, h9 => exact h9
    | 2, h9 => exact h9
    | 3, h9 => exact h9
    | 4, h9 => exact h9
    | 5, h9 => exact h9
    | 6, h9 => exact h9
    | 7, h9 => exact h9
    | 8, h9 => exact h9
    | 9, h9 => (replace h9 : (fun _ _ => True) v9 w9 := h9); exact trivial
    | 10, h9 => exact h9
    | _ + 11, h9 => exact trivial
   intro u9 w9 hE9 hM9 hu9; have r9_0 : u9 0 = ?v1_0 := hu9 0 (by decide); have r9_1 : u9 1 = (.slice (some ⟨bt, ot, none⟩) C.texts.length cx) := hu9 1 (by decide); have r9_2 : u9 2 = ?v1_2 := hu9 2 (by decide); have r9_3 : u9 3 = ?v1_3 := hu9 3 (by decide); have r9_4 : u9 4 = (.slice (some ⟨bt, ot, none⟩) C.texts.length cx) := hu9 4 (by decide); have r9_5 : u9 5 = ?v1_5 := hu9 5 (by decide); have r9_6 : (fun v _ => ∃ r : Nat, v = .int .i64 (r : Int) /\ r < C.texts.length) (u9 6) w9 := hu9 6 (by decide); have r9_7 : (fun v _ => ∃ r : Nat, r < C.texts.length /\ v = .pointer (some ⟨bt, ot + r * 4, none⟩)) (u9 7) w9 := hu9 7 (by decide); have r9_8 : (fun v _ => ∃ (t : Spn) (A : Option Addr) (c : Nat), t ∈ C.texts /\ v = .agg #[.string t.name, .int .i64 t.lo, .int .i64 t.hi, .slice A t.keys.length c]) (u9 8) w9 := hu9 8 (by decide); have r9_9 : (fun _ _ => True) (u9 9) w9 := hu9 9 (by decide)
   clear hu9
   simp only [putAll, Act.put, List.setIfInBounds_toArray, List.set_cons_succ, List.set_cons_zero, List.getD_cons_succ, List.getD_cons_zero, Nat.reduceAdd, Nat.zero_add]
   simp only [r9_0, r9_1, r9_2, r9_3, r9_4, r9_5]
   clear r9_0 r9_1 r9_2 r9_3 r9_4 r9_5; obtain ⟨gx, e9, hgx, -, hxx⟩ := hM9.a rfl; obtain ⟨tx, Am, cm, htx, o_x⟩ := hxx rfl; have tp5 := hM9.tp
   simp only [e9]
   clear hM9 r9_6 r9_7 r9_8 r9_9 e9 kc ngc HXF; replace hE9 : Chg (fun k => k = p \/ B9 <= k) wr w9 := (Chg.refl _ wr).drew.trans hE9; have hrg := (hM.texts.range).2 tx htx; have hfew2 := hM.few; have hw5 := hE9.size; replace hch : Chg (fun k => k = p) w1 w9 := (hch.mono (T := fun k => k = p \/ B9 <= k) fun k _ e => .inl e).trans hE9 |>.mono fun k hk e => e.elim id fun e => by have := HB9.out; omega
   replace HRW := Lib.hid (ownsRow_chg HRW.out hE9 fun b hb e => by have := (HRW.out.lt b hb); have := HB9.out; omega); clear hE9 tp; obtain ⟨w5, rfl⟩ : ∃ x, x = w9 := ⟨_, rfl⟩; obtain ⟨lo, hlo⟩ : ∃ n : Nat, tx.lo = (n : Int) := ⟨tx.lo.toNat, by omega⟩; obtain ⟨hi, hhi⟩ : ∃ n : Nat, tx.hi = (n : Int) := ⟨tx.hi.toNat, by omega⟩; have HT := Lib.hid (⟨tx, htx, hlo, hhi⟩ : ∃ t, t ∈ C.texts /\ t.lo = (lo : Int) /\ t.hi = (hi : Int)); rw [hlo, hhi] at o_x hrg; generalize tx.name = nm at o_x; generalize tx.keys.length = kl at o_x; clear htx hlo hhi; have k0 := o_x.c1; have k1 := o_x.c2; have ngx : ¬ (gx = p) := by have := HB9.out; omega
   have zl : IntKind.i64.wrap ((hi : Int) - (lo : Int)) = ((hi - lo : Nat) : Int) := (IntWalk.i64_in _ (by omega)).trans (by omega)
   go_upto_region 6 with (fail)
   refine wp_reg_m (fun a b => Chg (fun k => k = p) a b) (fun L u w8 => TP T B w8 p) ((fun a => Chg.refl _ a)) ((fun _ _ _ h h' => h.trans h')) [some 32, some 33, some 34, some 35, some 36, some 37, some 38, some 39, some 40, some 41, some 12] [isV ?v2_0, isV ?v2_1, isV ?v2_2, isV ?v2_3, isV ?v2_4, isV ?v2_5, isV ?v2_6, isV ?v2_7, (fun v _ => ∃ r : Nat, v = .int .i64 (r : Int) /\ r < hi - lo), (fun v _ => ∃ b : Nat, v = .int .i64 (b : Int) /\ lo <= b /\ b < hi), (fun v _ => ∃ b : Nat, v = .int .i64 (b : Int) /\ lo <= b /\ b < hi)] rfl (by kernel_rfl) rfl rfl ?n2 ?k2 ⟨?s2_0, ?s2_1, ?s2_2, ?s2_3, ?s2_4, ?s2_5, ?s2_6, ?s2_7, ?s2_8, ?s2_9, ?s2_10, trivial⟩ ?p2
   case s2_0 | s2_3 | s2_5 =>
    intro l u t w T L D V O M K k; have o11 := O 11 _ (show List.contains _ _ = false from by kernel_rfl) rfl; clear V O; clear L D; go_simp
    (refine k _ _ ((fun a => Chg.refl _ a) w) ?_ M; exact rfl)
   case s2_1 =>
    intro L9 u9 t9 w9 hT9 hL9 hD9 hV9 hO9 hM9 K9 hK9; have p9_0 : t9[32]? = some ?v2_0 := hV9.m 0 32 rfl rfl (by kernel_rfl) rfl; clear hV9 hO9; have d9 := hT9.cell (w := w5.drew) k0 ngx; have d8 := hT9.cell (w := w5.drew) k1 ngx; go_simp; refine hK9 _ _ (Chg.refl _ w9) ?_ hM9; exact rfl
   case s2_2 =>
    intro l u t w T L D V O M K k; have o0 := O 0 _ (show List.contains _ _ = false from by kernel_rfl) rfl; clear V O; clear L D; go_simp
    (refine k _ _ ((fun a => Chg.refl _ a) w) ?_ M; exact rfl)
   case s2_4 =>
    intro L9 u9 t9 w9 hT9 hL9 hD9 hV9 hO9 hM9 K9 hK9; have p9_3 : t9[35]? = some ?v2_3 := hV9.m 3 35 rfl rfl (by kernel_rfl) rfl; clear hV9 hO9; have d9 := hT9.cell (w := w5.drew) k0 ngx; have d8 := hT9.cell (w := w5.drew) k1 ngx; go_simp; refine hK9 _ _ (Chg.refl _ w9) ?_ hM9; exact rfl
   case s2_6 =>
    intro L9 u9 t9 w9 hT9 hL9 hD9 hV9 hO9 hM9 K9 hK9; have p9_5 : t9[37]? = some ?v2_5 := hV9.m 5 37 rfl rfl (by kernel_rfl) rfl; clear hV9 hO9; have d9 := hT9.cell (w := w5.drew) k0 ngx; have d8 := hT9.cell (w := w5.drew) k1 ngx; go_simp; refine hK9 _ _ (Chg.refl _ w9) ?_ hM9; exact rfl
   case s2_7 =>
    intro l u t w T L D V O M K k; have p4 : t[36]? = some ?v2_4 := V.m 4 36 rfl rfl (by kernel_rfl) rfl; have p6 : t[38]? = some ?v2_6 := V.m 6 38 rfl rfl (by kernel_rfl) rfl; clear V O; clear L D; go_simp
    (refine k _ _ ((fun a => Chg.refl _ a) w) ?_ M; exact rfl)
   case s2_8 =>
    intro L9 u9 t9 w9 hT9 hL9 hD9 hV9 hO9 hM9 K9 hK9; have p9_2 : t9[34]? = some ?v2_2 := hV9.m 2 34 rfl rfl (by kernel_rfl) rfl; have p9_7 : t9[39]? = some ?v2_7 := hV9.m 7 39 rfl rfl (by kernel_rfl) rfl; clear hV9 hO9; go_simp; refine (next9 T B p (hi - lo) _ rfl _ hM9 (by omega) (by omega)).mono ?_; rintro _ w8 ⟨r9, rfl, hr9, htp9, hc9'⟩; exact hK9 _ _ hc9' ⟨r9, rfl, hr9⟩ htp9
   case s2_9 =>
    intro l u t w T L D V O M K k; have p9_1 : t[33]? = some ?v2_1 := V.m 1 33 rfl rfl (by kernel_rfl) rfl; obtain ⟨x9_8, p9_8, q9_8⟩ := V 8 40 rfl rfl (of_decide_eq_true (by kernel_rfl)); obtain ⟨q9_8, e9_8⟩ := q9_8; replace q9_8 : ((fun v _ => ∃ r : Nat, v = .int .i64 (r : Int) /\ r < hi - lo)) x9_8 w := q9_8; clear V O; clear e9_8; obtain ⟨r9, rfl, hr9⟩ := q9_8; have z9 : IntKind.i64.wrap ((lo : Int) + (r9 : Int)) = ((lo + r9 : Nat) : Int) := (IntWalk.i64_in _ (by omega)).trans (by omega); go_simp; exact k _ _ (Chg.refl _ w) ⟨lo + r9, rfl, by omega, by omega⟩ M
   case s2_10 =>
    intro l u t w T L D V O M K k; obtain ⟨x9, p9, q9⟩ := V 9 41 rfl rfl (of_decide_eq_true (by kernel_rfl)); obtain ⟨q9, e9⟩ := q9; replace q9 : ((fun v _ => ∃ b : Nat, v = .int .i64 (b : Int) /\ lo <= b /\ b < hi)) x9 w := q9; clear V O; clear e9; go_simp; exact k _ _ (Chg.refl _ w) q9 M
   case n2 =>
    intro L9 u9 h9; exact tp5.drew
   case k2 =>
    intro i9 v9 w9 x9 h9 g9
    match i9, h9 with
    | 0, h9 => exact h9
    | 1, h9 => exact h9
    | 2, h9 => exact h9
    | 3, h9 => exact h9
    | 4, h9 => exact h9
    | 5, h9 => exact h9
    | 6, h9 => exact h9
    | 7, h9 => exact h9
    | 8, h9 => exact h9
    | 9, h9 => exact h9
    | 10, h9 => exact h9
    | _ + 11, h9 => exact trivial
   intro u9 w9 hE9 hM9 hu9; have r9_0 : u9 0 = ?v2_0 := hu9 0 (by decide); have r9_1 : u9 1 = ?v2_1 := hu9 1 (by decide); have r9_2 : u9 2 = ?v2_2 := hu9 2 (by decide); have r9_3 : u9 3 = ?v2_3 := hu9 3 (by decide); have r9_4 : u9 4 = ?v2_4 := hu9 4 (by decide); have r9_5 : u9 5 = ?v2_5 := hu9 5 (by decide); have r9_6 : u9 6 = ?v2_6 := hu9 6 (by decide); have r9_7 : u9 7 = ?v2_7 := hu9 7 (by decide); have r9_8 : (fun v _ => ∃ r : Nat, v = .int .i64 (r : Int) /\ r < hi - lo) (u9 8) w9 := hu9 8 (by decide); have r9_9 : (fun v _ => ∃ b : Nat, v = .int .i64 (b : Int) /\ lo <= b /\ b < hi) (u9 9) w9 := hu9 9 (by decide); have r9_10 : (fun v _ => ∃ b : Nat, v = .int .i64 (b : Int) /\ lo <= b /\ b < hi) (u9 10) w9 := hu9 10 (by decide); clear hu9
   simp only [putAll, Act.put, List.setIfInBounds_toArray, List.set_cons_succ, List.set_cons_zero, List.getD_cons_succ, List.getD_cons_zero, Nat.reduceAdd, Nat.zero_add]
   simp only [r9_0, r9_1, r9_2, r9_3, r9_4, r9_5, r9_6, r9_7]
   clear r9_0 r9_1 r9_2 r9_3 r9_4 r9_5 r9_6 r9_7; obtain ⟨b, e10, hb1, hb2⟩ := r9_10; have tp6 := hM9
   simp only [e10]
   clear r9_8 r9_9 e10 hM9 tp5 k0 k1 zl; replace hE9 : Chg (fun k => k = p) w5 w9 := (Chg.refl _ w5).drew.trans hE9; replace HRW := Lib.hid (ownsRow_chg HRW.out hE9 fun b hb e => by have := (HRW.out.lt b hb); have := HB9.out; omega); replace o_x := hE9.own o_x ngx; replace hch := hch.trans hE9; have hw6 := hE9.size; obtain ⟨w6, rfl⟩ : ∃ x, x = w9 := ⟨_, rfl⟩; clear hE9; have k1 := o_x.c2; have z1 : IntKind.i64.wrap ((b : Int) + 1) = ((b + 1 : Nat) : Int) := (IntWalk.i64_in _ (by omega)).trans (by omega); have z2 : IntKind.i64.wrap ((hi : Int) - (b : Int)) = ((hi - b : Nat) : Int) := (IntWalk.i64_in _ (by omega)).trans (by omega)
   go_upto_region 7 with (fail)
   go_wp2_with fail
   refine (next9 T B p (hi - b) _ rfl _ tp6 (by omega) (by omega)).mono ?_; rintro e w7 ⟨r2, rfl, hr2, tp7, hc7⟩; have hw7 := hc7.size; replace HRW := Lib.hid (ownsRow_chg HRW.out hc7 fun b hb e => by have := (HRW.out.lt b hb); have := own_lt HRW.out b hb; omega); replace hch := hch.trans hc7; clear hc7 tp6 k1; obtain ⟨E, hE⟩ : ∃ E, E = b + 1 + r2 := ⟨_, rfl⟩; have zE : IntKind.i64.wrap ((b : Int) + 1 + (r2 : Int)) = (E : Int) := (IntWalk.i64_in _ (by omega)).trans (by omega); have hE1 : b < E := by omega
   have hE2 : E <= hi := by omega
   clear hE hr2; have HSN : Hid (SpanIn C ((b : Int), (E : Int))) := by
    obtain ⟨t, h1, h2, h3⟩ := HT.out; exact ⟨t, h1, by show t.lo <= (b : Int); omega, by show (b : Int) < (E : Int); omega, by show (E : Int) <= t.hi; omega⟩
   obtain ⟨o_m, hbm⟩ := new1 w7 [.int .i64 (b : Int), .int .i64 (E : Int), .slice none 0 0] 83; have hsm : (w7.alloc (.cells #[.int .i64 (b : Int), .int .i64 (E : Int), .slice none 0 0] 83)).heap.size = w7.heap.size + 1 := by simp
   have tp8 := tp7.below hbm; replace HRW := Lib.hid (ownsRow_below HRW.out hbm); replace hch := hch.trans (Chg.grow9 (S := fun k => k = p) hbm)
   go_wp2_with fail
   clear z1 z2 zE; generalize (w7.alloc (.cells #[.int .i64 (b : Int), .int .i64 (E : Int), .slice none 0 0] 83)) = w8 at o_m hbm hsm tp8 HRW hch |-; generalize w7.heap.size = gm at o_m hsm hw7 |-; clear hbm tp7 o_x
   go_loopg [14] 1 (fun q v wr => q = 1 /\ v = .int .i64 0 /\ wr = w8)
   case atStart => exact ⟨rfl, rfl, rfl⟩
   case round =>
    obtain ⟨rfl, rfl, rfl⟩ := hrel; obtain ⟨m0, m1, m2⟩ := o_m.cells3; obtain ⟨i1, hi1, hy0, hy1, hy2⟩ := info_parts mat_info; obtain ⟨o_n, hbn⟩ := new1 wr [.int .i64 (b : Int), .int .i64 (E : Int), .slice none 0 0] 83; obtain ⟨v9, x9, hap, hrow, hgr, -⟩ := run_append_src (P := Tryz.prog) (wr.alloc (.cells #[.int .i64 (b : Int), .int .i64 (E : Int), .slice none 0 0] 83)) B4 80 80 83 i1 _ 3 40 Tryz.underlying80 hi1 hy0 hy1 hy2 rfl (by decide) (.slice AL m cL) m es.flatten (ownsRow_below HRW.out hbn) (some ⟨wr.heap.size, 0, none⟩) 1 1 [.int .i64 (b : Int), .int .i64 (E : Int), .slice none 0 0] rfl o_n.rd0 (by intro u hu; simp at hu; rcases hu with rfl | rfl | rfl <;> rfl) (by unfold maxLen; omega) (by omega) (by have := HB4.out; rw [size1]; omega); have hcB : Chg (fun k => B4 <= k) (wr.alloc (.cells #[.int .i64 (b : Int), .int .i64 (E : Int), .slice none 0 0] 83)) x9 := ⟨hgr.os, hgr.tape, hgr.output, hgr.size, fun k hk hn => hgr.block k hk fun e => hn (own_lt HRW.out k e.symm)⟩
    have tp9 : TP T B x9 p := (tp8.below hbn).keep (hcB.mono fun k _ e => by omega); have hch9 : Chg (fun k => k = p) w1 x9 := ((hch.trans (Chg.grow9 hbn)).mono (T := fun k => k = p \/ w1.heap.size <= k) fun k _ e => .inl e).trans (hcB.mono fun k _ e => .inr (by have := HB4.out; omega)) |>.mono fun k hk e => e.elim id fun e => by omega
    have HE2 : Hid (Els 3 EMat (es ++ [[.int .i64 (b : Int), .int .i64 (E : Int), .slice none 0 0]]) (L ++ [((b : Int), (E : Int))])) := HES.out.app (Els.one rfl ⟨rfl, by simp only [I64]; omega, by simp only [I64]; omega⟩); obtain ⟨A9, c9, rfl, -, -⟩ := own_form hrow; have HR2 : Hid (x9.ownsRow B4 83 3 (.slice A9 (m + 1) c9) (m + 1) (es ++ [([.int .i64 (b : Int), .int .i64 (E : Int), .slice none 0 0] : List Value)]).flatten) := by
     rw [List.flatten_append, List.flatten_cons, List.flatten_nil, List.append_nil]; exact hrow
    have HL2 : Hid ((L ++ [((b : Int), (E : Int))]).length = m + 1) := by show _ = _; rw [List.length_append, HLL.out]; rfl
    have HS2 : Hid (∀ q ∈ L ++ [((b : Int), (E : Int))], SpanIn C q) := fun q hq => (List.mem_append.1 hq).elim (HSP.out q) fun h => by rw [List.mem_singleton.1 h]; exact HSN.out
    clear hrow hgr hbn o_n hcB hi1 hy0 hy1 hy2; have zk : IntKind.i64.wrap (((k + 1 : Nat) : Int) - 1) = (k : Int) := (IntWalk.i64_in _ (by omega)).trans (by omega); have zk2 : IntKind.i64.wrap ((k : Int) + 1 - 1) = (k : Int) := (IntWalk.i64_in _ (by omega)).trans (by omega); rw [hsm] at hap
    go_upto_region 4 with (at_builtin; refine wpList_append_eq rfl (.tmp 87) (.tmp 89) 80 rfl _ _ _ rfl rfl hap ?_)
    clear hap m0 m1 m2
    go_wp2
    go_roundg (k + 1)
    case measure => omega
    case rel => exact ⟨k, m + 1, A9, c9, _, _, rfl, by omega, rfl, rfl, HL2, HR2, HE2, HS2, tp9, hch9⟩
  ·skip
   have dk : decide ((0 : Int) < (k : Int)) = false := decide_eq_false (by omega); have dkn : decide (0 < k) = false := decide_eq_false (by omega)
   go_wp2
   go_ret
   exact ⟨⟨_, L, rfl, ⟨es, HES.out, HLL.out.symm ▸ SO.of_own HRW.out fun k hk e => by have := HB3.out; omega⟩, by rw [HLL.out]; omega, HSP.out⟩, tp, hcw.trans hch⟩
theorem spans_made {T : Option Addr × List Int × Nat} {B p : Nat} (w : World) (tp : TP T B w p) {a t x r n h s : Value} {C : Cor} (q : CorC (fun k => k = p) w a t x r n h s C) {mm : Nat} (hM : MadeC mm C) (hmm : mm <= 1000) (most : Nat) (hmost : most <= 100) :
  Calls Tryz.prog 14 #[.pointer (some ⟨p, 0, none⟩), .agg #[a, t, x, r, n, h, s], .int .i64 (most : Int)] w fun e w' => (∃ v l, e = .returned v /\ SpansO (fun k => k < w.heap.size) w' v l /\ l.length <= most /\ ∀ q ∈ l, SpanIn C q) /\ TP T B w' p /\ Chg (fun k => k = p) w w' := by
 have hp := tp.lt; have hBw := tp.size; obtain ⟨o_b, hbw⟩ := new1 w [a, t, x, r, n, h, s] 30; have tp0 := tp.below hbw; have HQ := Lib.hid (q.below hbw); have hsz : (w.alloc (.cells #[a, t, x, r, n, h, s] 30)).heap.size = w.heap.size + 1 := by simp
 go_enter Tryz.func14, Tryz.ntmps14
 go_upto_region 2 with (fail)
 generalize (w.alloc (.cells #[a, t, x, r, n, h, s] 30)) = wb at o_b hbw tp0 hsz HQ |-; obtain ⟨B3, hB3⟩ : ∃ B3, B3 = w.heap.size := ⟨_, rfl⟩; rw [<- hB3] at o_b hbw hsz |-; have HB3 := Lib.hid hB3; have hBB3 : B <= B3 := by omega
 have hcw : Chg (fun k => k = p) w wb := Chg.of_below (HB3.out ▸ hbw) fun k h1 h2 => by omega
 clear hB3 tp hbw q; obtain ⟨k0, k1, k2, k3, k4, k5, k6⟩ := o_b.cells7
 go_wp2_with fail
 clear k0 k1 k2 k3 k4 k5 k6; refine (matches_made wb tp0 HQ.out hM hmm most hmost).mono ?_; rintro e w1 ⟨⟨v, l, rfl, hl, hlen, hin⟩, tp1, hc1⟩; have hw1 := hc1.size; replace hcw := hcw.trans hc1; clear HQ tp0 hc1 o_b; obtain ⟨Am, cm, rfl, u1, u2, hl⟩ := EO.form hl; unfold maxLen at u2; have HIN := Lib.hid hin; clear hin
 go_wp2_with fail
 obtain ⟨B4, hB4⟩ : ∃ B4, B4 = w1.heap.size := ⟨_, rfl⟩; have HB4 := Lib.hid hB4; have hB34 : B3 < B4 := by omega
 clear hB4
 go_loopg [7, 15] (l.length + 1) (fun q v7 v15 wr => ∃ (i : Nat) (AL : Option Addr) (cL : Nat) (es : List (List Value)), q = l.length + 1 - i /\ i <= l.length /\ v15 = .int .i64 (i : Int) /\ v7 = .slice AL i cL /\ Hid (wr.ownsRow B4 85 2 (.slice AL i cL) i es.flatten) /\ Hid (Els 2 ESpan es (l.take i)) /\ Below B4 w1 wr)
 case atStart => exact ⟨0, none, 0, [], rfl, Nat.zero_le _, rfl, rfl, World.ownsRow_nil _ _ _ _, Els.nil _ _, Below.refl _ _⟩
 case round =>
  obtain ⟨i, AL, cL, es, rfl, hi, rfl, rfl, HRW, HES, hbr⟩ := hrel; have hwr := hbr.size
  by_cases hlt : i < l.length
  ·skip
   have hl' := EO.chg' hl (S := fun k => k < wb.heap.size) (Chg.grow9 (by have := HB4.out; exact this ▸ hbr)); obtain ⟨b, off, e, rfl, -, -, ⟨rfl, z1, z2⟩, hc⟩ := EO.get hl' (by decide) hlt; obtain ⟨Q, hQ⟩ : ∃ Q, Q = l[i] := ⟨_, rfl⟩; rw [<- hQ] at hc z1 z2; have HT : Hid (l.take (i + 1) = l.take i ++ [Q]) := by show _ = _; rw [List.take_add_one, List.getElem?_eq_getElem hlt, hQ]; rfl
   clear hQ hl'; obtain ⟨q1, q2⟩ := Q; have k0 : wr.cell? ⟨b, off + i * 3, none⟩ = some (.int .i64 q1) := hc 0 _ rfl; have k1 : wr.cell? ⟨b, off + i * 3 + 1, none⟩ = some (.int .i64 q2) := hc 1 _ rfl; have k2 : wr.cell? ⟨b, off + i * 3 + 2, none⟩ = some (.slice none 0 0) := hc 2 _ rfl; clear hc; obtain ⟨i1, hi1, hy0, hy1, hy2⟩ := info_parts span_info; obtain ⟨o_m, o_n, hbn⟩ := new2 wr [.int .i64 q1, .int .i64 q2, .slice none 0 0] [.int .i64 q1, .int .i64 q2] 83 85; have hs2 : ((wr.alloc (.cells #[.int .i64 q1, .int .i64 q2, .slice none 0 0] 83)).alloc (.cells #[.int .i64 q1, .int .i64 q2] 85)).heap.size = wr.heap.size + 1 + 1 := by simp
   obtain ⟨v9, x9, hap, hrow, hgr, -⟩ := run_append_src (P := Tryz.prog) ((wr.alloc (.cells #[.int .i64 q1, .int .i64 q2, .slice none 0 0] 83)).alloc (.cells #[.int .i64 q1, .int .i64 q2] 85)) B4 42 42 85 i1 _ 2 16 Tryz.underlying42 hi1 hy0 hy1 hy2 rfl (by decide) (.slice AL i cL) i es.flatten (ownsRow_below HRW.out hbn) (some ⟨wr.heap.size + 1, 0, none⟩) 1 1 [.int .i64 q1, .int .i64 q2] rfl o_n.rd0 (by intro u hu; simp at hu; rcases hu with rfl | rfl <;> rfl) (by unfold maxLen; omega) (by omega) (by rw [hs2]; have := HB4.out; omega); have hb9 : Below B4 w1 x9 := (hbr.trans (hbn.mono (by have := HB4.out; omega))).trans ⟨hgr.os, hgr.tape, hgr.output, hgr.size, fun k hk => hgr.block k (by rw [hs2]; have := HB4.out; omega) fun e => by have := own_lt HRW.out k e.symm; omega⟩; obtain ⟨A9, c9, rfl, -, -⟩ := own_form hrow; have HR2 : Hid (x9.ownsRow B4 85 2 (.slice A9 (i + 1) c9) (i + 1) (es ++ [([.int .i64 q1, .int .i64 q2] : List Value)]).flatten) := by
    rw [List.flatten_append, List.flatten_cons, List.flatten_nil, List.append_nil]; exact hrow
   have HE2 : Hid (Els 2 ESpan (es ++ [[.int .i64 q1, .int .i64 q2]]) (l.take (i + 1))) := HT.out ▸ HES.out.app (Els.one rfl ⟨rfl, z1, z2⟩); clear hrow hgr hbn o_n hs2 hi1 hy0 hy1 hy2 z1 z2; obtain ⟨o_m1, -⟩ := new1 wr [.int .i64 q1, .int .i64 q2, .slice none 0 0] 83; have m0 := o_m1.c0; have m1 := o_m1.c1; clear o_m o_m1
   go_upto_region 6 with (at_builtin; refine wpList_append_eq rfl (.tmp 19) (.tmp 25) 42 rfl _ _ _ rfl rfl hap ?_)
   clear hap m0 m1 k0 k1 k2
   go_wp2
   go_roundg (l.length + 1 - (i + 1))
   case measure => omega
   case rel => exact ⟨i + 1, A9, c9, _, rfl, by omega, by go_num, rfl, HR2, HE2, hb9⟩
  ·skip
   have ei : i = l.length := by omega
   subst ei
   go_wp2
   go_ret
   refine ⟨⟨_, l, rfl, ⟨es, by have := HES.out; rwa [List.take_length] at this, SO.of_own HRW.out fun k hk e => by have := HB3.out; omega⟩, hlen, HIN.out⟩, tp1.keep (Chg.of_below hbr fun k h1 h2 => by have := HB4.out; omega), hcw.trans (Chg.of_below hbr fun k h1 h2 => by have := HB4.out; omega)⟩
end Go.Proofs.YtjimfbmegmnocaaGreatDoor
