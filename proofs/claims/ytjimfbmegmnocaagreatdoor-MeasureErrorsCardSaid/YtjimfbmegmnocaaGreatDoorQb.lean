/- Parts of the proof: Qb. No condition of its own. -/
import Derived.Test.YtjimfbmegmnocaaGreatDoorCnh
set_option linter.unusedSimpArgs false
set_option linter.unusedVariables false
set_option maxRecDepth 100000
set_option maxHeartbeats 4000000
namespace Go.Proofs.YtjimfbmegmnocaaGreatDoor
open Go.RowKit

structure AP (T : Option Addr × List Int × Nat) (B p B3 B9 : Nat) (E : TypeId) (size gc : Nat) (cs : List Value) (idx n : Nat) (xs : List Value) (v : Value) (X : List Value -> World -> Prop) (ll la ls : Bool) (va : Value) (w : World) : Prop where
 hsa : ls = true -> la = true
 hal : la = true -> ll = true
 tp : TP T B w p
 r0 : la = false -> w.ownsRow B3 E size v n xs
 r1 : la = true -> ∃ e, X e w /\ w.ownsRow B3 E size va (n + 1) (xs ++ e)
 c0 : ls = false -> Own w gc 30 cs
 c1 : ls = true -> Own w gc 30 (cs.set idx va)
 hB3 : B3 <= B9
 hs : B9 <= w.heap.size
 hg : gc < B3
 hBg : B <= gc
 hX : ∀ e w w', X e w -> Chg (fun k => k < B9) w w' -> X e w'
section
variable {T : Option Addr × List Int × Nat} {B p B3 B9 : Nat} {E : TypeId} {size gc : Nat} {cs : List Value} {idx n : Nat} {xs : List Value} {v : Value} {X : List Value -> World -> Prop} {ll la ls : Bool} {va : Value} {w w' : World}
theorem AP.start (tp : TP T B w p) (r0 : w.ownsRow B3 E size v n xs) (c0 : Own w gc 30 cs) (hB3 : B3 <= B9) (hs : B9 <= w.heap.size) (hg : gc < B3) (hBg : B <= gc) (hX : ∀ e w w', X e w -> Chg (fun k => k < B9) w w' -> X e w') (va : Value) : AP T B p B3 B9 E size gc cs idx n xs v X false false false va w :=
 ⟨(fun h => nomatch h), (fun h => nomatch h), tp, fun _ => r0, (fun h => nomatch h), fun _ => c0, (fun h => nomatch h), hB3, hs, hg, hBg, hX⟩
theorem AP.ls0 (h : AP T B p B3 B9 E size gc cs idx n xs v X ll la ls va w) (hl : la = false) : ls = false := by cases ls with | false => rfl | true => have := h.hsa rfl; rw [hl] at this; cases this
theorem AP.load (h : AP T B p B3 B9 E size gc cs idx n xs v X ll la ls va w) (hl : ll = false) : Own w gc 30 cs := by
 have h5 : la = false := by cases la with | false => rfl | true => have := h.hal rfl; rw [hl] at this; cases this
 exact h.c0 (h.ls0 h5)
theorem AP.seen (h : AP T B p B3 B9 E size gc cs idx n xs v X ll la ls va w) : AP T B p B3 B9 E size gc cs idx n xs v X true la ls va w :=
 ⟨h.hsa, fun _ => rfl, h.tp, h.r0, h.r1, h.c0, h.c1, h.hB3, h.hs, h.hg, h.hBg, h.hX⟩
theorem AP.grow (h : AP T B p B3 B9 E size gc cs idx n xs v X ll la ls va w) (hb : Below w.heap.size w w') : AP T B p B3 B9 E size gc cs idx n xs v X ll la ls va w' :=
 ⟨h.hsa, h.hal, h.tp.below hb, fun a => ownsRow_below (h.r0 a) hb, fun a => let ⟨e, h1, h2⟩ := h.r1 a; ⟨e, h.hX e w w' h1 (Chg.grow9 hb), ownsRow_below h2 hb⟩, fun a => (h.c0 a).below hb (h.c0 a).lt, fun a => (h.c1 a).below hb (h.c1 a).lt, h.hB3, Nat.le_trans h.hs hb.size, h.hg, h.hBg, h.hX⟩
theorem AP.next (h : AP T B p B3 B9 E size gc cs idx n xs v X ll la ls va w) (hc : Chg (fun k => k = p) w w') (tp : TP T B w' p) : AP T B p B3 B9 E size gc cs idx n xs v X ll la ls va w' := by
 have hp := tp.lt; have h1 := h.hBg; have h2 := h.hg; have h3 := h.hB3; refine ⟨h.hsa, h.hal, tp, fun a => ownsRow_chg (h.r0 a) hc fun b hb e => ?_, fun a => ?_, fun a => hc.own (h.c0 a) (by omega), fun a => hc.own (h.c1 a) (by omega), h.hB3, Nat.le_trans h.hs hc.size, h.hg, h.hBg, h.hX⟩
 ·have := own_lt (h.r0 a) b hb; omega
 ·obtain ⟨e, h4, h5⟩ := h.r1 a; exact ⟨e, h.hX e w w' h4 (hc.mono fun k _ e => by omega), ownsRow_chg h5 hc fun b hb e => by have := own_lt h5 b hb; omega⟩
theorem AP.app (h : AP T B p B3 B9 E size gc cs idx n xs v X ll la ls va w) (hla : la = false) (hll : ll = true) {v' : Value} {e : List Value} (hx : X e w') (ho : w'.ownsRow B3 E size v' (n + 1) (xs ++ e)) (hgr : w.grownBy w' v.ownBlock) : AP T B p B3 B9 E size gc cs idx n xs v X ll true ls v' w' := by
 have h9 := h.ls0 hla; subst h9; have h1 := h.hBg; have h2 := h.hg; have r0 := h.r0 hla; have hch : Chg (fun k => B <= k) w w' := ⟨hgr.os, hgr.tape, hgr.output, hgr.size, fun k hk hn => hgr.block k hk fun e => by have := own_lt r0 k e.symm; omega⟩; exact ⟨(fun h => nomatch h), fun _ => hll, h.tp.keep hch, (fun h => nomatch h), fun _ => ⟨e, hx, ho⟩, fun _ => grown_own hgr (h.c0 rfl) (fun e => by have := own_lt r0 gc e; omega), (fun h => nomatch h), h.hB3, Nat.le_trans h.hs hgr.size, h.hg, h.hBg, h.hX⟩
theorem AP.store (h : AP T B p B3 B9 E size gc cs idx n xs v X ll la ls va w) (hla : la = true) (hls : ls = false) : AP T B p B3 B9 E size gc cs idx n xs v X ll la true va (w.setCell ⟨gc, idx, none⟩ va) := by
 subst hla hls; obtain ⟨e, h4, h5⟩ := h.r1 rfl; have hc : Chg (fun k => k = gc) w (w.setCell ⟨gc, idx, none⟩ va) := (Chg.refl (fun k => k = gc) w).setCell (p := ⟨gc, idx, none⟩) rfl va; have h1 := h.hBg; have h2 := h.hg; have h3 := h.hB3; exact ⟨fun _ => rfl, h.hal, h.tp.keep (hc.mono fun k _ e => by omega), (fun h => nomatch h), fun _ => ⟨e, h.hX e _ _ h4 (hc.mono fun k _ e => by omega), ownsRow_chg h5 hc fun b hb e => by have := own_lt h5 b hb; omega⟩, (fun h => nomatch h), fun _ => (h.c0 rfl).set_ idx va, h.hB3, Nat.le_trans h.hs hc.size, h.hg, h.hBg, h.hX⟩
end
theorem wrap_i64 (x : Int) : I64 (IntKind.i64.wrap x) := by rw [IntKind.wrap_i64]; unfold I64; omega
theorem BS.made {B9 : Nat} {w : World} {t : TypeId} {cs : List Value} {n : Nat} (h : B9 <= w.heap.size) : BS B9 t cs n (.slice (some ⟨w.heap.size, 0, none⟩) n n) (w.alloc (.cells cs.toArray t)) := ⟨_, rfl, h, Own.new w t cs⟩
theorem str_at {cs : List Value} {n r : Nat} (H : ∀ r, r < n -> ∃ s : ByteArray, cs[r]? = some (.string s) /\ s.size <= 10) (hr : r < n) {w : World} {g : Nat} {t : TypeId} (o : Own w g t cs) : ∃ s : ByteArray, w.cell? ⟨g, r, none⟩ = some (.string s) /\ s.size <= 10 := by
 obtain ⟨s, hs, hz⟩ := H r hr; exact ⟨s, (o.cell r).trans hs, hz⟩
theorem two_at (a b : ByteArray) (ha : a.size <= 10) (hb : b.size <= 10) : ∀ r, r < 2 -> ∃ s : ByteArray, ([.string a, .string b] : List Value)[r]? = some (.string s) /\ s.size <= 10 := by
 intro r hr
 rcases (show r = 0 \/ r = 1 by omega) with rfl | rfl
 ·exact ⟨_, rfl, ha⟩
 ·exact ⟨_, rfl, hb⟩
theorem nodes_made {T : Option Addr × List Int × Nat} {B p gc : Nat} {a x r hh s : Value} {At : Option Addr} {nt ct : Nat} (w : World) (tp : TP T B w p) (hBg : B <= gc) (hn0 : 0 < nt) (hnt : nt <= 1000) (o_c : Own w gc 30 [a, .slice At nt ct, x, r, .slice none 0 0, hh, s]) :
  Calls Tryz.prog 47 #[.pointer (some ⟨p, 0, none⟩), .pointer (some ⟨gc, 0, none⟩)] w fun e w' => e = .returned (.tuple #[]) /\ TP T B w' p /\ Chg (fun k => k = p \/ k = gc) w w' /\ ∃ v N, Own w' gc 30 [a, .slice At nt ct, x, r, v, hh, s] /\ NodesO (fun k => k < w.heap.size) w' v N := by
 obtain ⟨i1, hi1, hy0, hy1, hy2⟩ := info_parts nod_info; obtain ⟨B3, hB3⟩ : ∃ B3, B3 = w.heap.size := ⟨_, rfl⟩; have hp := tp.lt; have hgl := o_c.lt; have c1 := o_c.c1
 go_enter Tryz.func47, Tryz.ntmps47
 go_wp2_with fail
 clear c1; refine (next9 T B p 4 _ rfl _ tp (by decide) (by decide)).mono ?_; rintro e w1 ⟨k0, rfl, hk0, tp1, hc1⟩; have HB3 := Z' hB3; have hw1 := hc1.size; have o_c1 := hc1.own o_c (by omega); clear tp o_c
 go_wp2_with fail
 go_loopg [5, 6] (k0 + 1) (fun q v5 v6 wr => ∃ (k a0 n : Nat) (vN : Value) (es : List (List Value)) (L : List Nd), q = k + 1 /\ v6 = .int .i64 (k : Int) /\ v5 = .int .i64 (a0 : Int) /\ a0 <= nt /\ n + 2 * k <= 6 /\ Hid (wr.ownsRow B3 105 4 vN n es.flatten) /\ Hid (Els 4 ENode es L) /\ Hid (n = L.length) /\ Own wr gc 30 [a, .slice At nt ct, x, r, vN, hh, s] /\ TP T B wr p /\ Chg (fun k => k = p \/ k = gc) w wr)
 case atStart => exact ⟨k0, 0, 0, .slice none 0 0, [], [], rfl, rfl, rfl, Nat.zero_le _, by omega, World.ownsRow_nil _ _ _ _, Els.nil _ _, rfl, o_c1, tp1, hc1.mono fun k _ e => .inl e⟩
 case round =>
  clear o_c1 tp1 hc1 hw1; obtain ⟨k, a0, n, vN, es, L, rfl, rfl, rfl, ha0, hnk, HRW, HES, HLN, o_c, tp, hch⟩ := hrel; have hwr := hch.size
  by_cases hk : 0 < k
  ·skip
   obtain ⟨k, rfl⟩ : ∃ x, k = x + 1 := ⟨k - 1, by omega⟩; have dk : decide ((0 : Int) < ((k + 1 : Nat) : Int)) = true := decide_eq_true (by omega); have dkn : decide (0 < k + 1) = true := decide_eq_true (by omega)
   by_cases ha : a0 < nt
   ·skip
    have da : decide ((a0 : Int) < (nt : Int)) = true := decide_eq_true (by omega); have dan : decide (a0 < nt) = true := decide_eq_true (by omega)
    go_upto_region 5 with (fail)
    clear dk dkn da dan
    go_wp2_with fail
    refine (next9 T B p 2 _ rfl _ tp (by decide) (by decide)).mono ?_; rintro e w2 ⟨r1, rfl, hr1, tp2, hc2⟩; have hw2 := hc2.size; replace HRW := Z' (ownsRow_chg HRW.out hc2 fun b hb e => by have := own_lt HRW.out b hb; omega); replace o_c := hc2.own o_c (by omega); replace hch := hch.trans (hc2.mono fun k _ e => .inl e); clear tp hc2; obtain ⟨b, hb⟩ : ∃ b, b = a0 + r1 := ⟨_, rfl⟩; have zb : IntKind.i64.wrap ((a0 : Int) + (r1 : Int)) = (b : Int) := (IntWalk.i64_in _ (by omega)).trans (by omega); have hb1 : b <= nt + 1 := by omega
    clear hb
    go_upto_region 6 with (fail)
    clear zb
    by_cases hbn : b < nt
    ·skip
     have db : decide ((nt : Int) <= (b : Int)) = false := decide_eq_false (by omega); have dbn : decide (nt <= b) = false := decide_eq_false (by omega)
     go_upto_region 7 with (fail)
     clear db dbn; have z0 : IntKind.i64.wrap ((b : Int) + 1) = ((b + 1 : Nat) : Int) := (IntWalk.i64_in _ (by omega)).trans (by omega); have z1 : IntKind.i64.wrap ((nt : Int) - (b : Int)) = ((nt - b : Nat) : Int) := (IntWalk.i64_in _ (by omega)).trans (by omega)
     go_wp2_with fail
     refine (next9 T B p (nt - b) _ rfl _ tp2 (by omega) (by omega)).mono ?_; rintro e w3 ⟨r2, rfl, hr2, tp3, hc3⟩; have hw3 := hc3.size; replace HRW := Z' (ownsRow_chg HRW.out hc3 fun b hb e => by have := own_lt HRW.out b hb; omega); replace o_c := hc3.own o_c (by omega); replace hch := hch.trans (hc3.mono fun k _ e => .inl e); clear tp2 hc3; obtain ⟨E, hE⟩ : ∃ E, E = b + 1 + r2 := ⟨_, rfl⟩; have zE : IntKind.i64.wrap ((b : Int) + 1 + (r2 : Int)) = (E : Int) := (IntWalk.i64_in _ (by omega)).trans (by omega); have hE1 : b < E := by omega
     have hE2 : E <= nt := by omega
     clear hE hr2; obtain ⟨AN, cN, rfl, hn1, hn2⟩ := own_form HRW.out; have c4 := o_c.c4
     go_upto_region 9 with (fail)
     clear z0 z1 zE c4; obtain ⟨B9, hB9⟩ : ∃ B9, B9 = w3.heap.size := ⟨_, rfl⟩; have hSx : ∀ k, (k = p \/ k = gc \/ (Value.slice AN n cN).ownBlock = some k) -> k < B9 := fun k h => by
      rcases h with h | h | h
      ·omega
      ·omega
      ·have := (HRW.out.lt k h).2; omega
     have hBB : B3 <= B9 := by have := HB3.out; omega
     have hg3 : gc < B3 := by have := HB3.out; omega
     have hn9 : n <= 6 := by omega
     have hs9 : B9 <= w3.heap.size := Nat.le_of_eq hB9; have HM0 : Hid (AP T B p B3 B9 105 4 gc [a, .slice At nt ct, x, r, (.slice AN n cN), hh, s] 4 (n) es.flatten (.slice AN n cN) (fun e _ => ∃ s : ByteArray, e = [.string s, .int .i64 (b : Int), .int .i64 (E : Int), .int .i64 (-1)] /\ s.size <= 10) false false false undef w3) := AP.start tp3 HRW.out o_c hBB hs9 hg3 hBg (fun _ _ _ h _ => h) undef; have HM1 : Hid (∀ va : Value, AP T B p B3 B9 105 4 gc [a, .slice At nt ct, x, r, (.slice AN n cN), hh, s] 4 (n) es.flatten (.slice AN n cN) (fun e _ => ∃ s : ByteArray, e = [.string s, .int .i64 (b : Int), .int .i64 (E : Int), .int .i64 (-1)] /\ s.size <= 10) false false false va w3.drew) := fun va => AP.start tp3.drew HRW.out o_c hBB hs9 hg3 hBg (fun _ _ _ h _ => h) va; clear HM0 hB9 hs9; refine wp_reg_m (fun a b => Chg (fun k => k = p \/ k = gc \/ (Value.slice AN n cN).ownBlock = some k) a b) (fun L u w8 => AP T B p B3 B9 105 4 gc [a, .slice At nt ct, x, r, (.slice AN n cN), hh, s] 4 (n) es.flatten (.slice AN n cN) (fun e _ => ∃ s : ByteArray, e = [.string s, .int .i64 (b : Int), .int .i64 (E : Int), .int .i64 (-1)] /\ s.size <= 10) (L 4) (L 14) (L 17) (u 14) w8) ((fun a => Chg.refl _ a)) ((fun _ _ _ h h' => h.trans h')) [some 47, some 48, some 49, some 50, some 51, some 52, some 53, some 54, some 55, some 56, some 57, some 58, some 59, some 60, some 61, some 62, some 63, none] [isV ?v1_0, isV ?v1_1, isV ?v1_2, isV ?v1_3, isV (.slice AN n cN), (fun v w => BS B9 9 [.string ⟨#[83]⟩, .string ⟨#[78, 80]⟩] 2 v w), isV ?v1_6, (fun v _ => ∃ r : Nat, v = .int .i64 (r : Int) /\ r < 2), (fun v w => ∃ (g r : Nat), v = .pointer (some ⟨g, r, none⟩) /\ r < 2 /\ B9 <= g /\ Own w g 9 [.string ⟨#[83]⟩, .string ⟨#[78, 80]⟩]), (fun v _ => ∃ s : ByteArray, v = .string s /\ s.size <= 10), isV ?v1_10, isV ?v1_11, (fun v _ => ∃ s : ByteArray, v = .agg #[.string s, .int .i64 (b : Int), .int .i64 (E : Int), .int .i64 (-1)] /\ s.size <= 10), (fun v w => ∃ s : ByteArray, s.size <= 10 /\ BS B9 105 [.string s, .int .i64 (b : Int), .int .i64 (E : Int), .int .i64 (-1)] 1 v w), (fun _ _ => True), isV ?v1_15, isV ?v1_16, anyV] rfl (by kernel_rfl) rfl rfl ?n1 ?k1 ⟨?s1_0, ?s1_1, ?s1_2, ?s1_3, ?s1_4, ?s1_5, ?s1_6, ?s1_7, ?s1_8, ?s1_9, ?s1_10, ?s1_11, ?s1_12, ?s1_13, ?s1_14, ?s1_15, ?s1_16, ?s1_17, trivial⟩ ?p1
     case s1_0 =>
      intro L9 u9 t9 w9 hT9 hL9 hD9 hV9 hO9 hM9 K9 hK9; have o9_1 := hO9.l 1; clear hV9 hO9; clear hL9 hD9; go_simp
      (refine hK9 _ _ ((fun a => Chg.refl _ a) w9) ?_ hM9; exact rfl)
     case s1_1 =>
      intro L9 u9 t9 w9 hT9 hL9 hD9 hV9 hO9 hM9 K9 hK9; have o9_1 := hO9.l 1; clear hV9 hO9; clear hL9 hD9; go_simp
      (refine hK9 _ _ ((fun a => Chg.refl _ a) w9) ?_ hM9; exact rfl)
     case s1_2 =>
      intro L9 u9 t9 w9 hT9 hL9 hD9 hV9 hO9 hM9 K9 hK9; have p9_1 : t9[48]? = some ?v1_1 := hV9.l 1 48; clear hV9 hO9; clear hL9 hD9; go_simp
      (refine hK9 _ _ ((fun a => Chg.refl _ a) w9) ?_ hM9; exact rfl)
     case s1_3 =>
      intro L9 u9 t9 w9 hT9 hL9 hD9 hV9 hO9 hM9 K9 hK9; have p9_2 : t9[49]? = some ?v1_2 := hV9.l 2 49; clear hV9 hO9; clear hL9 hD9; go_simp
      (refine hK9 _ _ ((fun a => Chg.refl _ a) w9) ?_ hM9; exact rfl)
     case s1_4 =>
      intro L9 u9 t9 w9 hT9 hL9 hD9 hV9 hO9 hM9 K9 hK9; have p9_3 : t9[50]? = some ?v1_3 := hV9.l 3 50; clear hV9 hO9; have o9 := hM9.load hL9; have d9 := o9.cell 4; clear o9; go_simp; exact hK9 _ _ (Chg.refl _ w9) rfl hM9.seen
     case s1_5 =>
      intro l u t w T L D V O M K k; clear V O; have hs9 := M.hs; go_simp; exact k _ _ ((Chg.refl _ w).alloc _) (BS.made hs9) (M.grow ((Below.refl _ _).alloc (Nat.le_refl _) _))
     case s1_6 =>
      intro L9 u9 t9 w9 hT9 hL9 hD9 hV9 hO9 hM9 K9 hK9; have o9_0 := hO9.l 0; clear hV9 hO9; clear hL9 hD9; go_simp
      (refine hK9 _ _ ((fun a => Chg.refl _ a) w9) ?_ hM9; exact rfl)
     case s1_7 =>
      intro L9 u9 t9 w9 hT9 hL9 hD9 hV9 hO9 hM9 K9 hK9; have p9_6 : t9[53]? = some ?v1_6 := hV9.l 6 53; clear hV9 hO9; go_simp; refine (next9 T B p 2 _ rfl _ hM9.tp (by decide) (by decide)).mono ?_; rintro _ w8 ⟨r9, rfl, hr9, htp9, hc9⟩; exact hK9 _ _ (hc9.mono fun k _ e => .inl e) ⟨r9, rfl, hr9⟩ (hM9.next hc9 htp9)
     case s1_8 =>
      intro L9 u9 t9 w9 hT9 hL9 hD9 hV9 hO9 hM9 K9 hK9; obtain ⟨x9_5, p9_5, q9_5⟩ := hV9.g 5 52 rfl rfl (by kernel_rfl); obtain ⟨q9_5, e9_5⟩ := q9_5; replace q9_5 : ((fun v w => BS B9 9 [.string ⟨#[83]⟩, .string ⟨#[78, 80]⟩] 2 v w)) x9_5 w9 := q9_5; obtain ⟨x9_7, p9_7, q9_7⟩ := hV9.g 7 54 rfl rfl (by kernel_rfl); obtain ⟨q9_7, e9_7⟩ := q9_7; replace q9_7 : ((fun v _ => ∃ r : Nat, v = .int .i64 (r : Int) /\ r < 2)) x9_7 w9 := q9_7; clear hV9 hO9; clear e9_5 e9_7; obtain ⟨g9, rfl, h91, h92⟩ := q9_5; obtain ⟨r9, rfl, hr9⟩ := q9_7; have i91 : ((r9 : Nat) : Int) < 2 := by omega
      have i92 : decide (((r9 : Nat) : Int) < 2) = true := decide_eq_true i91; go_simp; exact hK9 _ _ (Chg.refl _ w9) ⟨g9, r9, rfl, hr9, h91, h92⟩ hM9
     case s1_9 =>
      intro L9 u9 t9 w9 hT9 hL9 hD9 hV9 hO9 hM9 K9 hK9; obtain ⟨x9_8, p9_8, q9_8⟩ := hV9.g 8 55 rfl rfl (by kernel_rfl); obtain ⟨q9_8, e9_8⟩ := q9_8; replace q9_8 : ((fun v w => ∃ (g r : Nat), v = .pointer (some ⟨g, r, none⟩) /\ r < 2 /\ B9 <= g /\ Own w g 9 [.string ⟨#[83]⟩, .string ⟨#[78, 80]⟩])) x9_8 w9 := q9_8; clear hV9 hO9; clear e9_8; obtain ⟨g9, r9, rfl, hr9, h91, h92⟩ := q9_8; obtain ⟨s9, d9, hz9⟩ := str_at (two_at _ _ (by decide) (by decide)) hr9 h92; clear h92; go_simp; exact hK9 _ _ (Chg.refl _ w9) ⟨s9, rfl, hz9⟩ hM9
     case s1_10 =>
      intro L9 u9 t9 w9 hT9 hL9 hD9 hV9 hO9 hM9 K9 hK9; have o9_7 := hO9.l 7; clear hV9 hO9; clear hL9 hD9; go_simp
      (refine hK9 _ _ ((fun a => Chg.refl _ a) w9) ?_ hM9; exact rfl)
     case s1_11 =>
      intro L9 u9 t9 w9 hT9 hL9 hD9 hV9 hO9 hM9 K9 hK9; have o9_8 := hO9.l 8; clear hV9 hO9; clear hL9 hD9; go_simp
      (refine hK9 _ _ ((fun a => Chg.refl _ a) w9) ?_ hM9; exact rfl)
     case s1_12 =>
      intro L9 u9 t9 w9 hT9 hL9 hD9 hV9 hO9 hM9 K9 hK9; obtain ⟨x9_9, p9_9, q9_9⟩ := hV9.g 9 56 rfl rfl (by kernel_rfl); obtain ⟨q9_9, e9_9⟩ := q9_9; replace q9_9 : ((fun v _ => ∃ s : ByteArray, v = .string s /\ s.size <= 10)) x9_9 w9 := q9_9; have p9_10 : t9[57]? = some ?v1_10 := hV9.l 10 57; have p9_11 : t9[58]? = some ?v1_11 := hV9.l 11 58; clear hV9 hO9; clear e9_9; obtain ⟨s9, hq9, hz9⟩ := q9_9; subst hq9; go_simp; exact hK9 _ _ (Chg.refl _ w9) ⟨s9, rfl, hz9⟩ hM9
     case s1_13 =>
      intro l u t w T L D V O M K k; obtain ⟨x12, p12, q12⟩ := V 12 59 rfl rfl (of_decide_eq_true (by kernel_rfl)); obtain ⟨q12, e12⟩ := q12; replace q12 : ((fun v _ => ∃ s : ByteArray, v = .agg #[.string s, .int .i64 (b : Int), .int .i64 (E : Int), .int .i64 (-1)] /\ s.size <= 10)) x12 w := q12; clear V O; clear e12; obtain ⟨s9, hq9, hz9⟩ := q12; subst hq9; have hs9 := M.hs; go_simp; exact k _ _ ((Chg.refl _ w).alloc _) ⟨s9, hz9, BS.made hs9⟩ (M.grow ((Below.refl _ _).alloc (Nat.le_refl _) _))
     case s1_14 =>
      intro L9 u9 t9 w9 hT9 hL9 hD9 hV9 hO9 hM9 K9 hK9; have p9_4 : t9[51]? = some ((.slice AN n cN)) := hV9.l 4 51; obtain ⟨x9_13, p9_13, q9_13⟩ := hV9.g 13 60 rfl rfl (by kernel_rfl); obtain ⟨q9_13, e9_13⟩ := q9_13; replace q9_13 : ((fun v w => ∃ s : ByteArray, s.size <= 10 /\ BS B9 105 [.string s, .int .i64 (b : Int), .int .i64 (E : Int), .int .i64 (-1)] 1 v w)) x9_13 w9 := q9_13; clear hV9 hO9; obtain ⟨s9, hz9, g9, rfl, h91, h92⟩ := q9_13; have r9 := hM9.r0 hL9; obtain ⟨v9, w9', hr9, ho9, hg9, -⟩ := run_append_src (P := Tryz.prog) w9 B3 27 27 105 i1 _ 4 40 Tryz.underlying27 hi1 hy0 hy1 hy2 rfl (by decide) _ _ _ r9 (some ⟨g9, 0, none⟩) 1 1 [.string s9, .int .i64 (b : Int), .int .i64 (E : Int), .int .i64 (-1)] rfl h92.rd0 (by intro u hu; simp at hu; rcases hu with rfl | rfl | rfl | rfl <;> rfl) (by unfold maxLen; omega) (by omega) (Nat.le_trans hBB hM9.hs); have r8 := own_lt r9; have m9 := Z' (hM9.app hL9 (hD9 4 rfl) ⟨s9, rfl, hz9⟩ ho9 hg9)
      have c9 : Chg (fun k => k = p \/ k = gc \/ (Value.slice AN n cN).ownBlock = some k) w9 w9' := ⟨hg9.os, hg9.tape, hg9.output, hg9.size, fun k hk hn => hg9.block k hk fun e => hn (.inr (.inr e.symm))⟩; clear hM9 r9 r8 ho9 hg9 hL9 hD9; rw [if_pos (wanted_of9 rfl)]; exact wp_append_eq (.tmp 51) (.tmp 60) 27 rfl _ _ v9 (ev_tmp9 p9_4) (ev_tmp9 p9_13) hr9 (hK9 _ _ c9 trivial m9.out)
     case s1_15 =>
      intro L9 u9 t9 w9 hT9 hL9 hD9 hV9 hO9 hM9 K9 hK9; have p9_0 : t9[47]? = some ?v1_0 := hV9.l 0 47; clear hV9 hO9; clear hL9 hD9; go_simp
      (refine hK9 _ _ ((fun a => Chg.refl _ a) w9) ?_ hM9; exact rfl)
     case s1_16 =>
      intro L9 u9 t9 w9 hT9 hL9 hD9 hV9 hO9 hM9 K9 hK9; have p9_15 : t9[62]? = some ?v1_15 := hV9.l 15 62; clear hV9 hO9; clear hL9 hD9; go_simp
      (refine hK9 _ _ ((fun a => Chg.refl _ a) w9) ?_ hM9; exact rfl)
     case s1_17 =>
      intro L9 u9 t9 w9 hT9 hL9 hD9 hV9 hO9 hM9 K9 hK9; obtain ⟨x9_14, p9_14, q9_14⟩ := hV9.g 14 61 rfl rfl (by kernel_rfl); obtain ⟨q9_14, e9_14⟩ := q9_14; replace q9_14 : ((fun _ _ => True)) x9_14 w9 := q9_14; have p9_16 : t9[63]? = some ?v1_16 := hV9.l 16 63; clear hV9 hO9; obtain ⟨_, _, r9⟩ := hM9.r1 (hD9 14 rfl); obtain ⟨A91, c91, hf9, -, -⟩ := own_form r9; have e9 := e9_14; rw [hf9] at e9; subst e9; clear e9_14 r9; have o9 := hM9.c0 hL9; have d9 := o9.cell 4; have f9 := o9.frozen 4; have HM : Hid (AP T B p B3 B9 105 4 gc [a, .slice At nt ct, x, r, (.slice AN n cN), hh, s] 4 (n) es.flatten (.slice AN n cN) (fun e _ => ∃ s : ByteArray, e = [.string s, .int .i64 (b : Int), .int .i64 (E : Int), .int .i64 (-1)] /\ s.size <= 10) (L9 4) (L9 14) true (u9 14) (w9.setCell ⟨gc, 4, none⟩ (.slice A91 (n + 1) c91))) := by
       rw [<- hf9]; exact hM9.store (hD9 14 rfl) hL9
      clear hM9 hD9 hL9 hf9 o9; go_simp; exact hK9 undef _ ((Chg.refl _ w9).setCell (p := ⟨gc, 4, none⟩) (.inr (.inl rfl)) _) trivial HM.out
     case n1 =>
      intro L9 u9 h9; have h1 := h9 4 (by decide); have h2 := h9 14 (by decide); have h3 := h9 17 (by decide)
      show AP T B p B3 B9 105 4 gc [a, .slice At nt ct, x, r, (.slice AN n cN), hh, s] 4 (n) es.flatten (.slice AN n cN) (fun e _ => ∃ s : ByteArray, e = [.string s, .int .i64 (b : Int), .int .i64 (E : Int), .int .i64 (-1)] /\ s.size <= 10) (L9 4) (L9 14) (L9 17) _ _
      rw [h1, h2, h3]; exact HM1.out _
     case k1 =>
      intro i9 v9 w9 x9 h9 g9
      match i9, h9 with
      | 0, h9 => exact h9
      | 1, h9 => exact h9
      | 2, h9 => exact h9
      | 3, h9 => exact h9
      | 4, h9 => exact h9
      | 5, h9 => (replace h9 : (fun v w => BS B9 9 [.string ⟨#[83]⟩, .string ⟨#[78, 80]⟩] 2 v w) v9 w9 := h9); exact BS.chg h9 g9 hSx
      | 6, h9 => exact h9
      | 7, h9 => exact h9
      | 8, h9 => (replace h9 : (fun v w => ∃ (g r : Nat), v = .pointer (some ⟨g, r, none⟩) /\ r < 2 /\ B9 <= g /\ Own w g 9 [.string ⟨#[83]⟩, .string ⟨#[78, 80]⟩]) v9 w9 := h9); obtain ⟨g9', r9', e91, e92, e93, e94⟩ := h9; exact ⟨g9', r9', e91, e92, e93, g9.own e94 fun h => by have := hSx _ h; omega⟩
      | 9, h9 => exact h9
      | 10, h9 => exact h9
      | 11, h9 => exact h9
      | 12, h9 => exact h9
      | 13, h9 => (replace h9 : (fun v w => ∃ s : ByteArray, s.size <= 10 /\ BS B9 105 [.string s, .int .i64 (b : Int), .int .i64 (E : Int), .int .i64 (-1)] 1 v w) v9 w9 := h9); obtain ⟨s9, hz9, h9⟩ := h9; exact ⟨s9, hz9, BS.chg h9 g9 hSx⟩
      | 14, h9 => (replace h9 : (fun _ _ => True) v9 w9 := h9); exact trivial
      | 15, h9 => exact h9
      | 16, h9 => exact h9
      | 17, h9 => exact h9
      | _ + 18, h9 => exact trivial
     intro u9 w9 hE9 hM9 hu9; have r9_0 : u9 0 = ?v1_0 := hu9 0 (by decide); have r9_1 : u9 1 = ?v1_1 := hu9 1 (by decide); have r9_2 : u9 2 = ?v1_2 := hu9 2 (by decide); have r9_3 : u9 3 = ?v1_3 := hu9 3 (by decide); have r9_4 : u9 4 = (.slice AN n cN) := hu9 4 (by decide); have r9_5 : (fun v w => BS B9 9 [.string ⟨#[83]⟩, .string ⟨#[78, 80]⟩] 2 v w) (u9 5) w9 := hu9 5 (by decide); have r9_6 : u9 6 = ?v1_6 := hu9 6 (by decide); have r9_7 : (fun v _ => ∃ r : Nat, v = .int .i64 (r : Int) /\ r < 2) (u9 7) w9 := hu9 7 (by decide); have r9_8 : (fun v w => ∃ (g r : Nat), v = .pointer (some ⟨g, r, none⟩) /\ r < 2 /\ B9 <= g /\ Own w g 9 [.string ⟨#[83]⟩, .string ⟨#[78, 80]⟩]) (u9 8) w9 := hu9 8 (by decide); have r9_9 : (fun v _ => ∃ s : ByteArray, v = .string s /\ s.size <= 10) (u9 9) w9 := hu9 9 (by decide); have r9_10 : u9 10 = ?v1_10 := hu9 10 (by decide); have r9_11 : u9 11 = ?v1_11 := hu9 11 (by decide)
     have r9_12 : (fun v _ => ∃ s : ByteArray, v = .agg #[.string s, .int .i64 (b : Int), .int .i64 (E : Int), .int .i64 (-1)] /\ s.size <= 10) (u9 12) w9 := hu9 12 (by decide); have r9_13 : (fun v w => ∃ s : ByteArray, s.size <= 10 /\ BS B9 105 [.string s, .int .i64 (b : Int), .int .i64 (E : Int), .int .i64 (-1)] 1 v w) (u9 13) w9 := hu9 13 (by decide); have r9_14 : (fun _ _ => True) (u9 14) w9 := hu9 14 (by decide); have r9_15 : u9 15 = ?v1_15 := hu9 15 (by decide); have r9_16 : u9 16 = ?v1_16 := hu9 16 (by decide); clear hu9
     simp only [putAll, Act.put, List.setIfInBounds_toArray, List.set_cons_succ, List.set_cons_zero, List.getD_cons_succ, List.getD_cons_zero, Nat.reduceAdd, Nat.zero_add]
     simp only [r9_0, r9_1, r9_2, r9_3, r9_4, r9_6, r9_10, r9_11, r9_15, r9_16]
     clear r9_0 r9_1 r9_2 r9_3 r9_4 r9_6 r9_10 r9_11 r9_15 r9_16; have hM := Z' hM9; clear hM9 HM1; obtain ⟨_, ⟨s0, rfl, hz0⟩, hrow⟩ := hM.out.r1 rfl; replace o_c := hM.out.c1 rfl; have tp4 := hM.out.tp; clear hM; have hE3 : Chg (fun k => k = p \/ k = gc \/ B3 <= k) w3 w9 := (Chg.refl _ w3).drew.trans (hE9.mono fun k _ h => h.imp id (Or.imp id fun h => own_lt HRW.out k h)); replace hch : Chg (fun k => k = p \/ k = gc) w w9 := ((hch.mono (T := fun k => k = p \/ k = gc \/ B3 <= k) fun k _ h => h.imp id .inl).trans hE3).mono fun k hk h => h.imp id fun h => h.elim id fun h => by have := HB3.out; omega
     clear hE3 hE9 HRW; generalize u9 14 = v9 at hrow o_c |-; obtain ⟨A9, c9, rfl, -, -⟩ := own_form hrow; obtain ⟨es2, hes2⟩ : ∃ x, x = es ++ [[.string s0, .int .i64 (b : Int), .int .i64 (E : Int), .int .i64 (-1)]] := ⟨_, rfl⟩; have HRW : Hid (w9.ownsRow B3 105 4 (.slice A9 (n + 1) c9) (n + 1) es2.flatten) := by
      rw [hes2, List.flatten_append]; exact hrow
     have HE2 : Hid (Els 4 ENode es2 (L ++ [(s0, (b : Int), (E : Int), -1)])) := by
      rw [hes2]; exact HES.out.app (Els.one rfl ⟨rfl, by show s0.size <= _; unfold maxLen; omega, by simp only [I64]; omega, by simp only [I64]; omega, by simp only [I64]; omega⟩)
     clear hrow HES hes2 r9_5 r9_7 r9_8 r9_9 r9_12 r9_13 r9_14; obtain ⟨L2, hL2⟩ : ∃ x, x = L ++ [(s0, (b : Int), (E : Int), -1)] := ⟨_, rfl⟩; rw [<- hL2] at HE2; have HES := HE2; replace HLN : Hid (n + 1 = L2.length) := by rw [hL2, List.length_append, <- HLN.out]; rfl
     clear HE2 hL2 hSx hBB hg3 hn9; obtain ⟨w4, rfl⟩ : ∃ x, x = w9 := ⟨_, rfl⟩; have hw_w4 := hch.size
     go_wp2_with fail
     refine (next9 T B p 2 _ rfl _ tp4 (by decide) (by decide)).mono ?_; rintro e w5 ⟨r3, rfl, hr3, tp5, hc5⟩; have hw5 := hc5.size; replace HRW := Z' (ownsRow_chg HRW.out hc5 fun b hb e => by have := own_lt HRW.out b hb; have := HB3.out; omega); replace o_c := hc5.own o_c (by omega); replace hch := hch.trans (hc5.mono fun k _ e => .inl e); clear tp4 hc5
     by_cases h31 : r3 = 1
     ·skip
      subst h31
      go_upto_region 11 with (fail)
      have z1 : IntKind.i64.wrap ((E : Int) - (b : Int)) = ((E - b : Nat) : Int) := (IntWalk.i64_in _ (by omega)).trans (by omega)
      go_wp2_with fail
      refine (next9 T B p (E - b) _ rfl _ tp5 (by omega) (by omega)).mono ?_; rintro e w6 ⟨r4, rfl, hr4, tp6, hc6⟩; have hw6 := hc6.size; replace HRW := Z' (ownsRow_chg HRW.out hc6 fun b hb e => by have := own_lt HRW.out b hb; have := HB3.out; omega); replace o_c := hc6.own o_c (by omega); replace hch := hch.trans (hc6.mono fun k _ e => .inl e); clear tp5 hc6; obtain ⟨m, hm⟩ : ∃ m, m = b + r4 := ⟨_, rfl⟩; have zm : IntKind.i64.wrap ((b : Int) + (r4 : Int)) = (m : Int) := (IntWalk.i64_in _ (by omega)).trans (by omega); have hm1 : m < E := by omega
      clear hm hr4
      go_upto_region 12 with (fail)
      clear z1 zm; have z1 : IntKind.i64.wrap ((m : Int) + 1) = ((m + 1 : Nat) : Int) := (IntWalk.i64_in _ (by omega)).trans (by omega); have z2 : IntKind.i64.wrap ((E : Int) - (m : Int)) = ((E - m : Nat) : Int) := (IntWalk.i64_in _ (by omega)).trans (by omega); obtain ⟨B9, hB9⟩ : ∃ B9, B9 = w6.heap.size := ⟨_, rfl⟩; have hSx : ∀ k, (k = p \/ k = gc \/ (Value.slice A9 (n + 1) c9).ownBlock = some k) -> k < B9 := fun k h => by
       rcases h with h | h | h
       ·omega
       ·omega
       ·have := (HRW.out.lt k h).2; omega
      have hBB : B3 <= B9 := by have := HB3.out; omega
      have hg3 : gc < B3 := by have := HB3.out; omega
      have hn9 : (n + 1) <= 6 := by omega
      have hs9 : B9 <= w6.heap.size := Nat.le_of_eq hB9; have HM0 : Hid (AP T B p B3 B9 105 4 gc [a, .slice At nt ct, x, r, (.slice A9 (n + 1) c9), hh, s] 4 ((n + 1)) es2.flatten (.slice A9 (n + 1) c9) (fun e _ => ∃ (s : ByteArray) (x9 : Int), e = [.string s, .int .i64 (m : Int), .int .i64 x9, .int .i64 (n : Int)] /\ s.size <= 10 /\ I64 x9) false false false undef w6) := AP.start tp6 HRW.out o_c hBB hs9 hg3 hBg (fun _ _ _ h _ => h) undef; have HM1 : Hid (∀ va : Value, AP T B p B3 B9 105 4 gc [a, .slice At nt ct, x, r, (.slice A9 (n + 1) c9), hh, s] 4 ((n + 1)) es2.flatten (.slice A9 (n + 1) c9) (fun e _ => ∃ (s : ByteArray) (x9 : Int), e = [.string s, .int .i64 (m : Int), .int .i64 x9, .int .i64 (n : Int)] /\ s.size <= 10 /\ I64 x9) false false false va w6.drew) := fun va => AP.start tp6.drew HRW.out o_c hBB hs9 hg3 hBg (fun _ _ _ h _ => h) va; clear HM0 hB9 hs9; refine wp_reg_m (fun a b => Chg (fun k => k = p \/ k = gc \/ (Value.slice A9 (n + 1) c9).ownBlock = some k) a b) (fun L u w8 => AP T B p B3 B9 105 4 gc [a, .slice At nt ct, x, r, (.slice A9 (n + 1) c9), hh, s] 4 ((n + 1)) es2.flatten (.slice A9 (n + 1) c9) (fun e _ => ∃ (s : ByteArray) (x9 : Int), e = [.string s, .int .i64 (m : Int), .int .i64 x9, .int .i64 (n : Int)] /\ s.size <= 10 /\ I64 x9) (L 4) (L 22) (L 25) (u 22) w8) ((fun a => Chg.refl _ a)) ((fun _ _ _ h h' => h.trans h')) [some 74, some 75, some 76, some 77, some 78, some 79, some 80, some 81, some 82, some 83, some 84, some 85, some 86, some 87, some 88, some 89, some 90, some 91, some 92, some 93, some 94, some 95, some 96, some 97, some 98, none] [isV ?v2_0, isV ?v2_1, isV ?v2_2, isV ?v2_3, isV (.slice A9 (n + 1) c9), (fun v w => BS B9 9 [.string ⟨#[78, 80]⟩, .string ⟨#[86, 80]⟩] 2 v w), isV ?v2_6, (fun v _ => ∃ r : Nat, v = .int .i64 (r : Int) /\ r < 2), (fun v w => ∃ (g r : Nat), v = .pointer (some ⟨g, r, none⟩) /\ r < 2 /\ B9 <= g /\ Own w g 9 [.string ⟨#[78, 80]⟩, .string ⟨#[86, 80]⟩]), (fun v _ => ∃ s : ByteArray, v = .string s /\ s.size <= 10), isV ?v2_10, isV ?v2_11, isV ?v2_12, isV ?v2_13, isV ?v2_14, isV ?v2_15, isV ?v2_16, (fun v _ => ∃ r : Nat, v = .int .i64 (r : Int) /\ r < E - m), (fun v _ => ∃ x : Int, v = .int .i64 x /\ I64 x), isV ?v2_19, (fun v _ => ∃ (s : ByteArray) (x9 : Int), v = .agg #[.string s, .int .i64 (m : Int), .int .i64 x9, .int .i64 (n : Int)] /\ s.size <= 10 /\ I64 x9), (fun v w => ∃ (s : ByteArray) (x9 : Int), s.size <= 10 /\ I64 x9 /\ BS B9 105 [.string s, .int .i64 (m : Int), .int .i64 x9, .int .i64 (n : Int)] 1 v w), (fun _ _ => True), isV ?v2_23, isV ?v2_24, anyV] rfl (by kernel_rfl) rfl rfl ?n2 ?k2 ⟨?s2_0, ?s2_1, ?s2_2, ?s2_3, ?s2_4, ?s2_5, ?s2_6, ?s2_7, ?s2_8, ?s2_9, ?s2_10, ?s2_11, ?s2_12, ?s2_13, ?s2_14, ?s2_15, ?s2_16, ?s2_17, ?s2_18, ?s2_19, ?s2_20, ?s2_21, ?s2_22, ?s2_23, ?s2_24, ?s2_25, trivial⟩ ?p2
      case s2_0 =>
       intro L9 u9 t9 w9 hT9 hL9 hD9 hV9 hO9 hM9 K9 hK9; have o9_1 := hO9.l 1; clear hV9 hO9; clear hL9 hD9; go_simp
       (refine hK9 _ _ ((fun a => Chg.refl _ a) w9) ?_ hM9; exact rfl)
      case s2_1 =>
       intro L9 u9 t9 w9 hT9 hL9 hD9 hV9 hO9 hM9 K9 hK9; have o9_1 := hO9.l 1; clear hV9 hO9; clear hL9 hD9; go_simp
       (refine hK9 _ _ ((fun a => Chg.refl _ a) w9) ?_ hM9; exact rfl)
      case s2_2 =>
       intro L9 u9 t9 w9 hT9 hL9 hD9 hV9 hO9 hM9 K9 hK9; have p9_1 : t9[75]? = some ?v2_1 := hV9.l 1 75; clear hV9 hO9; clear hL9 hD9; go_simp
       (refine hK9 _ _ ((fun a => Chg.refl _ a) w9) ?_ hM9; exact rfl)
      case s2_3 =>
       intro L9 u9 t9 w9 hT9 hL9 hD9 hV9 hO9 hM9 K9 hK9; have p9_2 : t9[76]? = some ?v2_2 := hV9.l 2 76; clear hV9 hO9; clear hL9 hD9; go_simp
       (refine hK9 _ _ ((fun a => Chg.refl _ a) w9) ?_ hM9; exact rfl)
      case s2_4 =>
       intro L9 u9 t9 w9 hT9 hL9 hD9 hV9 hO9 hM9 K9 hK9; have p9_3 : t9[77]? = some ?v2_3 := hV9.l 3 77; clear hV9 hO9; have o9 := hM9.load hL9; have d9 := o9.cell 4; clear o9; go_simp; exact hK9 _ _ (Chg.refl _ w9) rfl hM9.seen
      case s2_5 =>
       intro l u t w T L D V O M K k; clear V O; have hs9 := M.hs; go_simp; exact k _ _ ((Chg.refl _ w).alloc _) (BS.made hs9) (M.grow ((Below.refl _ _).alloc (Nat.le_refl _) _))
      case s2_6 =>
       intro L9 u9 t9 w9 hT9 hL9 hD9 hV9 hO9 hM9 K9 hK9; have o9_0 := hO9.l 0; clear hV9 hO9; clear hL9 hD9; go_simp
       (refine hK9 _ _ ((fun a => Chg.refl _ a) w9) ?_ hM9; exact rfl)
      case s2_7 =>
       intro L9 u9 t9 w9 hT9 hL9 hD9 hV9 hO9 hM9 K9 hK9; have p9_6 : t9[80]? = some ?v2_6 := hV9.l 6 80; clear hV9 hO9; go_simp; refine (next9 T B p 2 _ rfl _ hM9.tp (by decide) (by decide)).mono ?_; rintro _ w8 ⟨r9, rfl, hr9, htp9, hc9⟩; exact hK9 _ _ (hc9.mono fun k _ e => .inl e) ⟨r9, rfl, hr9⟩ (hM9.next hc9 htp9)
      case s2_8 =>
       intro L9 u9 t9 w9 hT9 hL9 hD9 hV9 hO9 hM9 K9 hK9; obtain ⟨x9_5, p9_5, q9_5⟩ := hV9.g 5 79 rfl rfl (by kernel_rfl); obtain ⟨q9_5, e9_5⟩ := q9_5; replace q9_5 : ((fun v w => BS B9 9 [.string ⟨#[78, 80]⟩, .string ⟨#[86, 80]⟩] 2 v w)) x9_5 w9 := q9_5; obtain ⟨x9_7, p9_7, q9_7⟩ := hV9.g 7 81 rfl rfl (by kernel_rfl); obtain ⟨q9_7, e9_7⟩ := q9_7; replace q9_7 : ((fun v _ => ∃ r : Nat, v = .int .i64 (r : Int) /\ r < 2)) x9_7 w9 := q9_7; clear hV9 hO9; clear e9_5 e9_7; obtain ⟨g9, rfl, h91, h92⟩ := q9_5; obtain ⟨r9, rfl, hr9⟩ := q9_7; have i91 : ((r9 : Nat) : Int) < 2 := by omega
       have i92 : decide (((r9 : Nat) : Int) < 2) = true := decide_eq_true i91; go_simp; exact hK9 _ _ (Chg.refl _ w9) ⟨g9, r9, rfl, hr9, h91, h92⟩ hM9
      case s2_9 =>
       intro L9 u9 t9 w9 hT9 hL9 hD9 hV9 hO9 hM9 K9 hK9; obtain ⟨x9_8, p9_8, q9_8⟩ := hV9.g 8 82 rfl rfl (by kernel_rfl); obtain ⟨q9_8, e9_8⟩ := q9_8; replace q9_8 : ((fun v w => ∃ (g r : Nat), v = .pointer (some ⟨g, r, none⟩) /\ r < 2 /\ B9 <= g /\ Own w g 9 [.string ⟨#[78, 80]⟩, .string ⟨#[86, 80]⟩])) x9_8 w9 := q9_8; clear hV9 hO9; clear e9_8; obtain ⟨g9, r9, rfl, hr9, h91, h92⟩ := q9_8; obtain ⟨s9, d9, hz9⟩ := str_at (two_at _ _ (by decide) (by decide)) hr9 h92; clear h92; go_simp; exact hK9 _ _ (Chg.refl _ w9) ⟨s9, rfl, hz9⟩ hM9
      case s2_10 =>
       intro L9 u9 t9 w9 hT9 hL9 hD9 hV9 hO9 hM9 K9 hK9; have o9_10 := hO9.l 10; clear hV9 hO9; clear hL9 hD9; go_simp
       (refine hK9 _ _ ((fun a => Chg.refl _ a) w9) ?_ hM9; exact rfl)
      case s2_11 =>
       intro L9 u9 t9 w9 hT9 hL9 hD9 hV9 hO9 hM9 K9 hK9; have o9_10 := hO9.l 10; clear hV9 hO9; clear hL9 hD9; go_simp
       (refine hK9 _ _ ((fun a => Chg.refl _ a) w9) ?_ hM9; exact rfl)
      case s2_12 =>
       intro L9 u9 t9 w9 hT9 hL9 hD9 hV9 hO9 hM9 K9 hK9; have p9_11 : t9[85]? = some ?v2_11 := hV9.l 11 85; clear hV9 hO9; clear hL9 hD9; go_simp
       (refine hK9 _ _ ((fun a => Chg.refl _ a) w9) ?_ hM9; exact rfl)
      case s2_13 =>
       intro L9 u9 t9 w9 hT9 hL9 hD9 hV9 hO9 hM9 K9 hK9; have o9_0 := hO9.l 0; clear hV9 hO9; clear hL9 hD9; go_simp
       (refine hK9 _ _ ((fun a => Chg.refl _ a) w9) ?_ hM9; exact rfl)
      case s2_14 =>
       intro L9 u9 t9 w9 hT9 hL9 hD9 hV9 hO9 hM9 K9 hK9; have o9_8 := hO9.l 8; clear hV9 hO9; clear hL9 hD9; go_simp
       (refine hK9 _ _ ((fun a => Chg.refl _ a) w9) ?_ hM9; exact rfl)
      case s2_15 =>
       intro L9 u9 t9 w9 hT9 hL9 hD9 hV9 hO9 hM9 K9 hK9; have o9_10 := hO9.l 10; clear hV9 hO9; clear hL9 hD9; go_simp
       (refine hK9 _ _ ((fun a => Chg.refl _ a) w9) ?_ hM9; exact rfl)
      case s2_16 =>
       intro L9 u9 t9 w9 hT9 hL9 hD9 hV9 hO9 hM9 K9 hK9; have p9_14 : t9[88]? = some ?v2_14 := hV9.l 14 88; have p9_15 : t9[89]? = some ?v2_15 := hV9.l 15 89; clear hV9 hO9; clear hL9 hD9; go_simp
       (refine hK9 _ _ ((fun a => Chg.refl _ a) w9) ?_ hM9; exact rfl)
      case s2_17 =>
       intro L9 u9 t9 w9 hT9 hL9 hD9 hV9 hO9 hM9 K9 hK9; have p9_13 : t9[87]? = some ?v2_13 := hV9.l 13 87; have p9_16 : t9[90]? = some ?v2_16 := hV9.l 16 90; clear hV9 hO9; go_simp; refine (next9 T B p (E - m) _ rfl _ hM9.tp (by omega) (by omega)).mono ?_; rintro _ w8 ⟨r9, rfl, hr9, htp9, hc9⟩; exact hK9 _ _ (hc9.mono fun k _ e => .inl e) ⟨r9, rfl, hr9⟩ (hM9.next hc9 htp9)
      case s2_18 =>
       intro L9 u9 t9 w9 hT9 hL9 hD9 hV9 hO9 hM9 K9 hK9; have p9_12 : t9[86]? = some ?v2_12 := hV9.l 12 86; obtain ⟨x9_17, p9_17, q9_17⟩ := hV9.g 17 91 rfl rfl (by kernel_rfl); obtain ⟨q9_17, e9_17⟩ := q9_17; replace q9_17 : ((fun v _ => ∃ r : Nat, v = .int .i64 (r : Int) /\ r < E - m)) x9_17 w9 := q9_17; clear hV9 hO9; clear e9_17; obtain ⟨r9, rfl, hr9⟩ := q9_17; go_simp; exact hK9 _ _ (Chg.refl _ w9) ⟨_, rfl, wrap_i64 _⟩ hM9
      case s2_19 =>
       intro L9 u9 t9 w9 hT9 hL9 hD9 hV9 hO9 hM9 K9 hK9; have o9_9 := hO9.l 9; clear hV9 hO9; clear hL9 hD9; go_simp
       (refine hK9 _ _ ((fun a => Chg.refl _ a) w9) ?_ hM9; exact rfl)
      case s2_20 =>
       intro L9 u9 t9 w9 hT9 hL9 hD9 hV9 hO9 hM9 K9 hK9; obtain ⟨x9_9, p9_9, q9_9⟩ := hV9.g 9 83 rfl rfl (by kernel_rfl); obtain ⟨q9_9, e9_9⟩ := q9_9; replace q9_9 : ((fun v _ => ∃ s : ByteArray, v = .string s /\ s.size <= 10)) x9_9 w9 := q9_9; have p9_10 : t9[84]? = some ?v2_10 := hV9.l 10 84; obtain ⟨x9_18, p9_18, q9_18⟩ := hV9.g 18 92 rfl rfl (by kernel_rfl); obtain ⟨q9_18, e9_18⟩ := q9_18; replace q9_18 : ((fun v _ => ∃ x : Int, v = .int .i64 x /\ I64 x)) x9_18 w9 := q9_18; have p9_19 : t9[93]? = some ?v2_19 := hV9.l 19 93; clear hV9 hO9; clear e9_9 e9_18; obtain ⟨s9, hq9, hz9⟩ := q9_9; obtain ⟨x9, hx9, hi9⟩ := q9_18; subst hq9 hx9; go_simp; exact hK9 _ _ (Chg.refl _ w9) ⟨s9, x9, rfl, hz9, hi9⟩ hM9
      case s2_21 =>
       intro l u t w T L D V O M K k; obtain ⟨x9_20, p9_20, q9_20⟩ := V 20 94 rfl rfl (of_decide_eq_true (by kernel_rfl)); obtain ⟨q9_20, e9_20⟩ := q9_20; replace q9_20 : ((fun v _ => ∃ (s : ByteArray) (x9 : Int), v = .agg #[.string s, .int .i64 (m : Int), .int .i64 x9, .int .i64 (n : Int)] /\ s.size <= 10 /\ I64 x9)) x9_20 w := q9_20; clear V O; clear e9_20; obtain ⟨s9, x9, hq9, hz9, hi9⟩ := q9_20; subst hq9; have hs9 := M.hs; go_simp; exact k _ _ ((Chg.refl _ w).alloc _) ⟨s9, x9, hz9, hi9, BS.made hs9⟩ (M.grow ((Below.refl _ _).alloc (Nat.le_refl _) _))
      case s2_22 =>
       intro L9 u9 t9 w9 hT9 hL9 hD9 hV9 hO9 hM9 K9 hK9; have p9_4 : t9[78]? = some ((.slice A9 (n + 1) c9)) := hV9.l 4 78; obtain ⟨x9_21, p9_21, q9_21⟩ := hV9.g 21 95 rfl rfl (by kernel_rfl); obtain ⟨q9_21, e9_21⟩ := q9_21; replace q9_21 : ((fun v w => ∃ (s : ByteArray) (x9 : Int), s.size <= 10 /\ I64 x9 /\ BS B9 105 [.string s, .int .i64 (m : Int), .int .i64 x9, .int .i64 (n : Int)] 1 v w)) x9_21 w9 := q9_21; clear hV9 hO9; obtain ⟨s9, x9, hz9, hi9, g9, rfl, h91, h92⟩ := q9_21; have r9 := hM9.r0 hL9; obtain ⟨v9, w9', hr9, ho9, hg9, -⟩ := run_append_src (P := Tryz.prog) w9 B3 27 27 105 i1 _ 4 40 Tryz.underlying27 hi1 hy0 hy1 hy2 rfl (by decide) _ _ _ r9 (some ⟨g9, 0, none⟩) 1 1 [.string s9, .int .i64 (m : Int), .int .i64 x9, .int .i64 (n : Int)] rfl h92.rd0 (by intro u hu; simp at hu; rcases hu with rfl | rfl | rfl | rfl <;> rfl) (by unfold maxLen; omega) (by omega) (Nat.le_trans hBB hM9.hs)
       have r8 := own_lt r9; have m9 := Z' (hM9.app hL9 (hD9 4 rfl) ⟨s9, x9, rfl, hz9, hi9⟩ ho9 hg9); have c9 : Chg (fun k => k = p \/ k = gc \/ (Value.slice A9 (n + 1) c9).ownBlock = some k) w9 w9' := ⟨hg9.os, hg9.tape, hg9.output, hg9.size, fun k hk hn => hg9.block k hk fun e => hn (.inr (.inr e.symm))⟩; clear hM9 r9 r8 ho9 hg9 hL9 hD9; rw [if_pos (wanted_of9 rfl)]; exact wp_append_eq (.tmp 78) (.tmp 95) 27 rfl _ _ v9 (ev_tmp9 p9_4) (ev_tmp9 p9_21) hr9 (hK9 _ _ c9 trivial m9.out)
      case s2_23 =>
       intro L9 u9 t9 w9 hT9 hL9 hD9 hV9 hO9 hM9 K9 hK9; have p9_0 : t9[74]? = some ?v2_0 := hV9.l 0 74; clear hV9 hO9; clear hL9 hD9; go_simp
       (refine hK9 _ _ ((fun a => Chg.refl _ a) w9) ?_ hM9; exact rfl)
      case s2_24 =>
       intro L9 u9 t9 w9 hT9 hL9 hD9 hV9 hO9 hM9 K9 hK9; have p9_23 : t9[97]? = some ?v2_23 := hV9.l 23 97; clear hV9 hO9; clear hL9 hD9; go_simp
       (refine hK9 _ _ ((fun a => Chg.refl _ a) w9) ?_ hM9; exact rfl)
      case s2_25 =>
       intro L9 u9 t9 w9 hT9 hL9 hD9 hV9 hO9 hM9 K9 hK9; obtain ⟨x9_22, p9_22, q9_22⟩ := hV9.g 22 96 rfl rfl (by kernel_rfl); obtain ⟨q9_22, e9_22⟩ := q9_22; replace q9_22 : ((fun _ _ => True)) x9_22 w9 := q9_22; have p9_24 : t9[98]? = some ?v2_24 := hV9.l 24 98; clear hV9 hO9; obtain ⟨_, _, r9⟩ := hM9.r1 (hD9 22 rfl); obtain ⟨A91, c91, hf9, -, -⟩ := own_form r9; have e9 := e9_22; rw [hf9] at e9; subst e9; clear e9_22 r9; have o9 := hM9.c0 hL9; have d9 := o9.cell 4; have f9 := o9.frozen 4; have HM : Hid (AP T B p B3 B9 105 4 gc [a, .slice At nt ct, x, r, (.slice A9 (n + 1) c9), hh, s] 4 ((n + 1)) es2.flatten (.slice A9 (n + 1) c9) (fun e _ => ∃ (s : ByteArray) (x9 : Int), e = [.string s, .int .i64 (m : Int), .int .i64 x9, .int .i64 (n : Int)] /\ s.size <= 10 /\ I64 x9) (L9 4) (L9 22) true (u9 22) (w9.setCell ⟨gc, 4, none⟩ (.slice A91 (n + 1 + 1) c91))) := by
        rw [<- hf9]; exact hM9.store (hD9 22 rfl) hL9
       clear hM9 hD9 hL9 hf9 o9; go_simp; exact hK9 undef _ ((Chg.refl _ w9).setCell (p := ⟨gc, 4, none⟩) (.inr (.inl rfl)) _) trivial HM.out
      case n2 =>
       intro L9 u9 h9; have h1 := h9 4 (by decide); have h2 := h9 22 (by decide); have h3 := h9 25 (by decide)
       show AP T B p B3 B9 105 4 gc [a, .slice At nt ct, x, r, (.slice A9 (n + 1) c9), hh, s] 4 ((n + 1)) es2.flatten (.slice A9 (n + 1) c9) (fun e _ => ∃ (s : ByteArray) (x9 : Int), e = [.string s, .int .i64 (m : Int), .int .i64 x9, .int .i64 (n : Int)] /\ s.size <= 10 /\ I64 x9) (L9 4) (L9 22) (L9 25) _ _
       rw [h1, h2, h3]; exact HM1.out _
      case k2 =>
       intro i9 v9 w9 x9 h9 g9
       match i9, h9 with
       | 0, h9 => exact h9
       | 1, h9 => exact h9
       | 2, h9 => exact h9
       | 3, h9 => exact h9
       | 4, h9 => exact h9
       | 5, h9 => (replace h9 : (fun v w => BS B9 9 [.string ⟨#[78, 80]⟩, .string ⟨#[86, 80]⟩] 2 v w) v9 w9 := h9); exact BS.chg h9 g9 hSx
       | 6, h9 => exact h9
       | 7, h9 => exact h9
       | 8, h9 => (replace h9 : (fun v w => ∃ (g r : Nat), v = .pointer (some ⟨g, r, none⟩) /\ r < 2 /\ B9 <= g /\ Own w g 9 [.string ⟨#[78, 80]⟩, .string ⟨#[86, 80]⟩]) v9 w9 := h9); obtain ⟨g9', r9', e91, e92, e93, e94⟩ := h9; exact ⟨g9', r9', e91, e92, e93, g9.own e94 fun h => by have := hSx _ h; omega⟩
       | 9, h9 => exact h9
       | 10, h9 => exact h9
       | 11, h9 => exact h9
       | 12, h9 => exact h9
       | 13, h9 => exact h9
       | 14, h9 => exact h9
       | 15, h9 => exact h9
       | 16, h9 => exact h9
       | 17, h9 => exact h9
       | 18, h9 => exact h9
       | 19, h9 => exact h9
       | 20, h9 => exact h9
       | 21, h9 => (replace h9 : (fun v w => ∃ (s : ByteArray) (x9 : Int), s.size <= 10 /\ I64 x9 /\ BS B9 105 [.string s, .int .i64 (m : Int), .int .i64 x9, .int .i64 (n : Int)] 1 v w) v9 w9 := h9); obtain ⟨s9, x9, hz9, hi9, h9⟩ := h9; exact ⟨s9, x9, hz9, hi9, BS.chg h9 g9 hSx⟩
       | 22, h9 => (replace h9 : (fun _ _ => True) v9 w9 := h9); exact trivial
       | 23, h9 => exact h9
       | 24, h9 => exact h9
       | 25, h9 => exact h9
       | _ + 26, h9 => exact trivial
      intro u9 w9 hE9 hM9 hu9; have r9_0 : u9 0 = ?v2_0 := hu9 0 (by decide); have r9_1 : u9 1 = ?v2_1 := hu9 1 (by decide); have r9_2 : u9 2 = ?v2_2 := hu9 2 (by decide); have r9_3 : u9 3 = ?v2_3 := hu9 3 (by decide); have r9_4 : u9 4 = (.slice A9 (n + 1) c9) := hu9 4 (by decide); have r9_5 : (fun v w => BS B9 9 [.string ⟨#[78, 80]⟩, .string ⟨#[86, 80]⟩] 2 v w) (u9 5) w9 := hu9 5 (by decide); have r9_6 : u9 6 = ?v2_6 := hu9 6 (by decide); have r9_7 : (fun v _ => ∃ r : Nat, v = .int .i64 (r : Int) /\ r < 2) (u9 7) w9 := hu9 7 (by decide); have r9_8 : (fun v w => ∃ (g r : Nat), v = .pointer (some ⟨g, r, none⟩) /\ r < 2 /\ B9 <= g /\ Own w g 9 [.string ⟨#[78, 80]⟩, .string ⟨#[86, 80]⟩]) (u9 8) w9 := hu9 8 (by decide); have r9_9 : (fun v _ => ∃ s : ByteArray, v = .string s /\ s.size <= 10) (u9 9) w9 := hu9 9 (by decide); have r9_10 : u9 10 = ?v2_10 := hu9 10 (by decide); have r9_11 : u9 11 = ?v2_11 := hu9 11 (by decide)
      have r9_12 : u9 12 = ?v2_12 := hu9 12 (by decide); have r9_13 : u9 13 = ?v2_13 := hu9 13 (by decide); have r9_14 : u9 14 = ?v2_14 := hu9 14 (by decide); have r9_15 : u9 15 = ?v2_15 := hu9 15 (by decide); have r9_16 : u9 16 = ?v2_16 := hu9 16 (by decide); have r9_17 : (fun v _ => ∃ r : Nat, v = .int .i64 (r : Int) /\ r < E - m) (u9 17) w9 := hu9 17 (by decide); have r9_18 : (fun v _ => ∃ x : Int, v = .int .i64 x /\ I64 x) (u9 18) w9 := hu9 18 (by decide); have r9_19 : u9 19 = ?v2_19 := hu9 19 (by decide); have r9_20 : (fun v _ => ∃ (s : ByteArray) (x9 : Int), v = .agg #[.string s, .int .i64 (m : Int), .int .i64 x9, .int .i64 (n : Int)] /\ s.size <= 10 /\ I64 x9) (u9 20) w9 := hu9 20 (by decide); have r9_21 : (fun v w => ∃ (s : ByteArray) (x9 : Int), s.size <= 10 /\ I64 x9 /\ BS B9 105 [.string s, .int .i64 (m : Int), .int .i64 x9, .int .i64 (n : Int)] 1 v w) (u9 21) w9 := hu9 21 (by decide)
      have r9_22 : (fun _ _ => True) (u9 22) w9 := hu9 22 (by decide); have r9_23 : u9 23 = ?v2_23 := hu9 23 (by decide); have r9_24 : u9 24 = ?v2_24 := hu9 24 (by decide); clear hu9
      simp only [putAll, Act.put, List.setIfInBounds_toArray, List.set_cons_succ, List.set_cons_zero, List.getD_cons_succ, List.getD_cons_zero, Nat.reduceAdd, Nat.zero_add]
      simp only [r9_0, r9_1, r9_2, r9_3, r9_4, r9_6, r9_10, r9_11, r9_12, r9_13, r9_14, r9_15, r9_16, r9_19, r9_23, r9_24]
      clear r9_0 r9_1 r9_2 r9_3 r9_4 r9_6 r9_10 r9_11 r9_12 r9_13 r9_14 r9_15 r9_16 r9_19 r9_23 r9_24; have hM := Z' hM9; clear hM9 HM1; obtain ⟨_, ⟨s1, x9, rfl, hz1, hi9⟩, hrow⟩ := hM.out.r1 rfl; replace o_c := hM.out.c1 rfl; have tp7 := hM.out.tp; clear hM; have hE3 : Chg (fun k => k = p \/ k = gc \/ B3 <= k) w6 w9 := (Chg.refl _ w6).drew.trans (hE9.mono fun k _ h => h.imp id (Or.imp id fun h => own_lt HRW.out k h)); replace hch : Chg (fun k => k = p \/ k = gc) w w9 := ((hch.mono (T := fun k => k = p \/ k = gc \/ B3 <= k) fun k _ h => h.imp id .inl).trans hE3).mono fun k hk h => h.imp id fun h => h.elim id fun h => by have := HB3.out; omega
      clear hE3 hE9 HRW; generalize u9 22 = v9 at hrow o_c |-; obtain ⟨A8, c8, rfl, -, -⟩ := own_form hrow; obtain ⟨es3, hes3⟩ : ∃ x, x = es2 ++ [[.string s1, .int .i64 (m : Int), .int .i64 x9, .int .i64 (n : Int)]] := ⟨_, rfl⟩; have HRW : Hid (w9.ownsRow B3 105 4 (.slice A8 (n + 1 + 1) c8) (n + 1 + 1) es3.flatten) := by
       rw [hes3, List.flatten_append]; exact hrow
      have HE2 : Hid (Els 4 ENode es3 (L2 ++ [(s1, (m : Int), x9, (n : Int))])) := by
       rw [hes3]; exact HES.out.app (Els.one rfl ⟨rfl, by show s1.size <= _; unfold maxLen; omega, by simp only [I64]; omega, hi9, by simp only [I64]; omega⟩)
      clear hrow HES hes3 r9_5 r9_7 r9_8 r9_9 r9_17 r9_18 r9_20 r9_21 r9_22; obtain ⟨L3, hL3⟩ : ∃ x, x = L2 ++ [(s1, (m : Int), x9, (n : Int))] := ⟨_, rfl⟩; rw [<- hL3] at HE2; have HES := HE2; replace HLN : Hid (n + 1 + 1 = L3.length) := by rw [hL3, List.length_append, <- HLN.out]; rfl
      clear HE2 hL3 hSx hBB hg3 hn9; obtain ⟨w7, rfl⟩ : ∃ x, x = w9 := ⟨_, rfl⟩; have hw_w7 := hch.size; clear z1 z2; have zk : IntKind.i64.wrap (((k + 1 : Nat) : Int) - 1) = (k : Int) := (IntWalk.i64_in _ (by omega)).trans (by omega); have zk2 : IntKind.i64.wrap ((k : Int) + 1 - 1) = (k : Int) := (IntWalk.i64_in _ (by omega)).trans (by omega)
      go_wp2
      go_roundg (k + 1)
      case measure => omega
      case rel => exact ⟨k, E, n + 1 + 1, .slice A8 (n + 1 + 1) c8, es3, L3, rfl, rfl, rfl, hE2, by omega, HRW, HES, HLN, o_c, tp7, hch⟩
     ·skip
      obtain rfl : r3 = 0 := by omega
      have zk : IntKind.i64.wrap (((k + 1 : Nat) : Int) - 1) = (k : Int) := (IntWalk.i64_in _ (by omega)).trans (by omega); have zk2 : IntKind.i64.wrap ((k : Int) + 1 - 1) = (k : Int) := (IntWalk.i64_in _ (by omega)).trans (by omega)
      go_wp2
      go_roundg (k + 1)
      case measure => omega
      case rel => exact ⟨k, E, n + 1, .slice A9 (n + 1) c9, es2, L2, rfl, rfl, rfl, hE2, by omega, HRW, HES, HLN, o_c, tp5, hch⟩
    ·skip
     have db : decide ((nt : Int) <= (b : Int)) = true := decide_eq_true (by omega); have dbn : decide (nt <= b) = true := decide_eq_true (by omega)
     go_wp2
     go_end0
     exact ⟨rfl, tp2, hch, vN, L, o_c, ⟨es, HES.out, HLN.out ▸ SO.of_own HRW.out fun k hk h => by have := HB3.out; omega⟩⟩
   ·skip
    have da : decide ((a0 : Int) < (nt : Int)) = false := decide_eq_false (by omega); have dan : decide (a0 < nt) = false := decide_eq_false (by omega)
    go_wp2
    go_end0
    exact ⟨rfl, tp, hch, vN, L, o_c, ⟨es, HES.out, HLN.out ▸ SO.of_own HRW.out fun k hk h => by have := HB3.out; omega⟩⟩
  ·skip
   have dk : decide ((0 : Int) < (k : Int)) = false := decide_eq_false (by omega); have dkn : decide (0 < k) = false := decide_eq_false (by omega)
   go_wp2
   go_end0
   exact ⟨rfl, tp, hch, vN, L, o_c, ⟨es, HES.out, HLN.out ▸ SO.of_own HRW.out fun k hk h => by have := HB3.out; omega⟩⟩
end Go.Proofs.YtjimfbmegmnocaaGreatDoor
