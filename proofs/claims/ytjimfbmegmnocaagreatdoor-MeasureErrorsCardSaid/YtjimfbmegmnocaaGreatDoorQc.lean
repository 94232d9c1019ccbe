/- Parts of the proof: Qc. No condition of its own. -/
import Derived.Test.YtjimfbmegmnocaaGreatDoorQb
import Derived.Test.YtjimfbmegmnocaaGreatDoorRgn
set_option linter.unusedSimpArgs false
set_option linter.unusedVariables false
set_option maxRecDepth 100000
set_option maxHeartbeats 4000000
namespace Go.Proofs.YtjimfbmegmnocaaGreatDoor
open Go.RowKit

theorem ownsRow_base {w : World} {B B' : Nat} {e : TypeId} {k n : Nat} {v : Value} {xs : List Value} (h : w.ownsRow B' e k v n xs) (hb : B <= B') : w.ownsRow B e k v n xs := by
 refine ⟨h.1, ?_⟩
 rcases h.2 with h0 | ⟨g, cap, cur, hv, hg, hr⟩
 ·exact .inl h0
 ·exact .inr ⟨g, cap, cur, hv, Nat.le_trans hb hg, hr⟩
abbrev nv (x : Nat) : Value := .int .i64 (x : Int)
structure HS (T : Option Addr × List Int × Nat) (B p gh gr n : Nat) (w : World) : Prop where
 tp : TP T B w p
 hh : ∃ H : List Int, H.length = n /\ (∀ y ∈ H, I64 y) /\ Own w gh 3 (ci H)
 rr : ∃ R : List ByteArray, R.length = n /\ (∀ z ∈ R, z.size <= maxLen) /\ Own w gr 9 (R.map Value.string)
 hne : gh ≠ gr
 hB : B <= gh /\ B <= gr
section
variable {T : Option Addr × List Int × Nat} {B p gh gr n : Nat} {w w' : World}
theorem HS.grow (h : HS T B p gh gr n w) (hb : Below w.heap.size w w') : HS T B p gh gr n w' :=
 ⟨h.tp.below hb, let ⟨H, a, b, c⟩ := h.hh; ⟨H, a, b, c.below hb c.lt⟩, let ⟨H, a, b, c⟩ := h.rr; ⟨H, a, b, c.below hb c.lt⟩, h.hne, h.hB⟩
theorem HS.next (h : HS T B p gh gr n w) (hc : Chg (fun k => k = p) w w') (tp : TP T B w' p) : HS T B p gh gr n w' := by
 have := tp.lt; have := h.hB; exact ⟨tp, let ⟨H, a, b, c⟩ := h.hh; ⟨H, a, b, hc.own c (by omega)⟩, let ⟨H, a, b, c⟩ := h.rr; ⟨H, a, b, hc.own c (by omega)⟩, h.hne, h.hB⟩
theorem HS.drew (h : HS T B p gh gr n w) : HS T B p gh gr n w.drew := ⟨h.tp.drew, h.hh, h.rr, h.hne, h.hB⟩
theorem HS.seth (h : HS T B p gh gr n w) (x : Nat) (y : Int) (hy : I64 y) : HS T B p gh gr n (w.setCell ⟨gh, x, none⟩ (.int .i64 y)) := by
 refine ⟨h.tp.keep ((Chg.refl _ w).setCell (p := ⟨gh, x, none⟩) h.hB.1 _), ?_, ?_, h.hne, h.hB⟩
 ·obtain ⟨H, a, b, c⟩ := h.hh; have c2 := c.set_ x (.int .i64 y); rw [ci_set9] at c2; exact ⟨H.set x y, by simpa using a, fun z hz => (List.mem_or_eq_of_mem_set hz).elim (b z) (fun e => e ▸ hy), c2⟩
 ·obtain ⟨R, a, b, c⟩ := h.rr; exact ⟨R, a, b, c.far (p := ⟨gh, x, none⟩) (fun e => h.hne e.symm) _⟩
theorem HS.setr (h : HS T B p gh gr n w) (x : Nat) (z : ByteArray) (hz : z.size <= maxLen) : HS T B p gh gr n (w.setCell ⟨gr, x, none⟩ (.string z)) := by
 refine ⟨h.tp.keep ((Chg.refl _ w).setCell (p := ⟨gr, x, none⟩) h.hB.2 _), ?_, ?_, h.hne, h.hB⟩
 ·obtain ⟨H, a, b, c⟩ := h.hh; exact ⟨H, a, b, c.far (p := ⟨gr, x, none⟩) h.hne _⟩
 ·obtain ⟨R, a, b, c⟩ := h.rr; have c2 := c.set_ x (.string z); rw [<- List.map_set] at c2; exact ⟨R.set x z, by simpa using a, fun y hy => (List.mem_or_eq_of_mem_set hy).elim (b y) (fun e => e ▸ hz), c2⟩
theorem HS.celh (h : HS T B p gh gr n w) {x : Nat} (hx : x < n) : ∃ y : Int, I64 y /\ w.cell? ⟨gh, x, none⟩ = some (.int .i64 y) /\ w.frozen? ⟨gh, x, none⟩ = false := by
 obtain ⟨H, a, b, c⟩ := h.hh; subst a; exact ⟨H[x], b _ (List.getElem_mem hx), (c.cell x).trans (by simp [ci, hx]), c.frozen x⟩
theorem HS.celr (h : HS T B p gh gr n w) {x : Nat} (hx : x < n) : ∃ y : ByteArray, y.size <= maxLen /\ w.cell? ⟨gr, x, none⟩ = some (.string y) /\ w.frozen? ⟨gr, x, none⟩ = false := by
 obtain ⟨H, a, b, c⟩ := h.rr; subst a; exact ⟨H[x], b _ (List.getElem_mem hx), (c.cell x).trans (by simp [hx]), c.frozen x⟩
end
theorem three_at (a b c : ByteArray) (ha : a.size <= 10) (hb : b.size <= 10) (hc : c.size <= 10) : ∀ r, r < 3 -> ∃ s : ByteArray, ([.string a, .string b, .string c] : List Value)[r]? = some (.string s) /\ s.size <= 10 := by
 intro r hr
 rcases (show r = 0 \/ r = 1 \/ r = 2 by omega) with rfl | rfl | rfl
 ·exact ⟨_, rfl, ha⟩
 ·exact ⟨_, rfl, hb⟩
 ·exact ⟨_, rfl, hc⟩
structure FL (L : Nat -> Bool) : Prop where
 f31 : L 3 = true -> L 1 = true
 f43 : L 4 = true -> L 3 = true
 f74 : L 7 = true -> L 4 = true
 fb7 : L 11 = true -> L 7 = true
 fcb : L 12 = true -> L 11 = true
 fa8 : L 10 = true -> L 8 = true
 fba : L 11 = true -> L 10 = true
theorem FL.zero {L : Nat -> Bool} (h : ∀ j, j < 13 -> L j = false) : FL L := by
 refine ⟨?_, ?_, ?_, ?_, ?_, ?_, ?_⟩ <;> (intro e; rw [h _ (by decide)] at e; cases e)
theorem FL.step {L : Nat -> Bool} (h : FL L) (i : Nat) (h3 : i = 3 -> L 1 = true) (h4 : i = 4 -> L 3 = true) (h7 : i = 7 -> L 4 = true) (hb : i = 11 -> L 7 = true /\ L 10 = true) (hc : i = 12 -> L 11 = true) (ha : i = 10 -> L 8 = true) : FL (upd L i true) := by
 have key : ∀ a b, (L a = true -> L b = true) -> (i = a -> L b = true) -> (upd L i true a = true -> upd L i true b = true) := by
  intro a b h1 h2 e
  by_cases hb : b = i
  ·subst hb; exact upd_same _ _ _
  ·rw [upd_ne _ _ hb]
   by_cases ha : a = i
   ·exact h2 ha.symm
   ·rw [upd_ne _ _ ha] at e; exact h1 e
 exact ⟨key 3 1 h.f31 h3, key 4 3 h.f43 h4, key 7 4 h.f74 h7, key 11 7 h.fb7 fun e => (hb e).1, key 12 11 h.fcb hc, key 10 8 h.fa8 ha, key 11 10 h.fba fun e => (hb e).2⟩
theorem FL.l12_1 {L : Nat -> Bool} (h : FL L) (hl : L 1 = false) : L 12 = false := bool_f h.fcb (bool_f h.fb7 (bool_f h.f74 (bool_f h.f43 (bool_f h.f31 hl))))
theorem FL.l12_8 {L : Nat -> Bool} (h : FL L) (hl : L 8 = false) : L 12 = false := bool_f h.fcb (bool_f h.fba (bool_f h.fa8 hl))
theorem size_int9 : ∀ w, (sizeOf 3).run Tryz.prog w = .ok 1 w := fun _ => by kernel_rfl
theorem heads_made {T : Option Addr × List Int × Nat} {B p gc : Nat} {a x r nn : Value} {At : Option Addr} {nt ct : Nat} (w : World) (tp : TP T B w p) (hBg : B <= gc) (hn0 : 0 < nt) (hnt : nt <= 1000) (o_c : Own w gc 30 [a, .slice At nt ct, x, r, nn, .slice none 0 0, .slice none 0 0]) :
  Calls Tryz.prog 48 #[.pointer (some ⟨p, 0, none⟩), .pointer (some ⟨gc, 0, none⟩)] w fun e w' => e = .returned (.tuple #[]) /\ TP T B w' p /\ Chg (fun k => k = p \/ k = gc) w w' /\ ∃ v z H R, Own w' gc 30 [a, .slice At nt ct, x, r, nn, v, z] /\ IntsO (fun k => k < w.heap.size) w' v H /\ StrsO (fun k => k < w.heap.size) w' z R := by
 obtain ⟨i1, hi1, hy0, hy1, hy2⟩ := info_parts int_info9; obtain ⟨B3, hB3⟩ : ∃ B3, B3 = w.heap.size := ⟨_, rfl⟩; have HB3 := Z' hB3; have hp := tp.lt; have hgl := o_c.lt; have c1 := o_c.c1; clear hB3
 go_enter Tryz.func48, Tryz.ntmps48
 go_wp2_with fail
 clear c1
 go_loopg [5, 6] (nt + 1) (fun q v5 v6 wr => ∃ (i : Nat) (A : Option Addr) (c : Nat) (Lo : List Nat), q = nt + 1 - i /\ i <= nt /\ v6 = .int .i64 (i : Int) /\ v5 = .slice A i c /\ Hid (Lo.length = i /\ ∀ x ∈ Lo, x < i) /\ Hid (wr.ownsRow B3 3 1 (.slice A i c) i (Lo.map nv)) /\ Own wr gc 30 [a, .slice At nt ct, x, r, nn, .slice none 0 0, .slice none 0 0] /\ TP T B wr p /\ Chg (fun k => k = p \/ k = gc) w wr)
 case atStart => exact ⟨0, none, 0, [], rfl, Nat.zero_le _, rfl, rfl, ⟨rfl, fun _ h => nomatch h⟩, World.ownsRow_nil _ _ _ _, o_c, tp, Chg.refl _ _⟩
 case round =>
  clear o_c tp; obtain ⟨i, A, c, Lo, rfl, hi, rfl, rfl, HLO, HRW, o_c, tp, hch⟩ := hrel; have hwr := hch.size
  by_cases hlt : i < nt
  ·skip
   have dl : decide ((i : Int) < (nt : Int)) = true := decide_eq_true (by omega); have dln : decide (i < nt) = true := decide_eq_true (by omega)
   go_upto_region 5 with (fail)
   clear dl dln; have z0 : IntKind.i64.wrap ((i : Int) + 1) = ((i + 1 : Nat) : Int) := (IntWalk.i64_in _ (by omega)).trans (by omega)
   go_wp2_with fail
   refine (next9 T B p (i + 1) _ (by omega) _ tp (by omega) (by omega)).mono ?_; rintro e w2 ⟨k, rfl, hk, tp2, hc2⟩; have hw2 := hc2.size; replace HRW := Z' (ownsRow_chg HRW.out hc2 fun b hb e => by have := own_lt HRW.out b hb; have := HB3.out; omega); replace o_c := hc2.own o_c (by omega); replace hch := hch.trans (hc2.mono fun k _ e => .inl e); clear tp hc2 z0
   go_upto_region 6 with (fail)
   have hcc : i <= c /\ c <= maxLen := by
    obtain ⟨_, _, e9, h1, h2⟩ := own_form HRW.out
    injection e9 with _ _ e9
    subst e9; exact ⟨h1, h2⟩
   obtain ⟨A1, hs1, hd1⟩ := sliced_to Tryz.underlying22 size_int9 A i c k (by omega); obtain ⟨A2, hs2, hd2⟩ := sliced_from Tryz.underlying22 size_int9 A i c k (by omega) hcc.1; have HR := Z' (Rd.of_own HRW.out); have HLL : Hid ((Lo.map nv).length = i) := by rw [List.length_map]; exact HLO.out.1
   obtain ⟨B9, hB9⟩ : ∃ B9, B9 = w2.heap.size := ⟨_, rfl⟩; have HB9 := Z' hB9; have hs9 : B9 <= w2.heap.size := Nat.le_of_eq hB9; have HRT : Hid (∀ w9, Below B9 w2.drew w9 -> Rd w9 A1 ((Lo.map nv).take k)) := fun w9 hb => (hd1 w9 _ ((HR.out.keep fun p hp => (Below.cell (w := w2.drew) hb (by show _ < B9; omega)).trans rfl))).take k; have HRD : Hid (∀ w9, Below B9 w2.drew w9 -> Rd w9 A2 ((Lo.map nv).drop k)) := fun w9 hb => by
    have := hd2 w9 (Lo.map nv) (by rw [HLL.out, Nat.mul_one]) ((HR.out.keep fun p hp => (Below.cell (w := w2.drew) hb (by show _ < B9; omega)).trans rfl))
    rwa [Nat.mul_one] at this
   clear hd1 hd2 hB9; refine wp_reg_n (fun a b => Below B9 a b) (fun L u w8 => IM B9 3 1 k ((Lo.map nv).take k) [.int .i64 (i : Int)] (i - k) ((Lo.map nv).drop k) (L 0) (L 4) (L 6) (L 7) (L 11) (u 0) (u 4) (u 6) (u 7) (u 11) w8 /\ FL L /\ (L 12 = false -> u 12 = .slice A i c) /\ (L 12 = true -> u 12 = u 11)) ((fun a => Below.refl _ a)) ((fun _ _ _ h h' => h.trans h')) [some 27, some 28, some 29, some 30, some 31, some 32, some 33, some 34, some 35, some 36, some 37, some 38, some 5] [(fun _ _ => True), isV ?v1_1, isV ?v1_2, isV (.slice A1 k c), (fun _ _ => True), isV ?v1_5, (fun _ _ => True), (fun _ _ => True), isV ?v1_8, isV ?v1_9, isV (.slice A2 (i - k) (c - k)), (fun _ _ => True), (fun _ _ => True)] rfl (by kernel_rfl) rfl rfl ?n1 ?k1 ⟨?s1_0, ?s1_1, ?s1_2, ?s1_3, ?s1_4, ?s1_5, ?s1_6, ?s1_7, ?s1_8, ?s1_9, ?s1_10, ?s1_11, ?s1_12, trivial⟩ ?p1
   case s1_0 =>
    intro l u t w T L D V O N M K k; clear V O; have m9 := Z' (M.1.i0 L); have F9 := Z' (M.2.1.step 0 (fun e => absurd e (by decide)) (fun e => absurd e (by decide)) (fun e => absurd e (by decide)) (fun e => absurd e (by decide)) (fun e => absurd e (by decide)) (fun e => absurd e (by decide))); have hb9 : Below B9 w (w.alloc (.cells #[] 3)) := ((Below.refl _ w).alloc (Nat.le_refl _) _).mono M.1.hs; have M2 := Z' M.2.2; clear M L D N; go_simp; exact k _ _ hb9 trivial ⟨m9.out, F9.out, M2.out⟩
   case s1_1 =>
    intro l u t w T L D V O N M K k; clear V O; have o5 := N 12 5 rfl (of_decide_eq_true (by kernel_rfl)); rw [M.2.2.1 (M.2.1.l12_1 L)] at o5; have F9 := Z' (M.2.1.step 1 (fun e => absurd e (by decide)) (fun e => absurd e (by decide)) (fun e => absurd e (by decide)) (fun e => absurd e (by decide)) (fun e => absurd e (by decide)) (fun e => absurd e (by decide))); have m9 := Z' M.1; have M2 := Z' M.2.2; clear M L D N; go_simp; refine k _ _ (Below.refl _ w) ?_ ⟨m9.out, F9.out, M2.out⟩; exact rfl
   case s1_2 =>
    intro L9 u9 t9 w9 hT9 hL9 hD9 hV9 hO9 hN9 hM9 K9 hK9; have o9_7 := hO9.l 7; clear hV9 hO9; have F9 := Z' (hM9.2.1.step 2 (fun e => absurd e (by decide)) (fun e => absurd e (by decide)) (fun e => absurd e (by decide)) (fun e => absurd e (by decide)) (fun e => absurd e (by decide)) (fun e => absurd e (by decide))); have m9 := Z' hM9.1; have M2 := Z' hM9.2.2; clear hM9 hL9 hD9 hN9; go_simp; refine hK9 _ _ (Below.refl _ w9) ?_ ⟨m9.out, F9.out, M2.out⟩; exact rfl
   case s1_3 =>
    intro L9 u9 t9 w9 hT9 hL9 hD9 hV9 hO9 hN9 hM9 K9 hK9; have p9_1 : t9[28]? = some ?v1_1 := hV9.l 1 28; have p9_2 : t9[29]? = some ?v1_2 := hV9.l 2 29; clear hV9 hO9; have F9 := Z' (hM9.2.1.step 3 (fun _ => hD9 1 rfl) (fun e => absurd e (by decide)) (fun e => absurd e (by decide)) (fun e => absurd e (by decide)) (fun e => absurd e (by decide)) (fun e => absurd e (by decide))); have m9 := Z' hM9.1; have M2 := Z' hM9.2.2; clear hM9 hL9 hD9 hN9; go_simp; refine hK9 _ _ (Below.refl _ w9) ?_ ⟨m9.out, F9.out, M2.out⟩; exact rfl
   case s1_4 =>
    intro L9 u9 t9 w9 hT9 hL9 hD9 hV9 hO9 hN9 hM9 K9 hK9; obtain ⟨x9_0, p9_0, q9_0⟩ := hV9.g 0 27 rfl rfl (by kernel_rfl); obtain ⟨q9_0, e9_0⟩ := q9_0; replace q9_0 : ((fun _ _ => True)) x9_0 w9 := q9_0; have p9_3 : t9[30]? = some ((.slice A1 k c)) := hV9.l 3 30; clear hV9 hO9; have r9 := hM9.1.r0 (hD9 0 rfl) hL9; obtain ⟨v9, w9', hr9, ho9, hg9, hat9⟩ := run_append_src (P := Tryz.prog) w9 B9 22 22 3 i1 _ 1 8 Tryz.underlying22 hi1 hy0 hy1 hy2 rfl (by decide) _ _ _ r9 A1 k c ((Lo.map nv).take k) (by rw [List.length_take, HLL.out, Nat.mul_one]; omega) (HRT.out _ hT9) (by intro u hu; obtain ⟨x9, -, rfl⟩ := List.mem_map.1 (List.mem_of_mem_take hu); rfl) (by unfold maxLen; omega) (by omega) hM9.1.hs; rw [Nat.zero_add, List.nil_append] at ho9; have g9 := below_grown9 hg9 (own_lt r9) hM9.1.hs; have M9 := Z' (hM9.1.i4 (hD9 0 rfl) hL9 ho9 hg9 hat9); have F9 := Z' (hM9.2.1.step 4 (fun e => absurd e (by decide)) (fun _ => hD9 3 rfl) (fun e => absurd e (by decide)) (fun e => absurd e (by decide)) (fun e => absurd e (by decide)) (fun e => absurd e (by decide)))
    have Q9 := Z' hM9.2.2.1; have q9 := Z' hM9.2.2.2; subst e9_0; clear hM9 r9 ho9 hg9 hat9 hL9 hD9 hN9; rw [if_pos (wanted_of9 rfl)]; exact wp_append_eq (.tmp 27) (.tmp 30) 22 rfl _ _ v9 (ev_tmp9 p9_0) (ev_tmp9 p9_3) hr9 (hK9 _ _ g9 trivial ⟨M9.out, F9.out, Q9.out, q9.out⟩)
   case s1_5 =>
    intro L9 u9 t9 w9 hT9 hL9 hD9 hV9 hO9 hN9 hM9 K9 hK9; have o9_6 := hO9.l 6; clear hV9 hO9; have F9 := Z' (hM9.2.1.step 5 (fun e => absurd e (by decide)) (fun e => absurd e (by decide)) (fun e => absurd e (by decide)) (fun e => absurd e (by decide)) (fun e => absurd e (by decide)) (fun e => absurd e (by decide))); have m9 := Z' hM9.1; have M2 := Z' hM9.2.2; clear hM9 hL9 hD9 hN9; go_simp; refine hK9 _ _ (Below.refl _ w9) ?_ ⟨m9.out, F9.out, M2.out⟩; exact rfl
   case s1_6 =>
    intro L9 u9 t9 w9 hT9 hL9 hD9 hV9 hO9 hN9 hM9 K9 hK9; have p9_5 : t9[32]? = some ?v1_5 := hV9.l 5 32; clear hV9 hO9; have m9 := Z' (hM9.1.i6 hL9); have F9 := Z' (hM9.2.1.step 6 (fun e => absurd e (by decide)) (fun e => absurd e (by decide)) (fun e => absurd e (by decide)) (fun e => absurd e (by decide)) (fun e => absurd e (by decide)) (fun e => absurd e (by decide))); have hb9 : Below B9 w9 (w9.alloc (.cells #[.int .i64 (i : Int)] 3)) := ((Below.refl _ w9).alloc (Nat.le_refl _) _).mono hM9.1.hs; have M2 := Z' hM9.2.2; clear hM9 hL9 hD9 hN9; go_simp; exact hK9 _ _ hb9 trivial ⟨m9.out, F9.out, M2.out⟩
   case s1_7 =>
    intro L9 u9 t9 w9 hT9 hL9 hD9 hV9 hO9 hN9 hM9 K9 hK9; obtain ⟨x9_4, p9_4, q9_4⟩ := hV9.g 4 31 rfl rfl (by kernel_rfl); obtain ⟨q9_4, e9_4⟩ := q9_4; replace q9_4 : ((fun _ _ => True)) x9_4 w9 := q9_4; obtain ⟨x9_6, p9_6, q9_6⟩ := hV9.g 6 33 rfl rfl (by kernel_rfl); obtain ⟨q9_6, e9_6⟩ := q9_6; replace q9_6 : ((fun _ _ => True)) x9_6 w9 := q9_6; clear hV9 hO9; obtain ⟨g9', eg9, og9, -, -⟩ := hM9.1.r6 (hD9 6 rfl) hL9; have p6' : t9[33]? = some (.slice (some ⟨g9', 0, none⟩) 1 1) := by rw [p9_6, e9_6, eg9]
    have r9 := hM9.1.r4 (hD9 4 rfl) hL9; obtain ⟨v9, w9', hr9, ho9, hg9, hat9⟩ := run_append_src (P := Tryz.prog) w9 B9 22 22 3 i1 _ 1 8 Tryz.underlying22 hi1 hy0 hy1 hy2 rfl (by decide) _ _ _ r9 (some ⟨g9', 0, none⟩) 1 1 ([.int .i64 (i : Int)]) rfl og9.rd0 (by intro u hu; simp at hu; subst hu; rfl) (by unfold maxLen; omega) (by omega) hM9.1.hs; have g9 := below_grown9 hg9 (own_lt r9) hM9.1.hs; have M9 := Z' (hM9.1.i7 (hD9 4 rfl) (hD9 6 rfl) hL9 ho9 hg9); have F9 := Z' (hM9.2.1.step 7 (fun e => absurd e (by decide)) (fun e => absurd e (by decide)) (fun _ => hD9 4 rfl) (fun e => absurd e (by decide)) (fun e => absurd e (by decide)) (fun e => absurd e (by decide))); have Q9 := Z' hM9.2.2.1; have q9 := Z' hM9.2.2.2; subst e9_4; clear hM9 r9 ho9 hg9 hat9 hL9 hD9 hN9; rw [if_pos (wanted_of9 rfl)]; exact wp_append_eq (.tmp 31) (.tmp 33) 22 rfl _ _ v9 (ev_tmp9 p9_4) (ev_tmp9 p6') hr9 (hK9 _ _ g9 trivial ⟨M9.out, F9.out, Q9.out, q9.out⟩)
   case s1_8 =>
    intro l u t w T L D V O N M K k; clear V O; have o5 := N 12 5 rfl (of_decide_eq_true (by kernel_rfl)); rw [M.2.2.1 (M.2.1.l12_8 L)] at o5; have F9 := Z' (M.2.1.step 8 (fun e => absurd e (by decide)) (fun e => absurd e (by decide)) (fun e => absurd e (by decide)) (fun e => absurd e (by decide)) (fun e => absurd e (by decide)) (fun e => absurd e (by decide))); have m9 := Z' M.1; have M2 := Z' M.2.2; clear M L D N; go_simp; refine k _ _ (Below.refl _ w) ?_ ⟨m9.out, F9.out, M2.out⟩; exact rfl
   case s1_9 =>
    intro L9 u9 t9 w9 hT9 hL9 hD9 hV9 hO9 hN9 hM9 K9 hK9; have o9_7 := hO9.l 7; clear hV9 hO9; have F9 := Z' (hM9.2.1.step 9 (fun e => absurd e (by decide)) (fun e => absurd e (by decide)) (fun e => absurd e (by decide)) (fun e => absurd e (by decide)) (fun e => absurd e (by decide)) (fun e => absurd e (by decide))); have m9 := Z' hM9.1; have M2 := Z' hM9.2.2; clear hM9 hL9 hD9 hN9; go_simp; refine hK9 _ _ (Below.refl _ w9) ?_ ⟨m9.out, F9.out, M2.out⟩; exact rfl
   case s1_10 =>
    intro L9 u9 t9 w9 hT9 hL9 hD9 hV9 hO9 hN9 hM9 K9 hK9; have p9_8 : t9[35]? = some ?v1_8 := hV9.l 8 35; have p9_9 : t9[36]? = some ?v1_9 := hV9.l 9 36; clear hV9 hO9; have F9 := Z' (hM9.2.1.step 10 (fun e => absurd e (by decide)) (fun e => absurd e (by decide)) (fun e => absurd e (by decide)) (fun e => absurd e (by decide)) (fun e => absurd e (by decide)) (fun _ => hD9 8 rfl)); have m9 := Z' hM9.1; have M2 := Z' hM9.2.2; clear hM9 hL9 hD9 hN9; go_simp; refine hK9 _ _ (Below.refl _ w9) ?_ ⟨m9.out, F9.out, M2.out⟩; exact rfl
   case s1_11 =>
    intro L9 u9 t9 w9 hT9 hL9 hD9 hV9 hO9 hN9 hM9 K9 hK9; obtain ⟨x9_7, p9_7, q9_7⟩ := hV9.g 7 34 rfl rfl (by kernel_rfl); obtain ⟨q9_7, e9_7⟩ := q9_7; replace q9_7 : ((fun _ _ => True)) x9_7 w9 := q9_7; have p9_10 : t9[37]? = some ((.slice A2 (i - k) (c - k))) := hV9.l 10 37; clear hV9 hO9; have r9 := hM9.1.r7 (hD9 7 rfl) hL9; obtain ⟨v9, w9', hr9, ho9, hg9, hat9⟩ := run_append_src (P := Tryz.prog) w9 B9 22 22 3 i1 _ 1 8 Tryz.underlying22 hi1 hy0 hy1 hy2 rfl (by decide) _ _ _ r9 A2 (i - k) (c - k) ((Lo.map nv).drop k) (by rw [List.length_drop, HLL.out, Nat.mul_one]) (HRD.out _ hT9) (by intro u hu; obtain ⟨x9, -, rfl⟩ := List.mem_map.1 (List.mem_of_mem_drop hu); rfl) (by unfold maxLen; omega) (by omega) hM9.1.hs; have g9 := below_grown9 hg9 (own_lt r9) hM9.1.hs; have h12 : L9 12 = false := bool_f hM9.2.1.fcb hL9; have M9 := Z' (hM9.1.i11 (hD9 7 rfl) ho9 hg9); have F9 := Z' (hM9.2.1.step 11 (fun e => absurd e (by decide)) (fun e => absurd e (by decide)) (fun e => absurd e (by decide)) (fun _ => ⟨hD9 7 rfl, hD9 10 rfl⟩) (fun e => absurd e (by decide)) (fun e => absurd e (by decide)))
    have Q9 := Z' hM9.2.2.1; have q9 := Z' h12; subst e9_7; clear hM9 r9 ho9 hg9 hat9 hL9 hD9 hN9 h12; rw [if_pos (wanted_of9 rfl)]; exact wp_append_eq (.tmp 34) (.tmp 37) 22 rfl _ _ v9 (ev_tmp9 p9_7) (ev_tmp9 p9_10) hr9 (hK9 _ _ g9 trivial ⟨M9.out, F9.out, Q9.out, (fun h => by have h12 := q9.out; exact absurd (h12.symm.trans h) (by decide))⟩)
   case s1_12 =>
    intro l u t w T L D V O N M K k; obtain ⟨x11, p11, q11⟩ := V 11 38 rfl rfl (of_decide_eq_true (by kernel_rfl)); obtain ⟨q11, e11⟩ := q11; replace q11 : ((fun _ _ => True)) x11 w := q11; clear V O; have F9 := Z' (M.2.1.step 12 (fun e => absurd e (by decide)) (fun e => absurd e (by decide)) (fun e => absurd e (by decide)) (fun e => absurd e (by decide)) (fun _ => D 11 rfl) (fun e => absurd e (by decide))); have m9 := Z' M.1; have E9 := Z' e11; clear M L D N e11; go_simp; exact k _ _ (Below.refl _ w) trivial ⟨m9.out, F9.out, (fun h => nomatch h), fun _ => E9.out⟩
   case n1 =>
    intro L9 u9 h9 n9; have h1 := h9 0 (by decide); have h2 := h9 4 (by decide); have h3 := h9 6 (by decide); have h4 := h9 7 (by decide); have h5 := h9 11 (by decide); have h6 := h9 12 (by decide); have hF := FL.zero h9; have n5 : u9 12 = .slice A i c := Option.some.inj (n9 12 5 rfl (of_decide_eq_true (by kernel_rfl))).symm
    show IM B9 3 1 k ((Lo.map nv).take k) [.int .i64 (i : Int)] (i - k) ((Lo.map nv).drop k) (L9 0) (L9 4) (L9 6) (L9 7) (L9 11) _ _ _ _ _ _ /\ _
    rw [h1, h2, h3, h4, h5]; exact ⟨IM.start (w := World.drew w2) hs9 _ _ _ _ _, hF, fun _ => n5, fun h => by rw [h6] at h; cases h⟩
   case k1 =>
    intro i9 v9 w9 x9 h9 g9
    match i9, h9 with
    | 0, h9 => (replace h9 : (fun _ _ => True) v9 w9 := h9); exact trivial
    | 1, h9 => exact h9
    | 2, h9 => exact h9
    | 3, h9 => exact h9
    | 4, h9 => (replace h9 : (fun _ _ => True) v9 w9 := h9); exact trivial
    | 5, h9 => exact h9
    | 6, h9 => (replace h9 : (fun _ _ => True) v9 w9 := h9); exact trivial
    | 7, h9 => (replace h9 : (fun _ _ => True) v9 w9 := h9); exact trivial
    | 8, h9 => exact h9
    | 9, h9 => exact h9
    | 10, h9 => exact h9
    | 11, h9 => (replace h9 : (fun _ _ => True) v9 w9 := h9); exact trivial
    | 12, h9 => (replace h9 : (fun _ _ => True) v9 w9 := h9); exact trivial
    | _ + 13, h9 => exact trivial
   intro u9 w9 hE9 hM9 hu9; have r9_0 : (fun _ _ => True) (u9 0) w9 := hu9 0 (by decide); have r9_1 : u9 1 = ?v1_1 := hu9 1 (by decide); have r9_2 : u9 2 = ?v1_2 := hu9 2 (by decide); have r9_3 : u9 3 = (.slice A1 k c) := hu9 3 (by decide); have r9_4 : (fun _ _ => True) (u9 4) w9 := hu9 4 (by decide); have r9_5 : u9 5 = ?v1_5 := hu9 5 (by decide); have r9_6 : (fun _ _ => True) (u9 6) w9 := hu9 6 (by decide); have r9_7 : (fun _ _ => True) (u9 7) w9 := hu9 7 (by decide); have r9_8 : u9 8 = ?v1_8 := hu9 8 (by decide); have r9_9 : u9 9 = ?v1_9 := hu9 9 (by decide); have r9_10 : u9 10 = (.slice A2 (i - k) (c - k)) := hu9 10 (by decide); have r9_11 : (fun _ _ => True) (u9 11) w9 := hu9 11 (by decide); have r9_12 : (fun _ _ => True) (u9 12) w9 := hu9 12 (by decide); clear hu9
   simp only [putAll, Act.put, List.setIfInBounds_toArray, List.set_cons_succ, List.set_cons_zero, List.getD_cons_succ, List.getD_cons_zero, Nat.reduceAdd, Nat.zero_add]
   simp only [r9_1, r9_2, r9_3, r9_5, r9_8, r9_9, r9_10]
   clear r9_1 r9_2 r9_3 r9_5 r9_8 r9_9 r9_10; have hrow := hM9.1.r11 rfl; rw [<- hM9.2.2.2 rfl] at hrow; clear hM9 HRT HRD hs1 hs2 r9_0 r9_4 r9_6 r9_7 r9_11 r9_12; generalize u9 12 = v12 at hrow |-; obtain ⟨Lo2, hLo2⟩ : ∃ x, x = Lo.take k ++ [i] ++ Lo.drop k := ⟨_, rfl⟩; have hl2 : Lo2.length = i + 1 := by rw [hLo2]; simp [HLO.out.1]; omega
   have HLO2 : Hid (Lo2.length = i + 1 /\ ∀ x ∈ Lo2, x < i + 1) := ⟨hl2, fun x hx => by
    rw [hLo2] at hx
    rcases List.mem_append.1 hx with hx | hx
    ·rcases List.mem_append.1 hx with hx | hx
     ·have := HLO.out.2 x (List.mem_of_mem_take hx); omega
     ·rw [List.mem_singleton.1 hx]; omega
    ·have := HLO.out.2 x (List.mem_of_mem_drop hx); omega⟩
   have HRW2 : Hid (w9.ownsRow B3 3 1 v12 (i + 1) (Lo2.map nv)) := by
    have e1 : k + 1 + (i - k) = i + 1 := by omega
    rw [e1, <- List.map_take, <- List.map_drop] at hrow; have e2 : Lo2.map nv = (Lo.take k).map nv ++ [.int .i64 (i : Int)] ++ (Lo.drop k).map nv := by rw [hLo2, List.map_append, List.map_append]; rfl
    rw [e2]; exact ownsRow_base hrow (by have := HB9.out; have := HB3.out; omega)
   clear hrow hl2 hLo2; obtain ⟨A3, c3, rfl, -, -⟩ := own_form HRW2.out; have hbx : Below B9 w2 w9 := (Below.refl B9 w2).drew.trans hE9; replace o_c := o_c.below hbx (by have := o_c.lt; have := HB9.out; omega); replace tp2 : TP T B w9 p := tp2.keep (Chg.of_below hbx fun k _ h => by have := HB9.out; have := tp2.size; omega); replace hch := hch.trans (Chg.of_below (S := fun k => k = p \/ k = gc) hbx fun k h1 h2 => by have := HB9.out; omega); clear hE9 hbx; have z0 : IntKind.i64.wrap ((i : Int) + 1) = ((i + 1 : Nat) : Int) := (IntWalk.i64_in _ (by omega)).trans (by omega)
   go_wp2
   go_roundg (nt + 1 - (i + 1))
   case measure => omega
   case rel => exact ⟨i + 1, A3, c3, Lo2, rfl, by omega, rfl, rfl, HLO2, HRW2, o_c, tp2, hch⟩
  ·skip
   have dl : decide ((i : Int) < (nt : Int)) = false := decide_eq_false (by omega); have dln : decide (i < nt) = false := decide_eq_false (by omega); obtain rfl : i = nt := by omega
   clear dl dln; have hcc : i <= c /\ c <= maxLen := by
    obtain ⟨_, _, e9, h1, h2⟩ := own_form HRW.out
    injection e9 with _ _ e9
    subst e9; exact ⟨h1, h2⟩
   obtain ⟨go, co, hq, -, -⟩ := HRW.out.form (by omega)
   injection hq with hq1 hq2 hq3
   subst hq1 hq3; have hgo := HRW.out.lt go rfl; have HCO : Hid (∀ r, r < i -> ∃ y : Nat, y < i /\ wr.cell? ⟨go, r, none⟩ = some (.int .i64 (y : Int))) := fun r hr => by
    have hr' : r < Lo.length := by rw [HLO.out.1]; exact hr
    refine ⟨Lo[r], HLO.out.2 _ (List.getElem_mem hr'), (HRW.out.cellAt r (by omega)).trans ?_⟩
    simp [hr']
   have hmk1 : ∀ W, (Instr.makeSlice 22 (.int .i64 (i : Int)) (.int .i64 (i : Int))).run Tryz.prog W = .ok (.slice (some ⟨W.heap.size, 0, none⟩) i i) (W.alloc (.cells (zeros i).toArray 3)) := fun W => mk_intsT i (by omega) W; have hmk2 : ∀ W, (Instr.makeSlice 28 (.int .i64 (i : Int)) (.int .i64 (i : Int))).run Tryz.prog W = .ok (.slice (some ⟨W.heap.size, 0, none⟩) i i) (W.alloc (.cells (zstrs i).toArray 9)) := fun W => mk_strsT i (by omega) W
   go_upto_region 7 with (fail)
   obtain ⟨B9, hB9⟩ : ∃ B9, B9 = wr.heap.size := ⟨_, rfl⟩; have HB9 := Z' hB9; have hs9 : B9 <= wr.heap.size := Nat.le_of_eq hB9; clear hB9; refine wp_reg_t (fun a b => Below B9 a b /\ ∀ g t cs, Own a g t cs -> Own b g t cs) ((fun a => (⟨Below.refl B9 a, fun _ _ _ o => o⟩ : Below B9 a a /\ ∀ g t cs, Own a g t cs -> Own a g t cs))) ((fun _ _ _ h h' => ⟨h.1.trans h'.1, fun g t cs o => h'.2 g t cs (h.2 g t cs o)⟩)) [some 39, some 40, some 41, some 42, some 8, some 9] [isV ?v2_0, (fun v w => ∃ g, v = .slice (some ⟨g, 0, none⟩) i i /\ B9 <= g /\ g < w.heap.size /\ Own w g 3 (zeros i)), isV ?v2_2, (fun v w => ∃ g, v = .slice (some ⟨g, 0, none⟩) i i /\ B9 <= g /\ g < w.heap.size /\ Own w g 9 (zstrs i)), (fun v w => ∃ g, v = .slice (some ⟨g, 0, none⟩) i i /\ B9 <= g /\ g < w.heap.size /\ Own w g 3 (zeros i)), (fun v w => ∃ g, v = .slice (some ⟨g, 0, none⟩) i i /\ B9 <= g /\ g < w.heap.size /\ Own w g 9 (zstrs i))] rfl (by kernel_rfl) rfl rfl ?k2 ⟨?s2_0, ?s2_1, ?s2_2, ?s2_3, ?s2_4, ?s2_5, trivial⟩ ?p2
   case s2_0 =>
    intro t9 w9 hT9 hV9 hO9 K9 hK9; have o9_4 := hO9.l 4; clear hV9 hO9; go_simp
    (refine hK9 _ _ ((fun a => (⟨Below.refl B9 a, fun _ _ _ o => o⟩ : Below B9 a a /\ ∀ g t cs, Own a g t cs -> Own a g t cs)) w9) ?_; exact rfl)
   case s2_1 =>
    intro t9 w9 hT9 hV9 hO9 K9 hK9; have p9_0 : t9[39]? = some ?v2_0 := hV9.v 0 39 rfl rfl (by kernel_rfl) rfl; clear hV9 hO9; have h8 : B9 <= w9.heap.size := Nat.le_trans hs9 hT9.1.size; go_simp; exact hK9 _ _ ⟨((Below.refl _ w9).alloc (Nat.le_refl _) _).mono h8, fun g t cs o => o.alloc _⟩ ⟨_, rfl, h8, by simp, Own.new w9 3 _⟩
   case s2_2 =>
    intro t9 w9 hT9 hV9 hO9 K9 hK9; have o9_4 := hO9.l 4; clear hV9 hO9; go_simp
    (refine hK9 _ _ ((fun a => (⟨Below.refl B9 a, fun _ _ _ o => o⟩ : Below B9 a a /\ ∀ g t cs, Own a g t cs -> Own a g t cs)) w9) ?_; exact rfl)
   case s2_3 =>
    intro t9 w9 hT9 hV9 hO9 K9 hK9; have p9_2 : t9[41]? = some ?v2_2 := hV9.v 2 41 rfl rfl (by kernel_rfl) rfl; clear hV9 hO9; have h8 : B9 <= w9.heap.size := Nat.le_trans hs9 hT9.1.size; go_simp; exact hK9 _ _ ⟨((Below.refl _ w9).alloc (Nat.le_refl _) _).mono h8, fun g t cs o => o.alloc _⟩ ⟨_, rfl, h8, by simp, Own.new w9 9 _⟩
   case s2_4 =>
    intro t9 w9 hT9 hV9 hO9 K9 hK9; obtain ⟨x9_1, p9_1, q9_1⟩ := hV9.g 1 40 rfl rfl (by kernel_rfl); replace q9_1 : ((fun v w => ∃ g, v = .slice (some ⟨g, 0, none⟩) i i /\ B9 <= g /\ g < w.heap.size /\ Own w g 3 (zeros i))) x9_1 w9 := q9_1; clear hV9 hO9; go_simp; exact hK9 _ _ ⟨Below.refl _ w9, fun _ _ _ o => o⟩ q9_1
   case s2_5 =>
    intro t9 w9 hT9 hV9 hO9 K9 hK9; obtain ⟨x9_3, p9_3, q9_3⟩ := hV9.g 3 42 rfl rfl (by kernel_rfl); replace q9_3 : ((fun v w => ∃ g, v = .slice (some ⟨g, 0, none⟩) i i /\ B9 <= g /\ g < w.heap.size /\ Own w g 9 (zstrs i))) x9_3 w9 := q9_3; clear hV9 hO9; go_simp; exact hK9 _ _ ⟨Below.refl _ w9, fun _ _ _ o => o⟩ q9_3
   case k2 =>
    intro i9 v9 w9 x9 h9 g9
    match i9, h9 with
    | 0, h9 => exact h9
    | 1, h9 => (replace h9 : (fun v w => ∃ g, v = .slice (some ⟨g, 0, none⟩) i i /\ B9 <= g /\ g < w.heap.size /\ Own w g 3 (zeros i)) v9 w9 := h9); obtain ⟨g9', e91, e92, e93, e94⟩ := h9; exact ⟨g9', e91, e92, (g9.2 _ _ _ e94).lt, g9.2 _ _ _ e94⟩
    | 2, h9 => exact h9
    | 3, h9 => (replace h9 : (fun v w => ∃ g, v = .slice (some ⟨g, 0, none⟩) i i /\ B9 <= g /\ g < w.heap.size /\ Own w g 9 (zstrs i)) v9 w9 := h9); obtain ⟨g9', e91, e92, e93, e94⟩ := h9; exact ⟨g9', e91, e92, (g9.2 _ _ _ e94).lt, g9.2 _ _ _ e94⟩
    | 4, h9 => (replace h9 : (fun v w => ∃ g, v = .slice (some ⟨g, 0, none⟩) i i /\ B9 <= g /\ g < w.heap.size /\ Own w g 3 (zeros i)) v9 w9 := h9); obtain ⟨g9', e91, e92, e93, e94⟩ := h9; exact ⟨g9', e91, e92, (g9.2 _ _ _ e94).lt, g9.2 _ _ _ e94⟩
    | 5, h9 => (replace h9 : (fun v w => ∃ g, v = .slice (some ⟨g, 0, none⟩) i i /\ B9 <= g /\ g < w.heap.size /\ Own w g 9 (zstrs i)) v9 w9 := h9); obtain ⟨g9', e91, e92, e93, e94⟩ := h9; exact ⟨g9', e91, e92, (g9.2 _ _ _ e94).lt, g9.2 _ _ _ e94⟩
    | _ + 6, h9 => exact trivial
   intro u9 w9 hE9 hu9; have r9_0 : u9 0 = ?v2_0 := hu9 0 (by decide); have r9_1 : (fun v w => ∃ g, v = .slice (some ⟨g, 0, none⟩) i i /\ B9 <= g /\ g < w.heap.size /\ Own w g 3 (zeros i)) (u9 1) w9 := hu9 1 (by decide); have r9_2 : u9 2 = ?v2_2 := hu9 2 (by decide); have r9_3 : (fun v w => ∃ g, v = .slice (some ⟨g, 0, none⟩) i i /\ B9 <= g /\ g < w.heap.size /\ Own w g 9 (zstrs i)) (u9 3) w9 := hu9 3 (by decide); have r9_4 : (fun v w => ∃ g, v = .slice (some ⟨g, 0, none⟩) i i /\ B9 <= g /\ g < w.heap.size /\ Own w g 3 (zeros i)) (u9 4) w9 := hu9 4 (by decide); have r9_5 : (fun v w => ∃ g, v = .slice (some ⟨g, 0, none⟩) i i /\ B9 <= g /\ g < w.heap.size /\ Own w g 9 (zstrs i)) (u9 5) w9 := hu9 5 (by decide); clear hu9
   simp only [putAll, Act.put, List.setIfInBounds_toArray, List.set_cons_succ, List.set_cons_zero, List.getD_cons_succ, List.getD_cons_zero, Nat.reduceAdd, Nat.zero_add]
   simp only [r9_0, r9_2]
   clear r9_0 r9_2; obtain ⟨gh, e4, hb4, -, o_h⟩ := r9_4; obtain ⟨gr, e5, hb5, -, o_s⟩ := r9_5
   simp only [e4, e5]
   clear r9_1 r9_3 hmk1 hmk2; have hgg : gh ≠ gr := fun e => by
    subst e; have h1 : (zeros i) = (zstrs i) /\ (3 : TypeId) = 9 := by
     have := o_h.symm.trans o_s
     injection this with this
     injection this with h1 h2
     exact ⟨by simpa using h1, h2⟩
    exact absurd h1.2 (by decide)
   have HS0 : Hid (HS T B p gh gr i w9) := ⟨tp.keep (Chg.of_below (w := wr) ((Below.refl B9 wr).drew.trans hE9.1) fun k _ h => by have := HB9.out; have := tp.size; omega), ⟨List.replicate i 0, by simp, fun y hy => by rw [List.eq_of_mem_replicate hy]; unfold I64; omega, o_h⟩, ⟨List.replicate i ⟨#[]⟩, by simp, fun y hy => by rw [List.eq_of_mem_replicate hy]; exact Nat.zero_le _, (by rw [List.map_replicate]; exact o_s)⟩, hgg, by have := HB9.out; have := tp.size; omega, by have := HB9.out; have := tp.size; omega⟩; have hbx : Below B9 wr w9 := (Below.refl B9 wr).drew.trans hE9.1; replace o_c := o_c.below hbx (by have := o_c.lt; have := HB9.out; omega); replace hch := hch.trans (Chg.of_below (S := fun k => k = p \/ k = gc) hbx fun k h1 h2 => by have := HB9.out; omega); have HC2 : Hid (∀ r, r < i -> ∃ y : Nat, y < i /\ w9.cell? ⟨go, r, none⟩ = some (.int .i64 (y : Int))) := fun r hr => by
    obtain ⟨y, h1, h2⟩ := HCO.out r hr; exact ⟨y, h1, (Below.cell hbx (by show go < B9; have := HB9.out; omega)).trans h2⟩
   have hgo2 : go < B9 := by have := HB9.out; omega
   have hgo3 : B3 <= go := hgo.1; have hws : w.heap.size <= w9.heap.size := hch.size; clear HCO hE9 o_h o_s e4 e5 hbx tp HLO HRW hgo; generalize u9 1 = s1; generalize u9 3 = s3; generalize u9 4 = s4; generalize u9 5 = s5; obtain ⟨w7, rfl⟩ : ∃ x, x = w9 := ⟨_, rfl⟩
   go_wp2_with fail
   go_loopg [10, 45] (i + 1) (fun q v10 v45 wr => ∃ (j : Nat) (sm : Bool), q = i + 1 - j /\ j <= i /\ v45 = .int .i64 (j : Int) /\ v10 = .bool sm /\ Hid (HS T B p gh gr i wr) /\ Chg (fun k => k = p \/ k = gh \/ k = gr) w7 wr)
   case atStart => exact ⟨0, false, rfl, Nat.zero_le _, rfl, rfl, HS0, Chg.refl _ _⟩
   case round =>
    clear HS0; obtain ⟨j, sm, rfl, hj, rfl, rfl, HSR, hc7⟩ := hrel; have hwr7 := hc7.size
    by_cases hlt : j < i
    ·skip
     have dj : decide ((j : Int) < (i : Int)) = true := decide_eq_true (by omega); have djn : decide (j < i) = true := decide_eq_true (by omega); obtain ⟨x, hx, kx⟩ := HC2.out j hlt; replace kx := hc7.cell kx (by show ¬ (go = p \/ go = gh \/ go = gr); have := HB3.out; omega); obtain ⟨y0, -, k0, f0⟩ := HSR.out.celh hx; have dx : decide ((x : Int) < (i : Int)) = true := decide_eq_true (by omega); have dxn : decide (x < i) = true := decide_eq_true hx; have HS1 := Z' (HSR.out.seth x (-1) (by unfold I64; omega)); have hc8 := hc7.setCell (p := ⟨gh, x, none⟩) (.inr (.inl rfl)) (.int .i64 (-1))
     go_upto_region 13 with (fail)
     clear dj djn k0 f0 kx HSR hc7; generalize wr.setCell ⟨gh, x, none⟩ (.int .i64 (-1)) = w1 at HS1 hc8 |-
     by_cases hj0 : 0 < j
     ·skip
      have d0 : decide ((0 : Int) < (j : Int)) = true := decide_eq_true (by omega); have d0n : decide (0 < j) = true := decide_eq_true (by omega)
      go_wp2_with fail
      refine (next9 T B p 4 _ rfl _ HS1.out.tp (by decide) (by decide)).mono ?_; rintro e w2 ⟨r, rfl, hr, htp, hc2⟩; have HS2 := Z' (HS1.out.next hc2 htp); have hc9 := hc8.trans (hc2.mono fun k _ e => .inl e); clear HS1 hc8 hc2 htp d0 d0n
      by_cases hr0 : 0 < r
      ·skip
       have d0 : decide ((0 : Int) < (r : Int)) = true := decide_eq_true (by omega); have d0n : decide (0 < r) = true := decide_eq_true (by omega)
       go_upto_region 14 with (fail)
       clear d0 d0n; obtain ⟨B8, hB8⟩ : ∃ B8, B8 = w2.heap.size := ⟨_, rfl⟩; have hw29 := hc9.size; have HB8 := Z' hB8; have hSx : ∀ k, (k = p \/ k = gh \/ k = gr) -> k < B8 := fun k h => by
        have h1 := HS2.out.hh; have h2 := HS2.out.rr; obtain ⟨_, _, _, h1⟩ := h1; obtain ⟨_, _, _, h2⟩ := h2; have h1 := h1.lt; have h2 := h2.lt; have := HS2.out.tp.size
        omega
       have hs8 : B8 <= w2.heap.size := Nat.le_of_eq hB8; clear hB8; have HC3 : Hid (∀ w9, Chg (fun k => k = p \/ k = gh \/ k = gr) w2.drew w9 -> ∀ r, r < i -> ∃ y : Int, w9.cell? ⟨go, r, none⟩ = some (.int .i64 y) /\ I64 y) := fun w9 hc r hr => by
        obtain ⟨y, h1, h2⟩ := HC2.out r hr; have hn : ¬ (go = p \/ go = gh \/ go = gr) := by have := HB3.out; omega
        exact ⟨y, hc.cell (w := w2.drew) (hc9.cell h2 hn) hn, by unfold I64; omega⟩
       refine wp_reg_m (fun a b => Chg (fun k => k = p \/ k = gh \/ k = gr) a b) (fun L u w8 => HS T B p gh gr i w8) ((fun a => Chg.refl _ a)) ((fun _ _ _ h h' => h.trans h')) [some 60, some 61, some 62, some 63, some 64, some 65, some 66, some 67, some 68, some 69, some 70, some 71, some 72, some 73, some 74, some 75, none, some 76, none] [isV ?v3_0, isV ?v3_1, isV ?v3_2, isV ?v3_3, isV ?v3_4, isV ?v3_5, isV ?v3_6, (fun v _ => ∃ r : Nat, v = .int .i64 (r : Int) /\ r < j), (fun v _ => ∃ r : Nat, v = .pointer (some ⟨go, r, none⟩) /\ r < i), (fun v _ => ∃ y : Int, v = .int .i64 y /\ I64 y), (fun v w => BS B8 9 [.string ⟨#[111, 98, 106]⟩, .string ⟨#[100, 101, 116]⟩, .string ⟨#[]⟩] 3 v w), isV ?v3_11, (fun v _ => ∃ r : Nat, v = .int .i64 (r : Int) /\ r < 3), (fun v w => ∃ (g r : Nat), v = .pointer (some ⟨g, r, none⟩) /\ r < 3 /\ B8 <= g /\ Own w g 9 [.string ⟨#[111, 98, 106]⟩, .string ⟨#[100, 101, 116]⟩, .string ⟨#[]⟩]), (fun v _ => ∃ s : ByteArray, v = .string s /\ s.size <= 10), isV ?v3_15, anyV, isV ?v3_17, anyV] rfl (by kernel_rfl) rfl rfl ?n3 ?k3 ⟨?s3_0, ?s3_1, ?s3_2, ?s3_3, ?s3_4, ?s3_5, ?s3_6, ?s3_7, ?s3_8, ?s3_9, ?s3_10, ?s3_11, ?s3_12, ?s3_13, ?s3_14, ?s3_15, ?s3_16, ?s3_17, ?s3_18, trivial⟩ ?p3
       case s3_0 =>
        intro L9 u9 t9 w9 hT9 hL9 hD9 hV9 hO9 hM9 K9 hK9; have o9_8 := hO9.l 8; clear hV9 hO9; clear hL9 hD9; go_simp
        (refine hK9 _ _ ((fun a => Chg.refl _ a) w9) ?_ hM9; exact rfl)
       case s3_1 =>
        intro L9 u9 t9 w9 hT9 hL9 hD9 hV9 hO9 hM9 K9 hK9; have o9_12 := hO9.l 12; clear hV9 hO9; clear hL9 hD9; go_simp
        (refine hK9 _ _ ((fun a => Chg.refl _ a) w9) ?_ hM9; exact rfl)
       case s3_2 =>
        intro L9 u9 t9 w9 hT9 hL9 hD9 hV9 hO9 hM9 K9 hK9; have o9_9 := hO9.l 9; clear hV9 hO9; clear hL9 hD9; go_simp
        (refine hK9 _ _ ((fun a => Chg.refl _ a) w9) ?_ hM9; exact rfl)
       case s3_3 =>
        intro L9 u9 t9 w9 hT9 hL9 hD9 hV9 hO9 hM9 K9 hK9; have o9_12 := hO9.l 12; clear hV9 hO9; clear hL9 hD9; go_simp
        (refine hK9 _ _ ((fun a => Chg.refl _ a) w9) ?_ hM9; exact rfl)
       case s3_4 =>
        intro L9 u9 t9 w9 hT9 hL9 hD9 hV9 hO9 hM9 K9 hK9; have o9_5 := hO9.l 5; clear hV9 hO9; clear hL9 hD9; go_simp
        (refine hK9 _ _ ((fun a => Chg.refl _ a) w9) ?_ hM9; exact rfl)
       case s3_5 =>
        intro L9 u9 t9 w9 hT9 hL9 hD9 hV9 hO9 hM9 K9 hK9; have o9_0 := hO9.l 0; clear hV9 hO9; clear hL9 hD9; go_simp
        (refine hK9 _ _ ((fun a => Chg.refl _ a) w9) ?_ hM9; exact rfl)
       case s3_6 =>
        intro L9 u9 t9 w9 hT9 hL9 hD9 hV9 hO9 hM9 K9 hK9; have o9_11 := hO9.l 11; clear hV9 hO9; clear hL9 hD9; go_simp
        (refine hK9 _ _ ((fun a => Chg.refl _ a) w9) ?_ hM9; exact rfl)
       case s3_7 =>
        intro L9 u9 t9 w9 hT9 hL9 hD9 hV9 hO9 hM9 K9 hK9; have p9_5 : t9[65]? = some ?v3_5 := hV9.l 5 65; have p9_6 : t9[66]? = some ?v3_6 := hV9.l 6 66; clear hV9 hO9; go_simp; refine (next9 T B p j _ rfl _ hM9.tp (by omega) (by omega)).mono ?_; rintro _ w8 ⟨r9, rfl, hr9, htp9, hc9'⟩; exact hK9 _ _ (hc9'.mono fun k _ e => .inl e) ⟨r9, rfl, hr9⟩ (hM9.next hc9' htp9)
       case s3_8 =>
        intro L9 u9 t9 w9 hT9 hL9 hD9 hV9 hO9 hM9 K9 hK9; have p9_4 : t9[64]? = some ?v3_4 := hV9.l 4 64; obtain ⟨x9_7, p9_7, q9_7⟩ := hV9.g 7 67 rfl rfl (by kernel_rfl); obtain ⟨q9_7, e9_7⟩ := q9_7; replace q9_7 : ((fun v _ => ∃ r : Nat, v = .int .i64 (r : Int) /\ r < j)) x9_7 w9 := q9_7; clear hV9 hO9; clear e9_7; obtain ⟨r9, rfl, hr9⟩ := q9_7; have hr8 : r9 < i := by omega
        have i91 : ((r9 : Nat) : Int) < (i : Int) := by omega
        have i92 : decide (((r9 : Nat) : Int) < (i : Int)) = true := decide_eq_true i91; go_simp; exact hK9 _ _ (Chg.refl _ w9) ⟨r9, rfl, hr8⟩ hM9
       case s3_9 =>
        intro l u t w T L D V O M K k; obtain ⟨x9_8, p9_8, q9_8⟩ := V 8 68 rfl rfl (of_decide_eq_true (by kernel_rfl)); obtain ⟨q9_8, e9_8⟩ := q9_8; replace q9_8 : ((fun v _ => ∃ r : Nat, v = .pointer (some ⟨go, r, none⟩) /\ r < i)) x9_8 w := q9_8; clear V O; clear e9_8; obtain ⟨r9, rfl, hr9⟩ := q9_8; obtain ⟨y9, d9, hy9⟩ := HC3.out w T r9 hr9; go_simp; exact k _ _ (Chg.refl _ w) ⟨y9, rfl, hy9⟩ M
       case s3_10 =>
        intro l u t w T L D V O M K k; clear V O; have h8 : B8 <= w.heap.size := Nat.le_trans hs8 T.size; go_simp; exact k _ _ ((Chg.refl _ w).alloc _) (BS.made h8) (M.grow ((Below.refl _ _).alloc (Nat.le_refl _) _))
       case s3_11 =>
        intro L9 u9 t9 w9 hT9 hL9 hD9 hV9 hO9 hM9 K9 hK9; have o9_0 := hO9.l 0; clear hV9 hO9; clear hL9 hD9; go_simp
        (refine hK9 _ _ ((fun a => Chg.refl _ a) w9) ?_ hM9; exact rfl)
       case s3_12 =>
        intro L9 u9 t9 w9 hT9 hL9 hD9 hV9 hO9 hM9 K9 hK9; have p9_11 : t9[71]? = some ?v3_11 := hV9.l 11 71; clear hV9 hO9; go_simp; refine (next9 T B p 3 _ rfl _ hM9.tp (by decide) (by decide)).mono ?_; rintro _ w8 ⟨r9, rfl, hr9, htp9, hc9'⟩; exact hK9 _ _ (hc9'.mono fun k _ e => .inl e) ⟨r9, rfl, hr9⟩ (hM9.next hc9' htp9)
       case s3_13 =>
        intro L9 u9 t9 w9 hT9 hL9 hD9 hV9 hO9 hM9 K9 hK9; obtain ⟨x9_10, p9_10, q9_10⟩ := hV9.g 10 70 rfl rfl (by kernel_rfl); obtain ⟨q9_10, e9_10⟩ := q9_10; replace q9_10 : ((fun v w => BS B8 9 [.string ⟨#[111, 98, 106]⟩, .string ⟨#[100, 101, 116]⟩, .string ⟨#[]⟩] 3 v w)) x9_10 w9 := q9_10; obtain ⟨x9_12, p9_12, q9_12⟩ := hV9.g 12 72 rfl rfl (by kernel_rfl); obtain ⟨q9_12, e9_12⟩ := q9_12; replace q9_12 : ((fun v _ => ∃ r : Nat, v = .int .i64 (r : Int) /\ r < 3)) x9_12 w9 := q9_12; clear hV9 hO9; clear e9_10 e9_12; obtain ⟨g9, rfl, h91, h92⟩ := q9_10; obtain ⟨r9, rfl, hr9⟩ := q9_12; have i91 : ((r9 : Nat) : Int) < 3 := by omega
        have i92 : decide (((r9 : Nat) : Int) < 3) = true := decide_eq_true i91; go_simp; exact hK9 _ _ (Chg.refl _ w9) ⟨g9, r9, rfl, hr9, h91, h92⟩ hM9
       case s3_14 =>
        intro L9 u9 t9 w9 hT9 hL9 hD9 hV9 hO9 hM9 K9 hK9; obtain ⟨x9_13, p9_13, q9_13⟩ := hV9.g 13 73 rfl rfl (by kernel_rfl); obtain ⟨q9_13, e9_13⟩ := q9_13; replace q9_13 : ((fun v w => ∃ (g r : Nat), v = .pointer (some ⟨g, r, none⟩) /\ r < 3 /\ B8 <= g /\ Own w g 9 [.string ⟨#[111, 98, 106]⟩, .string ⟨#[100, 101, 116]⟩, .string ⟨#[]⟩])) x9_13 w9 := q9_13; clear hV9 hO9; clear e9_13; obtain ⟨g9, r9, rfl, hr9, h91, h92⟩ := q9_13; obtain ⟨s9, d9, hz9⟩ := str_at (three_at _ _ _ (by decide) (by decide) (by decide)) hr9 h92; clear h92; go_simp; exact hK9 _ _ (Chg.refl _ w9) ⟨s9, rfl, hz9⟩ hM9
       case s3_15 =>
        intro L9 u9 t9 w9 hT9 hL9 hD9 hV9 hO9 hM9 K9 hK9; have p9_0 : t9[60]? = some ?v3_0 := hV9.l 0 60; have p9_1 : t9[61]? = some ?v3_1 := hV9.l 1 61; clear hV9 hO9; clear hL9 hD9; go_simp
        (refine hK9 _ _ ((fun a => Chg.refl _ a) w9) ?_ hM9; exact rfl)
       case s3_16 =>
        intro L9 u9 t9 w9 hT9 hL9 hD9 hV9 hO9 hM9 K9 hK9; obtain ⟨x9_9, p9_9, q9_9⟩ := hV9.g 9 69 rfl rfl (by kernel_rfl); obtain ⟨q9_9, e9_9⟩ := q9_9; replace q9_9 : ((fun v _ => ∃ y : Int, v = .int .i64 y /\ I64 y)) x9_9 w9 := q9_9; have p9_15 : t9[75]? = some ?v3_15 := hV9.l 15 75; clear hV9 hO9; clear e9_9; obtain ⟨y9, rfl, hy9⟩ := q9_9; obtain ⟨_, -, d9, f9⟩ := hM9.celh hx; have m9 := Z' (hM9.seth x y9 hy9); clear hM9; go_simp; exact hK9 undef _ ((Chg.refl _ w9).setCell (p := ⟨gh, x, none⟩) (.inr (.inl rfl)) _) trivial m9.out
       case s3_17 =>
        intro L9 u9 t9 w9 hT9 hL9 hD9 hV9 hO9 hM9 K9 hK9; have p9_2 : t9[62]? = some ?v3_2 := hV9.l 2 62; have p9_3 : t9[63]? = some ?v3_3 := hV9.l 3 63; clear hV9 hO9; clear hL9 hD9; go_simp
        (refine hK9 _ _ ((fun a => Chg.refl _ a) w9) ?_ hM9; exact rfl)
       case s3_18 =>
        intro L9 u9 t9 w9 hT9 hL9 hD9 hV9 hO9 hM9 K9 hK9; obtain ⟨x9_14, p9_14, q9_14⟩ := hV9.g 14 74 rfl rfl (by kernel_rfl); obtain ⟨q9_14, e9_14⟩ := q9_14; replace q9_14 : ((fun v _ => ∃ s : ByteArray, v = .string s /\ s.size <= 10)) x9_14 w9 := q9_14; have p9_17 : t9[76]? = some ?v3_17 := hV9.l 17 76; clear hV9 hO9; clear e9_14; obtain ⟨y9, rfl, hy9⟩ := q9_14; obtain ⟨_, -, d9, f9⟩ := hM9.celr hx; have m9 := Z' (hM9.setr x y9 (by unfold maxLen; omega)); clear hM9; go_simp; exact hK9 undef _ ((Chg.refl _ w9).setCell (p := ⟨gr, x, none⟩) (.inr (.inr rfl)) _) trivial m9.out
       case n3 =>
        intro L9 u9 h9; exact HS2.out.drew
       case k3 =>
        intro i9 v9 w9 x9 h9 g9
        match i9, h9 with
        | 0, h9 => exact h9
        | 1, h9 => exact h9
        | 2, h9 => exact h9
        | 3, h9 => exact h9
        | 4, h9 => exact h9
        | 5, h9 => exact h9
        | 6, h9 => exact h9
        | 7, h9 => exact h9
        | 8, h9 => exact h9
        | 9, h9 => exact h9
        | 10, h9 => (replace h9 : (fun v w => BS B8 9 [.string ⟨#[111, 98, 106]⟩, .string ⟨#[100, 101, 116]⟩, .string ⟨#[]⟩] 3 v w) v9 w9 := h9); exact BS.chg h9 g9 hSx
        | 11, h9 => exact h9
        | 12, h9 => exact h9
        | 13, h9 => (replace h9 : (fun v w => ∃ (g r : Nat), v = .pointer (some ⟨g, r, none⟩) /\ r < 3 /\ B8 <= g /\ Own w g 9 [.string ⟨#[111, 98, 106]⟩, .string ⟨#[100, 101, 116]⟩, .string ⟨#[]⟩]) v9 w9 := h9); obtain ⟨g9', r9', e91, e92, e93, e94⟩ := h9; exact ⟨g9', r9', e91, e92, e93, g9.own e94 fun h => by have := hSx _ h; omega⟩
        | 14, h9 => exact h9
        | 15, h9 => exact h9
        | 16, h9 => exact h9
        | 17, h9 => exact h9
        | 18, h9 => exact h9
        | _ + 19, h9 => exact trivial
       intro u9 w9 hE9 hM9 hu9; have r9_0 : u9 0 = ?v3_0 := hu9 0 (by decide); have r9_1 : u9 1 = ?v3_1 := hu9 1 (by decide); have r9_2 : u9 2 = ?v3_2 := hu9 2 (by decide); have r9_3 : u9 3 = ?v3_3 := hu9 3 (by decide); have r9_4 : u9 4 = ?v3_4 := hu9 4 (by decide); have r9_5 : u9 5 = ?v3_5 := hu9 5 (by decide); have r9_6 : u9 6 = ?v3_6 := hu9 6 (by decide); have r9_7 : (fun v _ => ∃ r : Nat, v = .int .i64 (r : Int) /\ r < j) (u9 7) w9 := hu9 7 (by decide); have r9_8 : (fun v _ => ∃ r : Nat, v = .pointer (some ⟨go, r, none⟩) /\ r < i) (u9 8) w9 := hu9 8 (by decide); have r9_9 : (fun v _ => ∃ y : Int, v = .int .i64 y /\ I64 y) (u9 9) w9 := hu9 9 (by decide); have r9_10 : (fun v w => BS B8 9 [.string ⟨#[111, 98, 106]⟩, .string ⟨#[100, 101, 116]⟩, .string ⟨#[]⟩] 3 v w) (u9 10) w9 := hu9 10 (by decide); have r9_11 : u9 11 = ?v3_11 := hu9 11 (by decide); have r9_12 : (fun v _ => ∃ r : Nat, v = .int .i64 (r : Int) /\ r < 3) (u9 12) w9 := hu9 12 (by decide)
       have r9_13 : (fun v w => ∃ (g r : Nat), v = .pointer (some ⟨g, r, none⟩) /\ r < 3 /\ B8 <= g /\ Own w g 9 [.string ⟨#[111, 98, 106]⟩, .string ⟨#[100, 101, 116]⟩, .string ⟨#[]⟩]) (u9 13) w9 := hu9 13 (by decide); have r9_14 : (fun v _ => ∃ s : ByteArray, v = .string s /\ s.size <= 10) (u9 14) w9 := hu9 14 (by decide); have r9_15 : u9 15 = ?v3_15 := hu9 15 (by decide); have r9_17 : u9 17 = ?v3_17 := hu9 17 (by decide); clear hu9
       simp only [putAll, Act.put, List.setIfInBounds_toArray, List.set_cons_succ, List.set_cons_zero, List.getD_cons_succ, List.getD_cons_zero, Nat.reduceAdd, Nat.zero_add]
       simp only [r9_0, r9_1, r9_2, r9_3, r9_4, r9_5, r9_6, r9_11, r9_15, r9_17]
       clear r9_0 r9_1 r9_2 r9_3 r9_4 r9_5 r9_6 r9_11 r9_15 r9_17; have HS3 := Z' hM9; have hc10 := hc9.trans ((Chg.refl _ w2).drew.trans hE9); clear hM9 HS2 hc9 hE9 HC3 hSx hs8 r9_7 r9_8 r9_9 r9_10 r9_12 r9_13 r9_14; obtain ⟨y, hy, ky, -⟩ := HS3.out.celh hx; obtain ⟨z, hz, kz, -⟩ := HS3.out.celr hx
       cases sm
       ·skip
        by_cases hym : y = -1
        ·skip
         subst hym
         by_cases hzm : z = ⟨#[]⟩
         ·skip
          have d1 : (z.toList == []) = true := by rw [hzm, ByteArray.toList_eq]; rfl
          have d2 : (z.toList != []) = false := by rw [hzm, ByteArray.toList_eq]; rfl
          have d3 : z.toList = [] := by rw [hzm, ByteArray.toList_eq]
          have d4 : z.toList.isEmpty = true := by rw [hzm, ByteArray.toList_eq]; rfl
          clear hzm
          go_wp2
          go_roundg (i + 1 - (j + 1))
          case measure => omega
          case rel => exact ⟨j + 1, _, rfl, by omega, by go_num, rfl, HS3, hc10⟩
         ·skip
          have d0 : z.toList ≠ [] := fun e => hzm (bytes_ext (by rw [<- ByteArray.toList_eq, e])); have d1 : (z.toList == []) = false := beq_eq_false_iff_ne.2 d0; have d2 : (z.toList != []) = true := by rw [bne_iff_ne]; exact d0
          have d4 : z.toList.isEmpty = false := by cases hz9 : z.toList with | nil => exact absurd hz9 d0 | cons a r => rfl
          go_wp2
          go_roundg (i + 1 - (j + 1))
          case measure => omega
          case rel => exact ⟨j + 1, _, rfl, by omega, by go_num, rfl, HS3, hc10⟩
        ·skip
         have qe : ((y : Int) == (-1 : Int)) = false := beq_eq_false_iff_ne.2 (by omega); have qd : ((y : Int) != (-1 : Int)) = true := by rw [bne_iff_ne]; omega
         go_wp2
         go_roundg (i + 1 - (j + 1))
         case measure => omega
         case rel => exact ⟨j + 1, _, rfl, by omega, by go_num, rfl, HS3, hc10⟩
       ·skip
        go_wp2
        go_roundg (i + 1 - (j + 1))
        case measure => omega
        case rel => exact ⟨j + 1, _, rfl, by omega, by go_num, rfl, HS3, hc10⟩
      ·skip
       have d0 : decide ((0 : Int) < (r : Int)) = false := decide_eq_false (by omega); have d0n : decide (0 < r) = false := decide_eq_false (by omega); obtain ⟨y, hy, ky, -⟩ := HS2.out.celh hx; obtain ⟨z, hz, kz, -⟩ := HS2.out.celr hx
       cases sm
       ·skip
        by_cases hym : y = -1
        ·skip
         subst hym
         by_cases hzm : z = ⟨#[]⟩
         ·skip
          have d1 : (z.toList == []) = true := by rw [hzm, ByteArray.toList_eq]; rfl
          have d2 : (z.toList != []) = false := by rw [hzm, ByteArray.toList_eq]; rfl
          have d3 : z.toList = [] := by rw [hzm, ByteArray.toList_eq]
          have d4 : z.toList.isEmpty = true := by rw [hzm, ByteArray.toList_eq]; rfl
          clear hzm
          go_wp2
          go_roundg (i + 1 - (j + 1))
          case measure => omega
          case rel => exact ⟨j + 1, _, rfl, by omega, by go_num, rfl, HS2, hc9⟩
         ·skip
          have d0 : z.toList ≠ [] := fun e => hzm (bytes_ext (by rw [<- ByteArray.toList_eq, e])); have d1 : (z.toList == []) = false := beq_eq_false_iff_ne.2 d0; have d2 : (z.toList != []) = true := by rw [bne_iff_ne]; exact d0
          have d4 : z.toList.isEmpty = false := by cases hz9 : z.toList with | nil => exact absurd hz9 d0 | cons a r => rfl
          go_wp2
          go_roundg (i + 1 - (j + 1))
          case measure => omega
          case rel => exact ⟨j + 1, _, rfl, by omega, by go_num, rfl, HS2, hc9⟩
        ·skip
         have qe : ((y : Int) == (-1 : Int)) = false := beq_eq_false_iff_ne.2 (by omega); have qd : ((y : Int) != (-1 : Int)) = true := by rw [bne_iff_ne]; omega
         go_wp2
         go_roundg (i + 1 - (j + 1))
         case measure => omega
         case rel => exact ⟨j + 1, _, rfl, by omega, by go_num, rfl, HS2, hc9⟩
       ·skip
        go_wp2
        go_roundg (i + 1 - (j + 1))
        case measure => omega
        case rel => exact ⟨j + 1, _, rfl, by omega, by go_num, rfl, HS2, hc9⟩
     ·skip
      have d0 : decide ((0 : Int) < (j : Int)) = false := decide_eq_false (by omega); have d0n : decide (0 < j) = false := decide_eq_false (by omega); obtain ⟨y, hy, ky, -⟩ := HS1.out.celh hx; obtain ⟨z, hz, kz, -⟩ := HS1.out.celr hx
      cases sm
      ·skip
       by_cases hym : y = -1
       ·skip
        subst hym
        by_cases hzm : z = ⟨#[]⟩
        ·skip
         have d1 : (z.toList == []) = true := by rw [hzm, ByteArray.toList_eq]; rfl
         have d2 : (z.toList != []) = false := by rw [hzm, ByteArray.toList_eq]; rfl
         have d3 : z.toList = [] := by rw [hzm, ByteArray.toList_eq]
         have d4 : z.toList.isEmpty = true := by rw [hzm, ByteArray.toList_eq]; rfl
         clear hzm
         go_wp2
         go_roundg (i + 1 - (j + 1))
         case measure => omega
         case rel => exact ⟨j + 1, _, rfl, by omega, by go_num, rfl, HS1, hc8⟩
        ·skip
         have d0 : z.toList ≠ [] := fun e => hzm (bytes_ext (by rw [<- ByteArray.toList_eq, e])); have d1 : (z.toList == []) = false := beq_eq_false_iff_ne.2 d0; have d2 : (z.toList != []) = true := by rw [bne_iff_ne]; exact d0
         have d4 : z.toList.isEmpty = false := by cases hz9 : z.toList with | nil => exact absurd hz9 d0 | cons a r => rfl
         go_wp2
         go_roundg (i + 1 - (j + 1))
         case measure => omega
         case rel => exact ⟨j + 1, _, rfl, by omega, by go_num, rfl, HS1, hc8⟩
       ·skip
        have qe : ((y : Int) == (-1 : Int)) = false := beq_eq_false_iff_ne.2 (by omega); have qd : ((y : Int) != (-1 : Int)) = true := by rw [bne_iff_ne]; omega
        go_wp2
        go_roundg (i + 1 - (j + 1))
        case measure => omega
        case rel => exact ⟨j + 1, _, rfl, by omega, by go_num, rfl, HS1, hc8⟩
      ·skip
       go_wp2
       go_roundg (i + 1 - (j + 1))
       case measure => omega
       case rel => exact ⟨j + 1, _, rfl, by omega, by go_num, rfl, HS1, hc8⟩
    ·skip
     have dj : decide ((j : Int) < (i : Int)) = false := decide_eq_false (by omega); have djn : decide (j < i) = false := decide_eq_false (by omega)
     cases sm
     ·skip
      have hcc2 : Chg (fun k => k = p \/ k = gc) w wr := (hch.mono (T := fun k => (k = p \/ k = gc) \/ w.heap.size <= k) fun k _ e => .inl e).trans (hc7.mono fun k _ e => e.elim (fun e => .inl (.inl e)) fun e => .inr (by have := HB3.out; have := HB9.out; omega)) |>.mono fun k hk e => e.elim id fun e => by omega
      have o_c2 := hc7.own o_c (by have := HB9.out; have := HB3.out; omega)
      go_wp2
      go_end0
      exact ⟨rfl, HSR.out.tp, hcc2, _, _, [], [], o_c2, EO.nil _ _ _ _, EO.nil _ _ _ _⟩
     ·skip
      have hcc2 : Chg (fun k => (k = p \/ k = gc) \/ w.heap.size <= k) w wr := (hch.mono (T := fun k => (k = p \/ k = gc) \/ w.heap.size <= k) fun k _ e => .inl e).trans (hc7.mono fun k _ e => e.elim (fun e => .inl (.inl e)) fun e => .inr (by have := HB3.out; have := HB9.out; omega)); have hgn : ¬ (gc = p \/ gc = gh \/ gc = gr) := by have := HB9.out; have := HB3.out; omega
      have o_c2 := hc7.own o_c hgn; have k5 := o_c2.c5; have k6 := o_c2.c6; have f5 := o_c2.frozen 5; have f6 := o_c2.frozen 6; have o_c3 := (o_c2.set_ 5 (.slice (some ⟨gh, 0, none⟩) i i)).set_ 6 (.slice (some ⟨gr, 0, none⟩) i i); have hcz : Chg (fun k => k = gc) wr ((wr.setCell ⟨gc, 5, none⟩ (.slice (some ⟨gh, 0, none⟩) i i)).setCell ⟨gc, 6, none⟩ (.slice (some ⟨gr, 0, none⟩) i i)) := ((Chg.refl (fun k => k = gc) wr).setCell (p := ⟨gc, 5, none⟩) rfl _).setCell (p := ⟨gc, 6, none⟩) rfl _; have HC9 := Z' hcz; have HO3 := Z' o_c3; clear hcz o_c3
      go_wp2
      go_end0
      have hgc1 : B <= gc := hBg; obtain ⟨H, hH1, hH2, hH3⟩ := HSR.out.hh; obtain ⟨R, hR1, hR2, hR3⟩ := HSR.out.rr; have hhn : ¬ (gh < w.heap.size) := by have := HB9.out; have := HB3.out; omega
      have hrn : ¬ (gr < w.heap.size) := by have := HB9.out; have := HB3.out; omega
      have hH4 := HC9.out.own hH3 (by omega); have hR4 := HC9.out.own hR3 (by omega); have e1 := EO.of_block (S := fun k => k < w.heap.size) (E := EInt) (f := Value.int .i64) hH4 hhn (fun x hx => ⟨rfl, hH2 x hx⟩) (by rw [hH1]; unfold maxLen; omega); have e2 := EO.of_block (S := fun k => k < w.heap.size) (E := EStr) (f := Value.string) hR4 hrn (fun x hx => ⟨rfl, hR2 x hx⟩) (by rw [hR1]; unfold maxLen; omega); rw [hH1] at e1; rw [hR1] at e2; exact ⟨rfl, HSR.out.tp.keep (HC9.out.mono fun k _ e => by omega), (hcc2.trans (HC9.out.mono fun k _ e => .inl (.inr e))).mono fun k hk e => e.elim id fun e => by omega, _, _, H, R, HO3.out, e1, e2⟩
end Go.Proofs.YtjimfbmegmnocaaGreatDoor
