/- Parts of the proof: Qd. No condition of its own. -/
import Derived.Test.YtjimfbmegmnocaaGreatDoorQc
set_option linter.unusedSimpArgs false
set_option linter.unusedVariables false
set_option maxRecDepth 100000
set_option maxHeartbeats 20000000
namespace Go.Proofs.YtjimfbmegmnocaaGreatDoor
open Go.RowKit

theorem own_row9 {w : World} {B g n size : Nat} {t : TypeId} {cs : List Value} (o : Own w g t cs) (hB : B <= g) (hn : cs.length = n * size) (hm : n <= maxLen) : w.ownsRow B t size (.slice (some ⟨g, 0, none⟩) n n) n cs :=
 ⟨hn, .inr ⟨g, n, cs.toArray, rfl, hB, o, Nat.le_refl _, hm, by simpa using hn, by simp [<- hn]⟩⟩
def ETok (B3 : Nat) (w : World) (r : List ByteArray) (e : List Value) : Prop := ∃ v, e = [v] /\ w.ownsRow B3 9 1 v 3 (r.map Value.string) /\ r.length = 3 /\ ∀ s ∈ r, s.size <= 10
theorem ETok.chg {B3 : Nat} {w w' : World} {r : List ByteArray} {e : List Value} {S : Nat -> Prop} (h : ETok B3 w r e) (hc : Chg S w w') (hn : ∀ v b, e = [v] -> w.ownsRow B3 9 1 v 3 (r.map Value.string) -> v.ownBlock = some b -> ¬ S b) : ETok B3 w' r e := by
 obtain ⟨v, rfl, h1, h2, h3⟩ := h; exact ⟨v, rfl, ownsRow_chg h1 hc fun b hb => hn v b rfl h1 hb, h2, h3⟩
theorem ETok.base {B B' : Nat} {w : World} {r : List ByteArray} {e : List Value} (h : ETok B' w r e) (hb : B <= B') : ETok B w r e := by
 obtain ⟨v, rfl, h1, h2, h3⟩ := h; exact ⟨v, rfl, ownsRow_base h1 hb, h2, h3⟩
theorem ETok.row {B3 : Nat} {w : World} {r : List ByteArray} {e : List Value} {S : Nat -> Prop} (h : ETok B3 w r e) (hS : ∀ k, B3 <= k -> ¬ S k) : ERow S w r e := by
 obtain ⟨v, rfl, h1, h2, h3⟩ := h; refine ⟨v, rfl, r.map fun s => [.string s], Els.one1 fun s hs => ⟨rfl, by have := h3 s hs; unfold maxLen; omega⟩, ?_⟩; rw [flat1, h2]; exact SO.of_own h1 hS
def EReg (B3 : Nat) (w : World) (t : Spn) (e : List Value) : Prop := ∃ m, e = [.string t.name, .int .i64 t.lo, .int .i64 t.hi, m] /\ t.name.size <= 10 /\ I64 t.lo /\ I64 t.hi /\ w.ownsRow B3 95 2 m t.keys.length (t.keys.map fun q => [Value.string q.1, Value.string q.2]).flatten /\ (∀ q ∈ t.keys, q.1.size <= 10 /\ q.2.size <= 10)
theorem EReg.chg {B3 : Nat} {w w' : World} {t : Spn} {e : List Value} {S : Nat -> Prop} (h : EReg B3 w t e) (hc : Chg S w w') (hn : ∀ m b, w.ownsRow B3 95 2 m t.keys.length (t.keys.map fun q => [Value.string q.1, Value.string q.2]).flatten -> m.ownBlock = some b -> ¬ S b) : EReg B3 w' t e := by
 obtain ⟨m, rfl, h1, h2, h3, h4, h5⟩ := h; exact ⟨m, rfl, h1, h2, h3, ownsRow_chg h4 hc fun b hb => hn m b h4 hb, h5⟩
theorem EReg.spn {B3 : Nat} {w : World} {t : Spn} {e : List Value} {S : Nat -> Prop} (h : EReg B3 w t e) (hS : ∀ k, B3 <= k -> ¬ S k) : ESpn S w t e := by
 obtain ⟨m, rfl, h1, h2, h3, h4, h5⟩ := h; refine ⟨m, rfl, by unfold maxLen; omega, h2, h3, t.keys.map fun q => [Value.string q.1, Value.string q.2], ⟨by simp, ?_, ?_⟩, ?_⟩
 ·intro e he; obtain ⟨q, -, rfl⟩ := List.mem_map.1 he
  rfl
 ·intro i e x g1 g2; rw [List.getElem?_map, g2] at g1
  cases g1
  have := h5 x (List.mem_of_getElem? g2); exact ⟨rfl, by unfold maxLen; omega, by unfold maxLen; omega⟩
 ·exact SO.of_own h4 hS
structure DocC (name : ByteArray) (most : Nat) (C : Cor) : Prop where
 attrs : C.attrs = atts9
 pos : 0 < C.toks.length
 few : C.toks.length <= most
 rows : ∀ t ∈ C.toks, t.length = 3
 texts : ∃ ks, C.texts = [⟨name, 0, C.toks.length, ks⟩]
def DocRes (S : Nat -> Prop) (name : ByteArray) (most : Nat) (e : Ending) (w : World) : Prop := ∃ v C, e = .returned v /\ CorV S w v C /\ DocC name most C
structure MT (T : Option Addr × List Int × Nat) (B p gt gc : Nat) (name : ByteArray) (n : Nat) (w : World) : Prop where
 tp : TP T B w p
 o : ∃ m ks, Own w gt 89 [.string name, .int .i64 0, .int .i64 (n : Int), m] /\ PairsO (fun k => k = p \/ k <= gc) w m ks
 hB : B <= gt
 hg : gt <= gc
section
variable {T : Option Addr × List Int × Nat} {B p gt gc n : Nat} {name : ByteArray} {w w' : World}
theorem MT.grow (h : MT T B p gt gc name n w) (hb : Below w.heap.size w w') : MT T B p gt gc name n w' :=
 ⟨h.tp.below hb, let ⟨m, ks, a, b⟩ := h.o; ⟨m, ks, a.below hb a.lt, EO.below b hb⟩, h.hB, h.hg⟩
theorem MT.next (h : MT T B p gt gc name n w) (hc : Chg (fun k => k = p) w w') (tp : TP T B w' p) : MT T B p gt gc name n w' := by
 have := tp.lt; have := h.hB; exact ⟨tp, let ⟨m, ks, a, b⟩ := h.o; ⟨m, ks, hc.own a (by omega), EO.chg' b (hc.mono fun k _ e => .inl e)⟩, h.hB, h.hg⟩
theorem MT.set (h : MT T B p gt gc name n w) {v : Value} {ks : List (ByteArray × ByteArray)} (hv : PairsO (fun k => k = p \/ k <= gc) w v ks) : MT T B p gt gc name n (w.setCell ⟨gt, 3, none⟩ v) := by
 obtain ⟨m, ks', a, -⟩ := h.o; have hc : Chg (fun k => k = p \/ k = gt) w (w.setCell ⟨gt, 3, none⟩ v) := (Chg.refl _ w).setCell (p := ⟨gt, 3, none⟩) (.inr rfl) v; exact ⟨h.tp.keep ((Chg.refl _ w).setCell (p := ⟨gt, 3, none⟩) h.hB v), ⟨v, ks, a.set_ 3 v, EO.chg' hv (hc.mono fun k _ e => e.imp id fun e => by have := h.hg; omega)⟩, h.hB, h.hg⟩
end
theorem pair_of_block {S : Nat -> Prop} {w : World} {g : Nat} {t : TypeId} {a b : ByteArray} (o : Own w g t [.string a, .string b]) (ha : a.size <= 10) (hb : b.size <= 10) (hg : ¬ S g) : PairsO S w (.slice (some ⟨g, 0, none⟩) 1 1) [(a, b)] :=
 ⟨[[.string a, .string b]], Els.one rfl ⟨rfl, by unfold maxLen; show a.size <= _; omega, by unfold maxLen; show b.size <= _; omega⟩, some ⟨g, 0, none⟩, 1, rfl, Nat.le_refl _, by unfold maxLen; omega, fun j u hu => ⟨g, 0, rfl, hg, by rw [Nat.zero_add, o.cell]; exact hu⟩⟩
theorem idx_at : ∀ r, r < 8 -> ∃ y : Nat, ([.int .i64 0, .int .i64 1, .int .i64 0, .int .i64 2, .int .i64 3, .int .i64 4, .int .i64 1, .int .i64 5] : List Value)[r]? = some (.int .i64 (y : Int)) /\ y < 6 := by
 intro r hr
 rcases (show r = 0 \/ r = 1 \/ r = 2 \/ r = 3 \/ r = 4 \/ r = 5 \/ r = 6 \/ r = 7 by omega) with rfl | rfl | rfl | rfl | rfl | rfl | rfl | rfl
 ·exact ⟨0, rfl, by decide⟩
 ·exact ⟨1, rfl, by decide⟩
 ·exact ⟨0, rfl, by decide⟩
 ·exact ⟨2, rfl, by decide⟩
 ·exact ⟨3, rfl, by decide⟩
 ·exact ⟨4, rfl, by decide⟩
 ·exact ⟨1, rfl, by decide⟩
 ·exact ⟨5, rfl, by decide⟩
theorem document_made {T : Option Addr × List Int × Nat} {B p : Nat} (w : World) (tp : TP T B w p) (name : ByteArray) (hname : name.size <= 10) (most : Nat) (hm0 : 0 < most) (hm : most <= 100) :
  Calls Tryz.prog 19 #[.pointer (some ⟨p, 0, none⟩), .string name, .int .i64 (most : Int)] w fun e w' => DocRes (fun k => k < w.heap.size) name most e w' /\ TP T B w' p /\ Chg (fun k => k = p) w w' := by
 have hp := tp.lt; have hBw := tp.size; obtain ⟨B3, hB3⟩ : ∃ B3, B3 = w.heap.size := ⟨_, rfl⟩; obtain ⟨o_r, hbw⟩ := new1 w [.slice none 0 0, .slice none 0 0, .slice none 0 0, .slice none 0 0, .slice none 0 0, .slice none 0 0, .slice none 0 0] 30; rw [<- hB3] at o_r; have tp0 := tp.below hbw
 go_enter Tryz.func19, Tryz.ntmps19
 go_upto_region 1 with (fail)
 have hsz : (w.alloc (.cells #[.slice none 0 0, .slice none 0 0, .slice none 0 0, .slice none 0 0, .slice none 0 0, .slice none 0 0, .slice none 0 0] 30)).heap.size = w.heap.size + 1 := by simp
 generalize (w.alloc (.cells #[.slice none 0 0, .slice none 0 0, .slice none 0 0, .slice none 0 0, .slice none 0 0, .slice none 0 0, .slice none 0 0] 30)) = wb at o_r hbw tp0 hsz |-; rw [<- hB3] at hsz hbw |-; have HB3 := Z' hB3; have hBB3 : B <= B3 := by omega
 clear hB3 tp
 go_wp2_with fail
 refine (next9 T B p most _ rfl _ tp0 hm0 (by omega)).mono ?_; rintro e w1 ⟨r0, rfl, hr0, tp1, hc1⟩; obtain ⟨n, hn⟩ : ∃ n, n = 1 + r0 := ⟨_, rfl⟩; have zn : IntKind.i64.wrap (1 + (r0 : Int)) = (n : Int) := (IntWalk.i64_in _ (by omega)).trans (by omega); have hn0 : 0 < n := by omega
 have hnm : n <= most := by omega
 clear hn hr0; have hw1 := hc1.size; replace o_r := hc1.own o_r (by have := HB3.out; omega); have hch : Chg (fun k => k = p) w w1 := (Chg.of_below (S := fun k => k = p) (HB3.out ▸ hbw) fun k h1 h2 => by omega).trans hc1; clear tp0 hc1 hbw
 go_upto_region 2 with (fail)
 clear zn
 go_wp2_with fail
 refine (attributes_made (S := fun k => k <= B3) w1 (fun k h => by have := HB3.out; omega)).mono ?_; rintro e w2 ⟨⟨va, rfl, HA⟩, hb2⟩; obtain ⟨Aa, ca, rfl, -, -, HA⟩ := EO.form HA; replace HA := Z' (EO.fresh HA); have hw2 := hb2.size; replace o_r := o_r.below hb2 (by omega); replace tp1 := tp1.below hb2; replace hch := hch.trans (Chg.of_below (S := fun k => k = p) hb2 fun k h1 h2 => by omega); clear hb2; obtain ⟨o_t, o_c, hb3⟩ := new2 w2 [.string name, .int .i64 0, .int .i64 (n : Int), .slice none 0 0] [.slice Aa atts9.length ca, .slice none 0 0, .slice (some ⟨w2.heap.size, 0, none⟩) 1 1, .slice none 0 0, .slice none 0 0, .slice none 0 0, .slice none 0 0] 89 30; have hs3 : ((w2.alloc (.cells #[.string name, .int .i64 0, .int .i64 (n : Int), .slice none 0 0] 89)).alloc (.cells #[.slice Aa atts9.length ca, .slice none 0 0, .slice (some ⟨w2.heap.size, 0, none⟩) 1 1, .slice none 0 0, .slice none 0 0, .slice none 0 0, .slice none 0 0] 30)).heap.size = w2.heap.size + 2 := by simp
 go_upto_region 3 with (fail)
 generalize ((w2.alloc (.cells #[.string name, .int .i64 0, .int .i64 (n : Int), .slice none 0 0] 89)).alloc (.cells #[.slice Aa atts9.length ca, .slice none 0 0, .slice (some ⟨w2.heap.size, 0, none⟩) 1 1, .slice none 0 0, .slice none 0 0, .slice none 0 0, .slice none 0 0] 30)) = w3 at o_t o_c hb3 hs3 |-; replace o_r := o_r.below hb3 (by omega); replace tp1 := tp1.below hb3; replace hch := hch.trans (Chg.of_below (S := fun k => k = p) hb3 fun k h1 h2 => by omega); replace HA := Z' (EO.chg' HA.out (Chg.of_below (S := fun k => k <= B3 \/ w2.heap.size <= k) hb3 fun k h1 h2 => .inr (by omega))); obtain ⟨gt, hgt⟩ : ∃ x, x = w2.heap.size := ⟨_, rfl⟩; obtain ⟨gc, hgc⟩ : ∃ x, x = gt + 1 := ⟨_, rfl⟩; rw [<- hgt] at o_t o_c hs3 HA |-; rw [<- hgc] at o_c |-; have HGC := Z' hgc; have hgt3 : B3 + 1 <= gt := by omega
 clear hb3 hgt hw2 hw1 hgc; have hgc3 : gc < w3.heap.size := by have := HGC.out; omega
 have hgB : gt < gc := by have := HGC.out; omega
 clear hs3
 go_wp2_with fail
 refine (next9 T B p 3 _ rfl _ tp1 (by decide) (by decide)).mono ?_; rintro e w4 ⟨r1, rfl, hr1, tp2, hc4⟩; have hw4 := hc4.size; replace o_r := hc4.own o_r (by omega); replace o_c := hc4.own o_c (by omega); replace o_t := hc4.own o_t (by omega); replace HA := Z' (EO.chg' HA.out (hc4.mono fun k _ e => by omega)); replace hch := hch.trans hc4; clear tp1 hc4; have HMT : Hid (MT T B p gt gc name n w4) := ⟨tp2, ⟨_, [], o_t, EO.nil _ _ _ _⟩, by omega, by omega⟩; clear o_t tp2
 go_upto_if 30 with (fail)
 go_cut [] (fun wx => Hid (MT T B p gt gc name n wx) /\ Chg (fun k => k = p \/ k = gt) w4 wx)
 case first =>
  by_cases h12 : r1 = 2
  ·skip
   subst h12
   go_upto_region 4 with (fail)
   obtain ⟨B8, hB8⟩ : ∃ B8, B8 = w4.heap.size := ⟨_, rfl⟩; have HB8 := Z' hB8; have hs8 : B8 <= w4.heap.size := Nat.le_of_eq hB8; clear hB8; have hSx : ∀ k, (k = p \/ k = gt) -> k < B8 := fun k h => by have := HB8.out; omega
   have kc := o_c.c2; have ngc : ¬ (gc = p \/ gc = gt) := by omega
   refine wp_reg_m (fun a b => Chg (fun k => k = p \/ k = gt) a b) (fun L u w8 => MT T B p gt gc name n w8) ((fun a => Chg.refl _ a)) ((fun _ _ _ h h' => h.trans h')) [some 31, some 32, some 33, some 34, some 35, some 36, some 37, some 38, some 39, some 40, some 41, none] [isV ?v1_0, isV (.slice (some ⟨gt, 0, none⟩) 1 1), (fun v w => BS B8 9 [.string ⟨#[49]⟩, .string ⟨#[50]⟩, .string ⟨#[]⟩] 3 v w), isV ?v1_3, (fun v _ => ∃ r : Nat, v = .int .i64 (r : Int) /\ r < 3), (fun v w => ∃ (g r : Nat), v = .pointer (some ⟨g, r, none⟩) /\ r < 3 /\ B8 <= g /\ Own w g 9 [.string ⟨#[49]⟩, .string ⟨#[50]⟩, .string ⟨#[]⟩]), (fun v _ => ∃ s : ByteArray, v = .string s /\ s.size <= 10), (fun v _ => ∃ s : ByteArray, v = .agg #[.string ⟨#[121, 101, 97, 114]⟩, .string s] /\ s.size <= 10), (fun v w => ∃ s : ByteArray, s.size <= 10 /\ BS B8 95 [.string ⟨#[121, 101, 97, 114]⟩, .string s] 1 v w), isV ?v1_9, isV ?v1_10, anyV] rfl (by kernel_rfl) rfl rfl ?n1 ?k1 ⟨?s1_0, ?s1_1, ?s1_2, ?s1_3, ?s1_4, ?s1_5, ?s1_6, ?s1_7, ?s1_8, ?s1_9, ?s1_10, ?s1_11, trivial⟩ ?p1
   case s1_0 =>
    intro L9 u9 t9 w9 hT9 hL9 hD9 hV9 hO9 hM9 K9 hK9; have o9_8 := hO9.l 8; clear hV9 hO9; clear hL9 hD9; go_simp
    (refine hK9 _ _ ((fun a => Chg.refl _ a) w9) ?_ hM9; exact rfl)
   case s1_1 =>
    intro L9 u9 t9 w9 hT9 hL9 hD9 hV9 hO9 hM9 K9 hK9; have p9_0 : t9[31]? = some ?v1_0 := hV9.l 0 31; clear hV9 hO9; have d9 := hT9.cell (w := w4.drew) kc ngc; go_simp; exact hK9 _ _ (Chg.refl _ w9) rfl hM9
   case s1_2 =>
    intro l u t w T L D V O M K k; clear V O; have h8 : B8 <= w.heap.size := Nat.le_trans hs8 T.size; go_simp; exact k _ _ ((Chg.refl _ w).alloc _) (BS.made h8) (M.grow ((Below.refl _ _).alloc (Nat.le_refl _) _))
   case s1_3 =>
    intro L9 u9 t9 w9 hT9 hL9 hD9 hV9 hO9 hM9 K9 hK9; have o9_0 := hO9.l 0; clear hV9 hO9; clear hL9 hD9; go_simp
    (refine hK9 _ _ ((fun a => Chg.refl _ a) w9) ?_ hM9; exact rfl)
   case s1_4 =>
    intro L9 u9 t9 w9 hT9 hL9 hD9 hV9 hO9 hM9 K9 hK9; have p9_3 : t9[34]? = some ?v1_3 := hV9.l 3 34; clear hV9 hO9; go_simp; refine (next9 T B p 3 _ rfl _ hM9.tp (by decide) (by decide)).mono ?_; rintro _ w8 ⟨r9, rfl, hr9, htp9, hc9'⟩; exact hK9 _ _ (hc9'.mono fun k _ e => .inl e) ⟨r9, rfl, hr9⟩ (hM9.next hc9' htp9)
   case s1_5 =>
    intro L9 u9 t9 w9 hT9 hL9 hD9 hV9 hO9 hM9 K9 hK9; obtain ⟨x9_2, p9_2, q9_2⟩ := hV9.g 2 33 rfl rfl (by kernel_rfl); obtain ⟨q9_2, e9_2⟩ := q9_2; replace q9_2 : ((fun v w => BS B8 9 [.string ⟨#[49]⟩, .string ⟨#[50]⟩, .string ⟨#[]⟩] 3 v w)) x9_2 w9 := q9_2; obtain ⟨x9_4, p9_4, q9_4⟩ := hV9.g 4 35 rfl rfl (by kernel_rfl); obtain ⟨q9_4, e9_4⟩ := q9_4; replace q9_4 : ((fun v _ => ∃ r : Nat, v = .int .i64 (r : Int) /\ r < 3)) x9_4 w9 := q9_4; clear hV9 hO9; clear e9_2 e9_4; obtain ⟨g9, rfl, h91, h92⟩ := q9_2; obtain ⟨r9, rfl, hr9⟩ := q9_4; have i91 : ((r9 : Nat) : Int) < 3 := by omega
    have i92 : decide (((r9 : Nat) : Int) < 3) = true := decide_eq_true i91; go_simp; exact hK9 _ _ (Chg.refl _ w9) ⟨g9, r9, rfl, hr9, h91, h92⟩ hM9
   case s1_6 =>
    intro L9 u9 t9 w9 hT9 hL9 hD9 hV9 hO9 hM9 K9 hK9; obtain ⟨x9_5, p9_5, q9_5⟩ := hV9.g 5 36 rfl rfl (by kernel_rfl); obtain ⟨q9_5, e9_5⟩ := q9_5; replace q9_5 : ((fun v w => ∃ (g r : Nat), v = .pointer (some ⟨g, r, none⟩) /\ r < 3 /\ B8 <= g /\ Own w g 9 [.string ⟨#[49]⟩, .string ⟨#[50]⟩, .string ⟨#[]⟩])) x9_5 w9 := q9_5; clear hV9 hO9; clear e9_5; obtain ⟨g9, r9, rfl, hr9, h91, h92⟩ := q9_5; obtain ⟨s9, d9, hz9⟩ := str_at (three_at _ _ _ (by decide) (by decide) (by decide)) hr9 h92; clear h92; go_simp; exact hK9 _ _ (Chg.refl _ w9) ⟨s9, rfl, hz9⟩ hM9
   case s1_7 =>
    intro l u t w T L D V O M K k; obtain ⟨x6, p6, q6⟩ := V 6 37 rfl rfl (of_decide_eq_true (by kernel_rfl)); obtain ⟨q6, e6⟩ := q6; replace q6 : ((fun v _ => ∃ s : ByteArray, v = .string s /\ s.size <= 10)) x6 w := q6; clear V O; clear e6; obtain ⟨s9, rfl, hz9⟩ := q6; go_simp; exact k _ _ (Chg.refl _ w) ⟨s9, rfl, hz9⟩ M
   case s1_8 =>
    intro l u t w T L D V O M K k; obtain ⟨x7, p7, q7⟩ := V 7 38 rfl rfl (of_decide_eq_true (by kernel_rfl)); obtain ⟨q7, e7⟩ := q7; replace q7 : ((fun v _ => ∃ s : ByteArray, v = .agg #[.string ⟨#[121, 101, 97, 114]⟩, .string s] /\ s.size <= 10)) x7 w := q7; clear V O; clear e7; obtain ⟨s9, rfl, hz9⟩ := q7; have h8 : B8 <= w.heap.size := Nat.le_trans hs8 T.size; go_simp; exact k _ _ ((Chg.refl _ w).alloc _) ⟨s9, hz9, BS.made h8⟩ (M.grow ((Below.refl _ _).alloc (Nat.le_refl _) _))
   case s1_9 =>
    intro L9 u9 t9 w9 hT9 hL9 hD9 hV9 hO9 hM9 K9 hK9; have p9_1 : t9[32]? = some ((.slice (some ⟨gt, 0, none⟩) 1 1)) := hV9.l 1 32; clear hV9 hO9; clear hL9 hD9; go_simp
    (refine hK9 _ _ ((fun a => Chg.refl _ a) w9) ?_ hM9; exact rfl)
   case s1_10 =>
    intro L9 u9 t9 w9 hT9 hL9 hD9 hV9 hO9 hM9 K9 hK9; have p9_9 : t9[40]? = some ?v1_9 := hV9.l 9 40; clear hV9 hO9; clear hL9 hD9; go_simp
    (refine hK9 _ _ ((fun a => Chg.refl _ a) w9) ?_ hM9; exact rfl)
   case s1_11 =>
    intro L9 u9 t9 w9 hT9 hL9 hD9 hV9 hO9 hM9 K9 hK9; obtain ⟨x9_8, p9_8, q9_8⟩ := hV9.g 8 39 rfl rfl (by kernel_rfl); obtain ⟨q9_8, e9_8⟩ := q9_8; replace q9_8 : ((fun v w => ∃ s : ByteArray, s.size <= 10 /\ BS B8 95 [.string ⟨#[121, 101, 97, 114]⟩, .string s] 1 v w)) x9_8 w9 := q9_8; have p9_10 : t9[41]? = some ?v1_10 := hV9.l 10 41; clear hV9 hO9; clear e9_8; obtain ⟨s9, hz9, g9, rfl, h91, h92⟩ := q9_8; obtain ⟨_, _, o9, -⟩ := hM9.o; have d9 := o9.cell 3; have f9 := o9.frozen 3; have m9 := Z' (hM9.set (pair_of_block (S := fun k => k = p \/ k <= gc) h92 (by decide) hz9 (fun h => by have := HB8.out; omega))); clear hM9 o9 h92; go_simp; exact hK9 undef _ ((Chg.refl _ w9).setCell (p := ⟨gt, 3, none⟩) (.inr rfl) _) trivial m9.out
   case n1 =>
    intro L9 u9 h9; exact ⟨HMT.out.tp.drew, HMT.out.o, HMT.out.hB, HMT.out.hg⟩
   case k1 =>
    intro i9 v9 w9 x9 h9 g9
    match i9, h9 with
    | 0, h9 => exact h9
    | 1, h9 => exact h9
    | 2, h9 => (replace h9 : (fun v w => BS B8 9 [.string ⟨#[49]⟩, .string ⟨#[50]⟩, .string ⟨#[]⟩] 3 v w) v9 w9 := h9); exact BS.chg h9 g9 hSx
    | 3, h9 => exact h9
    | 4, h9 => exact h9
    | 5, h9 => (replace h9 : (fun v w => ∃ (g r : Nat), v = .pointer (some ⟨g, r, none⟩) /\ r < 3 /\ B8 <= g /\ Own w g 9 [.string ⟨#[49]⟩, .string ⟨#[50]⟩, .string ⟨#[]⟩]) v9 w9 := h9); obtain ⟨g9', r9', e91, e92, e93, e94⟩ := h9; exact ⟨g9', r9', e91, e92, e93, g9.own e94 fun h => by have := hSx _ h; omega⟩
    | 6, h9 => exact h9
    | 7, h9 => exact h9
    | 8, h9 => (replace h9 : (fun v w => ∃ s : ByteArray, s.size <= 10 /\ BS B8 95 [.string ⟨#[121, 101, 97, 114]⟩, .string s] 1 v w) v9 w9 := h9); obtain ⟨s9, hz9, h9⟩ := h9; exact ⟨s9, hz9, BS.chg h9 g9 hSx⟩
    | 9, h9 => exact h9
    | 10, h9 => exact h9
    | 11, h9 => exact h9
    | _ + 12, h9 => exact trivial
   intro u9 w9 hE9 hM9 hu9; have r9_0 : u9 0 = ?v1_0 := hu9 0 (by decide); have r9_1 : u9 1 = (.slice (some ⟨gt, 0, none⟩) 1 1) := hu9 1 (by decide); have r9_2 : (fun v w => BS B8 9 [.string ⟨#[49]⟩, .string ⟨#[50]⟩, .string ⟨#[]⟩] 3 v w) (u9 2) w9 := hu9 2 (by decide); have r9_3 : u9 3 = ?v1_3 := hu9 3 (by decide); have r9_4 : (fun v _ => ∃ r : Nat, v = .int .i64 (r : Int) /\ r < 3) (u9 4) w9 := hu9 4 (by decide); have r9_5 : (fun v w => ∃ (g r : Nat), v = .pointer (some ⟨g, r, none⟩) /\ r < 3 /\ B8 <= g /\ Own w g 9 [.string ⟨#[49]⟩, .string ⟨#[50]⟩, .string ⟨#[]⟩]) (u9 5) w9 := hu9 5 (by decide); have r9_6 : (fun v _ => ∃ s : ByteArray, v = .string s /\ s.size <= 10) (u9 6) w9 := hu9 6 (by decide); have r9_7 : (fun v _ => ∃ s : ByteArray, v = .agg #[.string ⟨#[121, 101, 97, 114]⟩, .string s] /\ s.size <= 10) (u9 7) w9 := hu9 7 (by decide); have r9_8 : (fun v w => ∃ s : ByteArray, s.size <= 10 /\ BS B8 95 [.string ⟨#[121, 101, 97, 114]⟩, .string s] 1 v w) (u9 8) w9 := hu9 8 (by decide)
   have r9_9 : u9 9 = ?v1_9 := hu9 9 (by decide); have r9_10 : u9 10 = ?v1_10 := hu9 10 (by decide); clear hu9
   simp only [putAll, Act.put, List.setIfInBounds_toArray, List.set_cons_succ, List.set_cons_zero, List.getD_cons_succ, List.getD_cons_zero, Nat.reduceAdd, Nat.zero_add]
   simp only [r9_0, r9_1, r9_3, r9_9, r9_10]
   clear r9_0 r9_1 r9_3 r9_9 r9_10; have HM2 := Z' hM9; have hc5 := (Chg.refl _ w4).drew.trans hE9; clear hM9 r9_2 r9_4 r9_5 r9_6 r9_7 r9_8 kc ngc
   go_wp2_with fail
   go_meet
   exact ⟨HM2, hc5⟩
  ·skip
   have qe : (((r1 : Int) : Int) == (2 : Int)) = false := beq_eq_false_iff_ne.2 (by omega); have qd : (((r1 : Int) : Int) != (2 : Int)) = true := by rw [bne_iff_ne]; omega
   have qne : ((r1 : Nat) == (2 : Nat)) = false := beq_eq_false_iff_ne.2 (by omega); have qnd : ((r1 : Nat) != (2 : Nat)) = true := by rw [bne_iff_ne]; omega
   go_wp2_with fail
   go_meet
   exact ⟨HMT, Chg.refl _ _⟩
 case rest =>
  clear HMT; obtain ⟨HMT, hc5⟩ := hcut; have hw5 := hc5.size; have ngc : ¬ (gc = p \/ gc = gt) := by omega
  replace o_r := hc5.own o_r (by omega); replace o_c := hc5.own o_c ngc; obtain ⟨B5, hB5⟩ : ∃ B5, B5 = wc.heap.size := ⟨_, rfl⟩; have HB5 := Z' hB5; have hg5 : gc < B5 := by omega
  clear hB5; have HA5 : Hid (AttrsO (fun k => k <= B3 \/ k = gc \/ B5 <= k) wc (.slice Aa atts9.length ca) atts9) := EO.weak' (EO.chg' HA.out (hc5.mono fun k _ e => by omega)) fun k e => by omega
  obtain ⟨m0, ks, o_t, hks⟩ := HMT.out.o; have tp := HMT.out.tp; have HX5 : Hid (SpnsO (fun k => k <= B3 \/ k = gc \/ B5 <= k) wc (.slice (some ⟨gt, 0, none⟩) 1 1) [⟨name, 0, (n : Int), ks⟩]) :=
   ⟨[[.string name, .int .i64 0, .int .i64 (n : Int), m0]], Els.one rfl ⟨m0, rfl, by show name.size <= _; unfold maxLen; omega, by simp only [I64]; omega, by simp only [I64]; omega, EO.weak' (EO.fresh hks) fun k e => by have := HB5.out; omega⟩, some ⟨gt, 0, none⟩, 1, rfl, Nat.le_refl _, by unfold maxLen; omega, fun j u hu => ⟨gt, 0, rfl, by omega, by rw [Nat.zero_add, o_t.cell]; exact hu⟩⟩
  have hcc : Chg (fun k => k = p) w wc := (hch.mono (T := fun k => k = p \/ w.heap.size <= k) fun k _ e => .inl e).trans (hc5.mono fun k _ e => e.imp id fun e => by have := HB3.out; omega) |>.mono fun k hk e => e.elim id fun e => by omega
  have HCC := Z' hcc; clear HA HMT hc5 hks o_t ngc hch hcc; obtain ⟨w5, rfl⟩ : ∃ x, x = wc := ⟨_, rfl⟩
  go_wp2_with fail
  go_loopg [9] (n + 1) (fun q v9 wr => ∃ (j : Nat) (AT : Option Addr) (cT : Nat) (es : List (List Value)) (TL : List (List ByteArray)), q = n + 1 - j /\ j <= n /\ v9 = .int .i64 (j : Int) /\ Hid (TL.length = j) /\ Own wr gc 30 [.slice Aa atts9.length ca, .slice AT j cT, .slice (some ⟨gt, 0, none⟩) 1 1, .slice none 0 0, .slice none 0 0, .slice none 0 0, .slice none 0 0] /\ Hid (wr.ownsRow B5 28 1 (.slice AT j cT) j es.flatten) /\ Hid (Els 1 (ETok B5 wr) es TL) /\ TP T B wr p /\ Chg (fun k => k = p \/ k = gc) w5 wr)
  case atStart => exact ⟨0, none, 0, [], [], rfl, Nat.zero_le _, rfl, rfl, o_c, World.ownsRow_nil _ _ _ _, Els.nil _ _, tp, Chg.refl _ _⟩
  case round =>
   clear o_c tp; obtain ⟨j, AT, cT, es, TL, rfl, hj, rfl, HTL, o_c, HRW, HES, tp, hch⟩ := hrel; have hwr := hch.size; have hgl := o_c.lt
   by_cases hlt : j < n
   ·skip
    have dj : decide ((j : Int) < (n : Int)) = true := decide_eq_true (by omega); have djn : decide (j < n) = true := decide_eq_true (by omega)
    go_upto_region 8 with (fail)
    clear dj djn
    go_wp2_with fail
    refine (next9 T B p 48 _ rfl _ tp (by decide) (by decide)).mono ?_; rintro e w6 ⟨kk, rfl, hkk, tp6, hc6⟩; have hw6 := hc6.size; replace o_c := hc6.own o_c (by omega); have hpB : p < B5 := by omega
    replace HES := Z' (HES.out.mono fun r e _ h => h.chg hc6 fun v b _ h1 h2 h3 => by have := own_lt h1 b h2; omega); replace HRW := Z' (ownsRow_chg HRW.out hc6 fun b hb e => by have := own_lt HRW.out b hb; omega); replace hch := hch.trans (hc6.mono fun k _ e => .inl e); clear tp hc6; obtain ⟨m8, hm8, hm8'⟩ : ∃ m8 : Nat, kk % 8 = m8 /\ m8 < 8 := ⟨_, rfl, by omega⟩; obtain ⟨d8, hd8⟩ : ∃ d8 : Nat, kk / 8 = d8 := ⟨_, rfl⟩; obtain ⟨m2, hm2, hm2'⟩ : ∃ m2 : Nat, d8 % 2 = m2 /\ m2 < 2 := ⟨_, rfl, by omega⟩; obtain ⟨d12, hd12, hd12'⟩ : ∃ d12 : Nat, kk / 12 = d12 /\ d12 < 4 := ⟨_, rfl, by omega⟩; have z53 : (kk : Int).tmod 8 = (m8 : Int) := by rw [Int.tmod_eq_emod_of_nonneg (by omega)]; omega
    have z58 : IntKind.i64.wrap ((kk : Int).tdiv 8) = (d8 : Int) := by rw [Int.tdiv_eq_ediv_of_nonneg (by omega)]; exact (IntWalk.i64_in _ (by omega)).trans (by omega)
    have z59 : (d8 : Int).tmod 2 = (m2 : Int) := by rw [Int.tmod_eq_emod_of_nonneg (by omega)]; omega
    have z62 : IntKind.i64.wrap ((kk : Int).tdiv 12) = (d12 : Int) := by rw [Int.tdiv_eq_ediv_of_nonneg (by omega)]; exact (IntWalk.i64_in _ (by omega)).trans (by omega)
    have z58b : IntKind.i64.wrap ((kk : Int) / 8) = (d8 : Int) := (IntWalk.i64_in _ (by omega)).trans (by omega); have z62b : IntKind.i64.wrap ((kk : Int) / 12) = (d12 : Int) := (IntWalk.i64_in _ (by omega)).trans (by omega); have i53 : ((m8 : Nat) : Int) < 8 := by omega
    have i54 : decide (((m8 : Nat) : Int) < 8) = true := decide_eq_true i53; clear hm8 hd8 hm2 hd12 hkk
    go_upto_region 9 with (fail)
    obtain ⟨i1, hi1, hy0, hy1, hy2⟩ := info_parts row_info; obtain ⟨B9, hB9⟩ : ∃ B9, B9 = w6.heap.size := ⟨_, rfl⟩; have HB9 := Z' hB9; have h59 : B5 <= B9 := by have := HB5.out; omega
    have hSx : ∀ k, (k = p \/ k = gc \/ (Value.slice AT j cT).ownBlock = some k) -> k < B9 := fun k h => by
     rcases h with h | h | h
     ·omega
     ·omega
     ·have := (HRW.out.lt k h).2; omega
    have hs9 : B9 <= w6.heap.size := Nat.le_of_eq hB9; have hBg : B <= gc := by omega
    have HM1 : Hid (∀ va : Value, AP T B p B5 B9 28 1 gc [.slice Aa atts9.length ca, .slice AT j cT, .slice (some ⟨gt, 0, none⟩) 1 1, .slice none 0 0, .slice none 0 0, .slice none 0 0, .slice none 0 0] 1 j es.flatten (.slice AT j cT) (fun e w0 => ∃ r, ETok B9 w0 r e) false false false va w6.drew) := fun va => AP.start tp6.drew HRW.out o_c h59 hs9 hg5 hBg (fun e w w' ⟨r, h⟩ hc => ⟨r, h.chg hc fun v b _ h1 h2 h3 => by have := own_lt h1 b h2; omega⟩) va; clear hB9 hs9; refine wp_reg_m (fun a b => Chg (fun k => k = p \/ k = gc \/ (Value.slice AT j cT).ownBlock = some k) a b) (fun L u w8 => AP T B p B5 B9 28 1 gc [.slice Aa atts9.length ca, .slice AT j cT, .slice (some ⟨gt, 0, none⟩) 1 1, .slice none 0 0, .slice none 0 0, .slice none 0 0, .slice none 0 0] 1 j es.flatten (.slice AT j cT) (fun e w0 => ∃ r, ETok B9 w0 r e) (L 1) (L 17) (L 19) (u 17) w8) ((fun a => Chg.refl _ a)) ((fun _ _ _ h h' => h.trans h')) [some 49, some 50, some 51, some 52, some 53, some 54, some 55, some 56, some 57, some 58, some 59, some 60, some 61, some 62, some 63, some 64, some 65, some 66, some 67, none] [isV ?v2_0, isV (.slice AT j cT), (fun v w => BS B9 3 [.int .i64 0, .int .i64 1, .int .i64 0, .int .i64 2, .int .i64 3, .int .i64 4, .int .i64 1, .int .i64 5] 8 v w), isV ?v2_3, isV ?v2_4, (fun v w => ∃ g, v = .pointer (some ⟨g, m8, none⟩) /\ B9 <= g /\ Own w g 3 [.int .i64 0, .int .i64 1, .int .i64 0, .int .i64 2, .int .i64 3, .int .i64 4, .int .i64 1, .int .i64 5]), (fun v _ => ∃ y : Nat, v = .int .i64 (y : Int) /\ y < 6), (fun v _ => ∃ s : ByteArray, v = .string s /\ s.size <= 10), isV ?v2_8, isV ?v2_9, isV ?v2_10, (fun v _ => ∃ s : ByteArray, v = .string s /\ s.size <= 10), isV ?v2_12, isV ?v2_13, (fun v _ => ∃ s : ByteArray, v = .string s /\ s.size <= 10), (fun v w => ∃ a9 b9 c9 : ByteArray, a9.size <= 10 /\ b9.size <= 10 /\ c9.size <= 10 /\ BS B9 9 [.string a9, .string b9, .string c9] 3 v w), (fun v w => ∃ (a9 b9 c9 : ByteArray) (g9 : Nat), a9.size <= 10 /\ b9.size <= 10 /\ c9.size <= 10 /\ B9 <= g9 /\ Own w g9 9 [.string a9, .string b9, .string c9] /\ BS B9 28 [.slice (some ⟨g9, 0, none⟩) 3 3] 1 v w), (fun _ _ => True), isV ?v2_18, anyV] rfl (by kernel_rfl) rfl rfl ?n2 ?k2 ⟨?s2_0, ?s2_1, ?s2_2, ?s2_3, ?s2_4, ?s2_5, ?s2_6, ?s2_7, ?s2_8, ?s2_9, ?s2_10, ?s2_11, ?s2_12, ?s2_13, ?s2_14, ?s2_15, ?s2_16, ?s2_17, ?s2_18, ?s2_19, trivial⟩ ?p2
    case s2_0 =>
     intro L9 u9 t9 w9 hT9 hL9 hD9 hV9 hO9 hM9 K9 hK9; have o9_8 := hO9.l 8; clear hV9 hO9; clear hL9 hD9; go_simp
     (refine hK9 _ _ ((fun a => Chg.refl _ a) w9) ?_ hM9; exact rfl)
    case s2_1 =>
     intro L9 u9 t9 w9 hT9 hL9 hD9 hV9 hO9 hM9 K9 hK9; have p9_0 : t9[49]? = some ?v2_0 := hV9.l 0 49; clear hV9 hO9; have o9 := hM9.load hL9; have d9 := o9.cell 1; clear o9; go_simp; exact hK9 _ _ (Chg.refl _ w9) rfl hM9.seen
    case s2_2 =>
     intro l u t w T L D V O M K k; clear V O; have hs9 := M.hs; go_simp; exact k _ _ ((Chg.refl _ w).alloc _) (BS.made hs9) (M.grow ((Below.refl _ _).alloc (Nat.le_refl _) _))
    case s2_3 =>
     intro L9 u9 t9 w9 hT9 hL9 hD9 hV9 hO9 hM9 K9 hK9; have o9_10 := hO9.l 10; clear hV9 hO9; clear hL9 hD9; go_simp
     (refine hK9 _ _ ((fun a => Chg.refl _ a) w9) ?_ hM9; exact rfl)
    case s2_4 =>
     intro L9 u9 t9 w9 hT9 hL9 hD9 hV9 hO9 hM9 K9 hK9; have p9_3 : t9[52]? = some ?v2_3 := hV9.l 3 52; clear hV9 hO9; clear hL9 hD9; go_simp
     (refine hK9 _ _ ((fun a => Chg.refl _ a) w9) ?_ hM9; exact rfl)
    case s2_5 =>
     intro L9 u9 t9 w9 hT9 hL9 hD9 hV9 hO9 hM9 K9 hK9; obtain ⟨x9_2, p9_2, q9_2⟩ := hV9.g 2 51 rfl rfl (by kernel_rfl); obtain ⟨q9_2, e9_2⟩ := q9_2; replace q9_2 : ((fun v w => BS B9 3 [.int .i64 0, .int .i64 1, .int .i64 0, .int .i64 2, .int .i64 3, .int .i64 4, .int .i64 1, .int .i64 5] 8 v w)) x9_2 w9 := q9_2; have p9_4 : t9[53]? = some ?v2_4 := hV9.l 4 53; clear hV9 hO9; clear e9_2; obtain ⟨g9, rfl, h91, h92⟩ := q9_2; go_simp; exact hK9 _ _ (Chg.refl _ w9) ⟨g9, rfl, h91, h92⟩ hM9
    case s2_6 =>
     intro L9 u9 t9 w9 hT9 hL9 hD9 hV9 hO9 hM9 K9 hK9; obtain ⟨x9_5, p9_5, q9_5⟩ := hV9.g 5 54 rfl rfl (by kernel_rfl); obtain ⟨q9_5, e9_5⟩ := q9_5; replace q9_5 : ((fun v w => ∃ g, v = .pointer (some ⟨g, m8, none⟩) /\ B9 <= g /\ Own w g 3 [.int .i64 0, .int .i64 1, .int .i64 0, .int .i64 2, .int .i64 3, .int .i64 4, .int .i64 1, .int .i64 5])) x9_5 w9 := q9_5; clear hV9 hO9; clear e9_5; obtain ⟨g9, rfl, h91, h92⟩ := q9_5; obtain ⟨y9, e9, hy9⟩ := idx_at m8 hm8'; have d9 := (h92.cell m8).trans e9; clear e9 h92; go_simp; exact hK9 _ _ (Chg.refl _ w9) ⟨y9, rfl, hy9⟩ hM9
    case s2_7 =>
     intro l u t w T L D V O M K k; obtain ⟨x6, p6, q6⟩ := V 6 55 rfl rfl (of_decide_eq_true (by kernel_rfl)); obtain ⟨q6, e6⟩ := q6; replace q6 : ((fun v _ => ∃ y : Nat, v = .int .i64 (y : Int) /\ y < 6)) x6 w := q6; clear V O; clear e6; obtain ⟨y9, rfl, hy9⟩ := q6; go_simp; refine (word_made y9 hy9 _).mono ?_; rintro _ w8 ⟨⟨s9, rfl, hz9⟩, hb9⟩; exact k _ _ (Chg.grow9 hb9) ⟨s9, rfl, hz9⟩ (M.grow hb9)
    case s2_8 =>
     intro L9 u9 t9 w9 hT9 hL9 hD9 hV9 hO9 hM9 K9 hK9; have o9_10 := hO9.l 10; clear hV9 hO9; clear hL9 hD9; go_simp
     (refine hK9 _ _ ((fun a => Chg.refl _ a) w9) ?_ hM9; exact rfl)
    case s2_9 =>
     intro L9 u9 t9 w9 hT9 hL9 hD9 hV9 hO9 hM9 K9 hK9; have p9_8 : t9[57]? = some ?v2_8 := hV9.l 8 57; clear hV9 hO9; clear hL9 hD9; go_simp
     (refine hK9 _ _ ((fun a => Chg.refl _ a) w9) ?_ hM9; exact rfl)
    case s2_10 =>
     intro L9 u9 t9 w9 hT9 hL9 hD9 hV9 hO9 hM9 K9 hK9; have p9_9 : t9[58]? = some ?v2_9 := hV9.l 9 58; clear hV9 hO9; clear hL9 hD9; go_simp
     (refine hK9 _ _ ((fun a => Chg.refl _ a) w9) ?_ hM9; exact rfl)
    case s2_11 =>
     intro L9 u9 t9 w9 hT9 hL9 hD9 hV9 hO9 hM9 K9 hK9; have p9_10 : t9[59]? = some ?v2_10 := hV9.l 10 59; clear hV9 hO9; go_simp; refine (tag_made m2 hm2' _).mono ?_; rintro _ w8 ⟨⟨s9, rfl, hz9⟩, hb9⟩; exact hK9 _ _ (Chg.grow9 hb9) ⟨s9, rfl, hz9⟩ (hM9.grow hb9)
    case s2_12 =>
     intro L9 u9 t9 w9 hT9 hL9 hD9 hV9 hO9 hM9 K9 hK9; have o9_10 := hO9.l 10; clear hV9 hO9; clear hL9 hD9; go_simp
     (refine hK9 _ _ ((fun a => Chg.refl _ a) w9) ?_ hM9; exact rfl)
    case s2_13 =>
     intro L9 u9 t9 w9 hT9 hL9 hD9 hV9 hO9 hM9 K9 hK9; have p9_12 : t9[61]? = some ?v2_12 := hV9.l 12 61; clear hV9 hO9; clear hL9 hD9; go_simp
     (refine hK9 _ _ ((fun a => Chg.refl _ a) w9) ?_ hM9; exact rfl)
    case s2_14 =>
     intro L9 u9 t9 w9 hT9 hL9 hD9 hV9 hO9 hM9 K9 hK9; have p9_13 : t9[62]? = some ?v2_13 := hV9.l 13 62; clear hV9 hO9; go_simp; refine (features_made d12 hd12' _).mono ?_; rintro _ w8 ⟨⟨s9, rfl, hz9⟩, hb9⟩; exact hK9 _ _ (Chg.grow9 hb9) ⟨s9, rfl, hz9⟩ (hM9.grow hb9)
    case s2_15 =>
     intro l u t w T L D V O M K k; obtain ⟨x7, p7, q7⟩ := V 7 56 rfl rfl (of_decide_eq_true (by kernel_rfl)); obtain ⟨q7, e7⟩ := q7; replace q7 : ((fun v _ => ∃ s : ByteArray, v = .string s /\ s.size <= 10)) x7 w := q7; obtain ⟨x11, p11, q11⟩ := V 11 60 rfl rfl (of_decide_eq_true (by kernel_rfl)); obtain ⟨q11, e11⟩ := q11; replace q11 : ((fun v _ => ∃ s : ByteArray, v = .string s /\ s.size <= 10)) x11 w := q11; obtain ⟨x14, p14, q14⟩ := V 14 63 rfl rfl (of_decide_eq_true (by kernel_rfl)); obtain ⟨q14, e14⟩ := q14; replace q14 : ((fun v _ => ∃ s : ByteArray, v = .string s /\ s.size <= 10)) x14 w := q14; clear V O; clear e7 e11 e14; obtain ⟨a9, rfl, ha9⟩ := q7; obtain ⟨b9, rfl, hb9⟩ := q11; obtain ⟨c9, rfl, hc9⟩ := q14; have hs9 := M.hs; go_simp; exact k _ _ ((Chg.refl _ w).alloc _) ⟨a9, b9, c9, ha9, hb9, hc9, BS.made hs9⟩ (M.grow ((Below.refl _ _).alloc (Nat.le_refl _) _))
    case s2_16 =>
     intro L9 u9 t9 w9 hT9 hL9 hD9 hV9 hO9 hM9 K9 hK9; obtain ⟨x9_15, p9_15, q9_15⟩ := hV9.g 15 64 rfl rfl (by kernel_rfl); obtain ⟨q9_15, e9_15⟩ := q9_15; replace q9_15 : ((fun v w => ∃ a9 b9 c9 : ByteArray, a9.size <= 10 /\ b9.size <= 10 /\ c9.size <= 10 /\ BS B9 9 [.string a9, .string b9, .string c9] 3 v w)) x9_15 w9 := q9_15; clear hV9 hO9; clear e9_15; obtain ⟨a9, b9, c9, ha9, hb9, hc9, g9, rfl, h91, h92⟩ := q9_15; have hs9 := hM9.hs; have n9 := (new1 w9 [.slice (some ⟨g9, 0, none⟩) 3 3] 28).2; have h93 := h92.below n9 h92.lt; clear h92 n9; go_simp; exact hK9 _ _ ((Chg.refl _ w9).alloc _) ⟨a9, b9, c9, g9, ha9, hb9, hc9, h91, h93, BS.made hs9⟩ (hM9.grow ((Below.refl _ _).alloc (Nat.le_refl _) _))
    case s2_17 =>
     intro L9 u9 t9 w9 hT9 hL9 hD9 hV9 hO9 hM9 K9 hK9; have p9_1 : t9[50]? = some ((.slice AT j cT)) := hV9.l 1 50; obtain ⟨x9_16, p9_16, q9_16⟩ := hV9.g 16 65 rfl rfl (by kernel_rfl); obtain ⟨q9_16, e9_16⟩ := q9_16; replace q9_16 : ((fun v w => ∃ (a9 b9 c9 : ByteArray) (g9 : Nat), a9.size <= 10 /\ b9.size <= 10 /\ c9.size <= 10 /\ B9 <= g9 /\ Own w g9 9 [.string a9, .string b9, .string c9] /\ BS B9 28 [.slice (some ⟨g9, 0, none⟩) 3 3] 1 v w)) x9_16 w9 := q9_16; clear hV9 hO9; obtain ⟨a9, b9, c9, g9, ha9, hb9, hc9, h91, h92, g8, rfl, h81, h82⟩ := q9_16; have r9 := hM9.r0 hL9; obtain ⟨v9, w9', hr9, ho9, hg9, -⟩ := run_append_src (P := Tryz.prog) w9 B5 24 24 28 i1 _ 1 24 Tryz.underlying24 hi1 hy0 hy1 hy2 rfl (by decide) _ _ _ r9 (some ⟨g8, 0, none⟩) 1 1 [.slice (some ⟨g9, 0, none⟩) 3 3] rfl h82.rd0 (by intro u hu; simp at hu; subst hu; rfl) (by unfold maxLen; omega) (by omega) (Nat.le_trans h59 hM9.hs)
     have r8 := own_lt r9; have o9 := own_row9 (size := 1) (n := 3) h92 h91 rfl (by unfold maxLen; omega); have x9 : ∃ r, ETok B9 w9' r [.slice (some ⟨g9, 0, none⟩) 3 3] := ⟨[a9, b9, c9], _, rfl, o9.kept hg9 (rows_ne9 o9 r9 (by decide)), rfl, by intro s hs; simp at hs; rcases hs with rfl | rfl | rfl <;> assumption⟩; have m9 := Z' (hM9.app hL9 (hD9 1 rfl) x9 ho9 hg9); have c9' : Chg (fun k => k = p \/ k = gc \/ (Value.slice AT j cT).ownBlock = some k) w9 w9' := ⟨hg9.os, hg9.tape, hg9.output, hg9.size, fun k hk hn => hg9.block k hk fun e => hn (.inr (.inr e.symm))⟩; clear hM9 r9 r8 ho9 hg9 hL9 hD9 o9 x9 h92 h82; rw [if_pos (wanted_of9 rfl)]; exact wp_append_eq (.tmp 50) (.tmp 65) 24 rfl _ _ v9 (ev_tmp9 p9_1) (ev_tmp9 p9_16) hr9 (hK9 _ _ c9' trivial m9.out)
    case s2_18 =>
     intro L9 u9 t9 w9 hT9 hL9 hD9 hV9 hO9 hM9 K9 hK9; have o9_8 := hO9.l 8; clear hV9 hO9; clear hL9 hD9; go_simp
     (refine hK9 _ _ ((fun a => Chg.refl _ a) w9) ?_ hM9; exact rfl)
    case s2_19 =>
     intro L9 u9 t9 w9 hT9 hL9 hD9 hV9 hO9 hM9 K9 hK9; obtain ⟨x9_17, p9_17, q9_17⟩ := hV9.g 17 66 rfl rfl (by kernel_rfl); obtain ⟨q9_17, e9_17⟩ := q9_17; replace q9_17 : ((fun _ _ => True)) x9_17 w9 := q9_17; have p9_18 : t9[67]? = some ?v2_18 := hV9.l 18 67; clear hV9 hO9; obtain ⟨_, _, r9⟩ := hM9.r1 (hD9 17 rfl); obtain ⟨A91, c91, hf9, -, -⟩ := own_form r9; have e9 := e9_17; rw [hf9] at e9; subst e9; clear e9_17 r9; have o9 := hM9.c0 hL9; have d9 := o9.cell 1; have f9 := o9.frozen 1; have HM : Hid (AP T B p B5 B9 28 1 gc [.slice Aa atts9.length ca, .slice AT j cT, .slice (some ⟨gt, 0, none⟩) 1 1, .slice none 0 0, .slice none 0 0, .slice none 0 0, .slice none 0 0] 1 j es.flatten (.slice AT j cT) (fun e w0 => ∃ r, ETok B9 w0 r e) (L9 1) (L9 17) true (u9 17) (w9.setCell ⟨gc, 1, none⟩ (.slice A91 (j + 1) c91))) := by
      rw [<- hf9]; exact hM9.store (hD9 17 rfl) hL9
     clear hM9 hD9 hL9 hf9 o9; go_simp; exact hK9 undef _ ((Chg.refl _ w9).setCell (p := ⟨gc, 1, none⟩) (.inr (.inl rfl)) _) trivial HM.out
    case n2 =>
     intro L9 u9 h9; have h1 := h9 1 (by decide); have h2 := h9 17 (by decide); have h3 := h9 19 (by decide)
     show AP T B p B5 B9 28 1 gc [.slice Aa atts9.length ca, .slice AT j cT, .slice (some ⟨gt, 0, none⟩) 1 1, .slice none 0 0, .slice none 0 0, .slice none 0 0, .slice none 0 0] 1 j es.flatten (.slice AT j cT) (fun e w0 => ∃ r, ETok B9 w0 r e) (L9 1) (L9 17) (L9 19) _ _
     rw [h1, h2, h3]; exact HM1.out _
    case k2 =>
     intro i9 v9 w9 x9 h9 g9
     match i9, h9 with
     | 0, h9 => exact h9
     | 1, h9 => exact h9
     | 2, h9 => (replace h9 : (fun v w => BS B9 3 [.int .i64 0, .int .i64 1, .int .i64 0, .int .i64 2, .int .i64 3, .int .i64 4, .int .i64 1, .int .i64 5] 8 v w) v9 w9 := h9); exact BS.chg h9 g9 hSx
     | 3, h9 => exact h9
     | 4, h9 => exact h9
     | 5, h9 => (replace h9 : (fun v w => ∃ g, v = .pointer (some ⟨g, m8, none⟩) /\ B9 <= g /\ Own w g 3 [.int .i64 0, .int .i64 1, .int .i64 0, .int .i64 2, .int .i64 3, .int .i64 4, .int .i64 1, .int .i64 5]) v9 w9 := h9); obtain ⟨g9', e91, e93, e94⟩ := h9; exact ⟨g9', e91, e93, g9.own e94 fun h => by have := hSx _ h; omega⟩
     | 6, h9 => exact h9
     | 7, h9 => exact h9
     | 8, h9 => exact h9
     | 9, h9 => exact h9
     | 10, h9 => exact h9
     | 11, h9 => exact h9
     | 12, h9 => exact h9
     | 13, h9 => exact h9
     | 14, h9 => exact h9
     | 15, h9 => (replace h9 : (fun v w => ∃ a9 b9 c9 : ByteArray, a9.size <= 10 /\ b9.size <= 10 /\ c9.size <= 10 /\ BS B9 9 [.string a9, .string b9, .string c9] 3 v w) v9 w9 := h9); obtain ⟨a9, b9, c9, x1, x2, x3, h9⟩ := h9; exact ⟨a9, b9, c9, x1, x2, x3, BS.chg h9 g9 hSx⟩
     | 16, h9 => (replace h9 : (fun v w => ∃ (a9 b9 c9 : ByteArray) (g9 : Nat), a9.size <= 10 /\ b9.size <= 10 /\ c9.size <= 10 /\ B9 <= g9 /\ Own w g9 9 [.string a9, .string b9, .string c9] /\ BS B9 28 [.slice (some ⟨g9, 0, none⟩) 3 3] 1 v w) v9 w9 := h9); obtain ⟨a9, b9, c9, g9', x1, x2, x3, x4, x5, h9⟩ := h9; exact ⟨a9, b9, c9, g9', x1, x2, x3, x4, g9.own x5 fun h => by have := hSx _ h; omega, BS.chg h9 g9 hSx⟩
     | 17, h9 => (replace h9 : (fun _ _ => True) v9 w9 := h9); exact trivial
     | 18, h9 => exact h9
     | 19, h9 => exact h9
     | _ + 20, h9 => exact trivial
    intro u9 w9 hE9 hM9 hu9; have r9_0 : u9 0 = ?v2_0 := hu9 0 (by decide); have r9_1 : u9 1 = (.slice AT j cT) := hu9 1 (by decide); have r9_2 : (fun v w => BS B9 3 [.int .i64 0, .int .i64 1, .int .i64 0, .int .i64 2, .int .i64 3, .int .i64 4, .int .i64 1, .int .i64 5] 8 v w) (u9 2) w9 := hu9 2 (by decide); have r9_3 : u9 3 = ?v2_3 := hu9 3 (by decide); have r9_4 : u9 4 = ?v2_4 := hu9 4 (by decide); have r9_5 : (fun v w => ∃ g, v = .pointer (some ⟨g, m8, none⟩) /\ B9 <= g /\ Own w g 3 [.int .i64 0, .int .i64 1, .int .i64 0, .int .i64 2, .int .i64 3, .int .i64 4, .int .i64 1, .int .i64 5]) (u9 5) w9 := hu9 5 (by decide); have r9_6 : (fun v _ => ∃ y : Nat, v = .int .i64 (y : Int) /\ y < 6) (u9 6) w9 := hu9 6 (by decide); have r9_7 : (fun v _ => ∃ s : ByteArray, v = .string s /\ s.size <= 10) (u9 7) w9 := hu9 7 (by decide); have r9_8 : u9 8 = ?v2_8 := hu9 8 (by decide); have r9_9 : u9 9 = ?v2_9 := hu9 9 (by decide)
    have r9_10 : u9 10 = ?v2_10 := hu9 10 (by decide); have r9_11 : (fun v _ => ∃ s : ByteArray, v = .string s /\ s.size <= 10) (u9 11) w9 := hu9 11 (by decide); have r9_12 : u9 12 = ?v2_12 := hu9 12 (by decide); have r9_13 : u9 13 = ?v2_13 := hu9 13 (by decide); have r9_14 : (fun v _ => ∃ s : ByteArray, v = .string s /\ s.size <= 10) (u9 14) w9 := hu9 14 (by decide); have r9_15 : (fun v w => ∃ a9 b9 c9 : ByteArray, a9.size <= 10 /\ b9.size <= 10 /\ c9.size <= 10 /\ BS B9 9 [.string a9, .string b9, .string c9] 3 v w) (u9 15) w9 := hu9 15 (by decide); have r9_16 : (fun v w => ∃ (a9 b9 c9 : ByteArray) (g9 : Nat), a9.size <= 10 /\ b9.size <= 10 /\ c9.size <= 10 /\ B9 <= g9 /\ Own w g9 9 [.string a9, .string b9, .string c9] /\ BS B9 28 [.slice (some ⟨g9, 0, none⟩) 3 3] 1 v w) (u9 16) w9 := hu9 16 (by decide); have r9_17 : (fun _ _ => True) (u9 17) w9 := hu9 17 (by decide); have r9_18 : u9 18 = ?v2_18 := hu9 18 (by decide)
    clear hu9
    simp only [putAll, Act.put, List.setIfInBounds_toArray, List.set_cons_succ, List.set_cons_zero, List.getD_cons_succ, List.getD_cons_zero, Nat.reduceAdd, Nat.zero_add]
    simp only [r9_0, r9_1, r9_3, r9_4, r9_8, r9_9, r9_10, r9_12, r9_13, r9_18]
    clear r9_0 r9_1 r9_3 r9_4 r9_8 r9_9 r9_10 r9_12 r9_13 r9_18; have hM := Z' hM9; clear hM9 HM1; obtain ⟨e0, ⟨r0, hx0⟩, hrow⟩ := hM.out.r1 rfl; replace o_c := hM.out.c1 rfl; have tp7 := hM.out.tp; clear hM; have hE3 : Chg (fun k => k = p \/ k = gc \/ (Value.slice AT j cT).ownBlock = some k) w6 w9 := (Chg.refl _ w6).drew.trans hE9; replace hch : Chg (fun k => k = p \/ k = gc) w5 w9 := ((hch.mono (T := fun k => k = p \/ k = gc \/ B5 <= k) fun k _ h => h.imp id .inl).trans (hE3.mono fun k _ h => h.imp id (Or.imp id fun h => own_lt HRW.out k h))).mono fun k hk h => h.imp id fun h => h.elim id fun h => by have := HB5.out; omega
    have HES2 : Hid (Els 1 (ETok B5 w9) (es ++ [e0]) (TL ++ [r0])) := (HES.out.mono fun r e _ h => h.chg hE3 fun v b _ h1 h2 h3 => by
     rcases h3 with h3 | h3 | h3
     ·have := own_lt h1 b h2; omega
     ·have := own_lt h1 b h2; omega
     ·rcases rows_ne9 h1 HRW.out (by decide) with h9 | h9
      ·rw [h9] at h2; cases h2
      ·exact h9 (h2.trans h3.symm)).app (Els.one (by obtain ⟨v, rfl, _⟩ := hx0; rfl) (hx0.base h59))
    clear hE3 hE9 HRW HES hx0 r9_2 r9_5 r9_6 r9_7 r9_11 r9_14 r9_15 r9_16 r9_17 i54 i53 z53 z58 z58b z59 z62 z62b hSx hBg; generalize u9 17 = v9 at hrow o_c |-; obtain ⟨A9, c9, rfl, -, -⟩ := own_form hrow; have HRW2 : Hid (w9.ownsRow B5 28 1 (.slice A9 (j + 1) c9) (j + 1) (es ++ [e0]).flatten) := by
     rw [List.flatten_append, List.flatten_cons, List.flatten_nil, List.append_nil]; exact hrow
    have HTL2 : Hid ((TL ++ [r0]).length = j + 1) := by show _ = _; rw [List.length_append, HTL.out]; rfl
    clear hrow
    go_wp2
    go_roundg (n + 1 - (j + 1))
    case measure => omega
    case rel => exact ⟨j + 1, A9, c9, es ++ [e0], TL ++ [r0], rfl, by omega, by go_num, HTL2, o_c, HRW2, HES2, tp7, hch⟩
   ·skip
    have dj : decide ((j : Int) < (n : Int)) = false := decide_eq_false (by omega); have djn : decide (j < n) = false := decide_eq_false (by omega); obtain rfl : j = n := by omega
    go_upto_region 11 with (fail)
    clear dj djn; obtain ⟨B6, hB6⟩ : ∃ B6, B6 = wr.heap.size := ⟨_, rfl⟩; have HB6 := Z' hB6; have hch5 : Chg (fun k => k <= B3 \/ k = gc \/ B5 <= k) w5 wr := hch.mono fun k _ e => by omega
    have HA6 : Hid (AttrsO (fun k => k <= B3 \/ k = gc) wr (.slice Aa atts9.length ca) atts9) := EO.weak' (EO.chg' HA5.out hch5) fun k e => by omega
    have HX6 : Hid (SpnsO (fun k => k <= B3 \/ k = gc) wr (.slice (some ⟨gt, 0, none⟩) 1 1) [⟨name, 0, (j : Int), ks⟩]) := SpnsO.weak (SpnsO.chg HX5.out hch5) fun k e => by omega
    have HT6 : Hid (RowsO (fun k => k <= B3 \/ k = gc) wr (.slice AT j cT) TL) := ⟨es, HES.out.mono fun r e _ h => h.row fun k hk e => by omega, HTL.out.symm ▸ SO.of_own HRW.out fun k hk e => by omega⟩; have HRR : Hid (∀ t ∈ TL, t.length = 3) := fun t ht => by
     obtain ⟨i, hi, rfl⟩ := List.getElem_of_mem ht; obtain ⟨e, _, _, h9⟩ := HES.out.get hi; exact h9.choose_spec.2.2.1
    have HCW : Hid (Chg (fun k => k = p) w wr) := (HCC.out.mono (T := fun k => k = p \/ w.heap.size <= k) fun k _ e => .inl e).trans (hch.mono fun k _ e => e.imp id fun e => by have := HB3.out; omega) |>.mono fun k hk e => e.elim id fun e => by omega
    replace o_r := hch.own o_r (by omega); clear HA5 HX5 HES HRW hch hch5 hB6 HCC; have hg6 : gc < B6 := by have := HB6.out; omega
    obtain ⟨w6, rfl⟩ : ∃ x, x = wr := ⟨_, rfl⟩
    go_wp2_with fail
    refine (next9 T B p 5 _ rfl _ tp (by decide) (by decide)).mono ?_; rintro e w7 ⟨k0, rfl, hk0, tp7, hc7⟩; have hw7 := hc7.size; have o_c7 := hc7.own o_c (by omega); clear tp
    go_wp2_with fail
    go_loopg [11, 12] (k0 + 1) (fun q v11 v12 wr => ∃ (k m : Nat) (AL : Option Addr) (cL : Nat) (es : List (List Value)) (L : List Spn), q = k + 1 /\ m + k <= 4 /\ v12 = .int .i64 (k : Int) /\ v11 = .slice AL m cL /\ Hid (L.length = m) /\ Hid (wr.ownsRow B6 98 4 (.slice AL m cL) m es.flatten) /\ Hid (Els 4 (EReg B6 wr) es L) /\ TP T B wr p /\ Chg (fun k => k = p) w6 wr)
    case atStart => exact ⟨k0, 0, none, 0, [], [], rfl, by omega, rfl, rfl, rfl, World.ownsRow_nil _ _ _ _, Els.nil _ _, tp7, hc7⟩
    case round =>
     clear o_c7 tp7 hc7 hw7; obtain ⟨k, m, AL, cL, es, L, rfl, hmk, rfl, rfl, HLL, HRW, HES, tp, hch⟩ := hrel; have hwr := hch.size; have hB6w : B6 <= wr.heap.size := by have := HB6.out; omega
     by_cases hk : 0 < k
     ·skip
      obtain ⟨k, rfl⟩ : ∃ x, k = x + 1 := ⟨k - 1, by omega⟩; have dk : decide ((0 : Int) < ((k + 1 : Nat) : Int)) = true := decide_eq_true (by omega); have dkn : decide (0 < k + 1) = true := decide_eq_true (by omega)
      go_upto_region 14 with (fail)
      clear dk dkn
      go_wp2_with fail
      refine (next9 T B p j _ rfl _ tp (by omega) (by omega)).mono ?_; rintro e w8 ⟨b, rfl, hb, tp8, hc8⟩; have hw_w8 := hc8.size; replace HES := Z' (HES.out.mono fun t e _ h => h.chg hc8 fun v b h1 h2 h3 => by have := own_lt h1 b h2; omega); replace HRW := Z' (ownsRow_chg HRW.out hc8 fun b hb e => by have := own_lt HRW.out b hb; omega); replace hch := hch.trans hc8; clear hc8; clear tp
      go_upto_region 15 with (fail)
      go_wp2_with fail
      refine (next9 T B p 2 _ rfl _ tp8 (by decide) (by decide)).mono ?_; rintro e w10 ⟨ty, rfl, hty, tp10, hc10⟩; have hw_w10 := hc10.size; replace HES := Z' (HES.out.mono fun t e _ h => h.chg hc10 fun v b h1 h2 h3 => by have := own_lt h1 b h2; omega); replace HRW := Z' (ownsRow_chg HRW.out hc10 fun b hb e => by have := own_lt HRW.out b hb; omega); replace hch := hch.trans hc10; clear hc10; clear tp8
      go_wp2_with fail
      refine (type_made (ty : Int) (by unfold I64; omega) _).mono ?_; rintro e w11 ⟨⟨rn, rfl, hrn⟩, hb11⟩; have tp11 := tp10.below hb11; have hc11 : Chg (fun k => k = p) w10 w11 := Chg.grow9 hb11; clear hb11; have hw_w11 := hc11.size; replace HES := Z' (HES.out.mono fun t e _ h => h.chg hc11 fun v b h1 h2 h3 => by have := own_lt h1 b h2; omega); replace HRW := Z' (ownsRow_chg HRW.out hc11 fun b hb e => by have := own_lt HRW.out b hb; omega); replace hch := hch.trans hc11; clear hc11; clear tp10; have z1 : IntKind.i64.wrap ((b : Int) + 1) = ((b + 1 : Nat) : Int) := (IntWalk.i64_in _ (by omega)).trans (by omega); have z2 : IntKind.i64.wrap ((j : Int) - (b : Int)) = ((j - b : Nat) : Int) := (IntWalk.i64_in _ (by omega)).trans (by omega)
      go_wp2_with fail
      refine (next9 T B p (j - b) _ rfl _ tp11 (by omega) (by omega)).mono ?_; rintro e w12 ⟨r2, rfl, hr2, tp12, hc12⟩; have hw_w12 := hc12.size; replace HES := Z' (HES.out.mono fun t e _ h => h.chg hc12 fun v b h1 h2 h3 => by have := own_lt h1 b h2; omega); replace HRW := Z' (ownsRow_chg HRW.out hc12 fun b hb e => by have := own_lt HRW.out b hb; omega); replace hch := hch.trans hc12; clear hc12; clear tp11; obtain ⟨E, hE⟩ : ∃ E, E = b + 1 + r2 := ⟨_, rfl⟩; have zE : IntKind.i64.wrap ((b : Int) + 1 + (r2 : Int)) = (E : Int) := (IntWalk.i64_in _ (by omega)).trans (by omega); have hE1 : b < E := by omega
      have hE2 : E <= j := by omega
      clear hE hr2; obtain ⟨o_g, hbg⟩ := new1 w12 [.string rn, .int .i64 (b : Int), .int .i64 (E : Int), .slice none 0 0] 98; have hsg : (w12.alloc (.cells #[.string rn, .int .i64 (b : Int), .int .i64 (E : Int), .slice none 0 0] 98)).heap.size = w12.heap.size + 1 := by simp
      go_upto_region 16 with (fail)
      clear z1 z2 zE; generalize (w12.alloc (.cells #[.string rn, .int .i64 (b : Int), .int .i64 (E : Int), .slice none 0 0] 98)) = w13 at o_g hbg hsg |-; have tp13 := tp12.below hbg; have hc13 : Chg (fun k => k = p) w12 w13 := Chg.grow9 hbg; obtain ⟨gR, hgR⟩ : ∃ x, x = w12.heap.size := ⟨_, rfl⟩; rw [<- hgR] at o_g hsg |-; have hgR6 : B6 <= gR := by omega
      have HRN : Hid (∀ b, (Value.slice AL m cL).ownBlock = some b -> b < gR) := fun b hb => by have := (HRW.out.lt b hb).2; omega
      have HGR := Z' hgR; clear hbg tp12 hgR; have hw_w13 := hc13.size; replace HES := Z' (HES.out.mono fun t e _ h => h.chg hc13 fun v b h1 h2 h3 => by have := own_lt h1 b h2; omega); replace HRW := Z' (ownsRow_chg HRW.out hc13 fun b hb e => by have := own_lt HRW.out b hb; omega); replace hch := hch.trans hc13; clear hc13
      go_wp2_with fail
      refine (next9 T B p 2 _ rfl _ tp13 (by decide) (by decide)).mono ?_; rintro e w14 ⟨r3, rfl, hr3, tp14, hc14⟩; have o_g2 := hc14.own o_g (by omega); have hsg14 := hc14.size; have hw_w14 := hc14.size; replace HES := Z' (HES.out.mono fun t e _ h => h.chg hc14 fun v b h1 h2 h3 => by have := own_lt h1 b h2; omega); replace HRW := Z' (ownsRow_chg HRW.out hc14 fun b hb e => by have := own_lt HRW.out b hb; omega); replace hch := hch.trans hc14; clear hc14; clear tp13 o_g
      go_upto_if 92 with (fail)
      go_cut [] (fun wx => ∃ (mk : Value) (ks : List (ByteArray × ByteArray)), Own wx gR 98 [.string rn, .int .i64 (b : Int), .int .i64 (E : Int), mk] /\ Hid (wx.ownsRow B6 95 2 mk ks.length (ks.map fun q => [Value.string q.1, Value.string q.2]).flatten) /\ Hid (∀ q ∈ ks, q.1.size <= 10 /\ q.2.size <= 10) /\ TP T B wx p /\ Chg (fun k => k = p \/ k = gR) w14 wx)
      case first =>
       by_cases h31 : r3 = 1
       ·skip
        subst h31; obtain ⟨o_y, hby⟩ := new1 w14 [.string ⟨#[49]⟩, .string ⟨#[50]⟩] 9; have tp15 := tp14.below hby
        have o_g3 := o_g2.below hby o_g2.lt; have hgy := o_y.lt; have hcy : Chg (fun k => k = p \/ k = gR) w14 (w14.alloc (.cells #[.string ⟨#[49]⟩, .string ⟨#[50]⟩] 9)) := Chg.grow9 hby
        have hsy : (w14.alloc (.cells #[.string ⟨#[49]⟩, .string ⟨#[50]⟩] 9)).heap.size = w14.heap.size + 1 := by simp
        go_wp2_with fail
        generalize (w14.alloc (.cells #[.string ⟨#[49]⟩, .string ⟨#[50]⟩] 9)) = w15 at o_y tp15 o_g3 hgy hcy hsy |-; obtain ⟨gy, hgy2⟩ : ∃ x, x = w14.heap.size := ⟨_, rfl⟩; rw [<- hgy2] at o_y hgy hsy |-; have HGY := Z' hgy2; clear hgy2 hby
        refine (next9 T B p 2 _ rfl _ tp15 (by decide) (by decide)).mono ?_; rintro e w16 ⟨r4, rfl, hr4, tp16, hc16⟩; have o_y2 := hc16.own o_y (by have := HGY.out; omega); have o_g4 := hc16.own o_g3 (by omega); have hs16 := hc16.size; obtain ⟨s4, k4, hz4⟩ := str_at (two_at _ _ (by decide) (by decide)) hr4 o_y2; have i41 : ((r4 : Nat) : Int) < 2 := by omega
        have i42 : decide (((r4 : Nat) : Int) < 2) = true := decide_eq_true i41; obtain ⟨o_q, hbq⟩ := new1 w16 [.string ⟨#[110]⟩, .string s4] 95; have o_g5 := o_g4.below hbq o_g4.lt; have kg := o_g5.cell 3; have fg := o_g5.frozen 3; have o_g6 := o_g5.set_ 3 (.slice (some ⟨w16.heap.size, 0, none⟩) 1 1); have o_q2 := o_q.far (p := ⟨gR, 3, none⟩) (by have := o_g4.lt; show _ ≠ gR; omega) (.slice (some ⟨w16.heap.size, 0, none⟩) 1 1); have hcq : Chg (fun k => k = p \/ k = gR) w14 ((w16.alloc (.cells #[.string ⟨#[110]⟩, .string s4] 95)).setCell ⟨gR, 3, none⟩ (.slice (some ⟨w16.heap.size, 0, none⟩) 1 1)) := ((hcy.trans (hc16.mono fun k _ e => .inl e)).alloc _).setCell (p := ⟨gR, 3, none⟩) (.inr rfl) _; have tp17 : TP T B ((w16.alloc (.cells #[.string ⟨#[110]⟩, .string s4] 95)).setCell ⟨gR, 3, none⟩ (.slice (some ⟨w16.heap.size, 0, none⟩) 1 1)) p := (tp16.below hbq).keep ((Chg.refl _ _).setCell (p := ⟨gR, 3, none⟩) (by show B <= gR; omega) _)
        have HPP := Z' (own_row9 (B := B6) (size := 2) (n := 1) o_q2 (by have := HGY.out; have := o_g2.lt; omega) rfl (by unfold maxLen; omega)); have HO6 := Z' o_g6; have HQ6 := Z' hcq; have HT6' := Z' tp17; clear o_y o_y2 o_g3 o_g4 o_g5 o_g6 o_q o_q2 hcq tp17 tp15 tp16 hcy hc16 hbq
        go_wp2_with fail
        go_meet
        exact ⟨_, [(⟨#[110]⟩, s4)], HO6.out, HPP, (fun q hq => by rw [List.mem_singleton.1 hq]; exact ⟨(by show ByteArray.size ⟨#[110]⟩ <= 10; decide), hz4⟩), HT6'.out, HQ6.out⟩
       ·skip
        have qe : (((r3 : Int) : Int) == (1 : Int)) = false := beq_eq_false_iff_ne.2 (by omega); have qd : (((r3 : Int) : Int) != (1 : Int)) = true := by rw [bne_iff_ne]; omega
        have qne : ((r3 : Nat) == (1 : Nat)) = false := beq_eq_false_iff_ne.2 (by omega); have qnd : ((r3 : Nat) != (1 : Nat)) = true := by rw [bne_iff_ne]; omega
        go_wp2_with fail
        go_meet
        exact ⟨_, [], o_g2, World.ownsRow_nil _ _ _ _, (fun _ h => nomatch h), tp14, Chg.refl _ _⟩
      case rest =>
       obtain ⟨mk, ks2, o_g, HMK, HKB, tp15, hc15⟩ := hcut; have hgRl := o_g.lt; have hw15 := hc15.size; replace HES := Z' (HES.out.mono fun t e _ h => h.chg hc15 fun v b h1 h2 h3 => by
        rcases h3 with h3 | h3
        ·have := own_lt h1 b h2; omega
        ·exact own_blk_ne h1 o_g2 (by decide) (h3 ▸ h2))
       replace HRW := Z' (ownsRow_chg HRW.out hc15 fun b hb e => by have := own_lt HRW.out b hb; have := HRN.out b hb; omega); replace hch : Chg (fun k => k = p) w6 wc := (hch.mono (T := fun k => k = p \/ B6 <= k) fun k _ e => .inl e).trans (hc15.mono fun k _ e => e.imp id fun e => by omega) |>.mono fun k hk e => e.elim id fun e => by have := HB6.out; omega
       clear tp14 o_g2 hc15; obtain ⟨w15, rfl⟩ : ∃ x, x = wc := ⟨_, rfl⟩; have hmm : m <= 4 := by omega
       obtain ⟨Ag, cg, rfl, -, -⟩ := own_form HMK.out
       go_wp2_with fail
       go_loopg [15, 103] (m + 1) (fun q v15 v103 wr => ∃ (i : Nat) (cr : Bool), q = m + 1 - i /\ i <= m /\ v103 = .int .i64 (i : Int) /\ v15 = .bool cr /\ Below w15.heap.size w15 wr)
       case atStart => exact ⟨0, false, rfl, Nat.zero_le _, rfl, rfl, Below.refl _ _⟩
       case round =>
        obtain ⟨i, cr, rfl, hi, rfl, rfl, hbr⟩ := hrel; have o_gw := o_g.below hbr hgRl; have hsz3 := hbr.size
        by_cases hlt : i < m
        ·skip
         have di : decide ((i : Int) < (m : Int)) = true := decide_eq_true (by omega); have din : decide (i < m) = true := decide_eq_true (by omega); have HRX := Z' (ownsRow_below HRW.out hbr); obtain ⟨gl, cl, hq, -, -⟩ := HRX.out.form (by omega)
         injection hq with hq1 hq2 hq3
         subst hq1 hq3; have hiL : i < L.length := by rw [HLL.out]; exact hlt
         obtain ⟨e, g1, g2, mm, rfl, hx1, hx2, hx3, hx4, hx5⟩ := HES.out.get hiL; obtain ⟨xx, hxx⟩ : ∃ x, x = L[i] := ⟨_, rfl⟩; rw [<- hxx] at g1 hx1 hx2 hx3 hx4; obtain ⟨xn, xl, xh, xk⟩ := xx
         dsimp only at g1 hx1 hx2 hx3 hx4
         obtain ⟨Am, cm, rfl, -, -⟩ := own_form hx4; obtain ⟨km, hkm⟩ : ∃ x, x = xk.length := ⟨_, rfl⟩; rw [<- hkm] at g1; have k0 : wr.cell? ⟨gl, i * 4, none⟩ = some (.string xn) := (HRX.out.cellAt _ (by omega)).trans (flat_get HES.out.wide i _ 0 _ g1 rfl); have k1 : wr.cell? ⟨gl, i * 4 + 1, none⟩ = some (.int .i64 xl) := (HRX.out.cellAt _ (by omega)).trans (flat_get HES.out.wide i _ 1 _ g1 rfl); have k2 : wr.cell? ⟨gl, i * 4 + 2, none⟩ = some (.int .i64 xh) := (HRX.out.cellAt _ (by omega)).trans (flat_get HES.out.wide i _ 2 _ g1 rfl); have k3 : wr.cell? ⟨gl, i * 4 + 3, none⟩ = some (.slice Am km cm) := (HRX.out.cellAt _ (by omega)).trans (flat_get HES.out.wide i _ 3 _ g1 rfl); clear g1 hkm hx4 hx5 hxx HRX; obtain ⟨o_x, hbx⟩ := new1 wr [.string xn, .int .i64 xl, .int .i64 xh, .slice Am km cm] 98; have o_gx := o_gw.below hbx o_gw.lt; have hbr2 := belowB hbr hsz3 hbx; clear o_gw
         go_upto_region 22 with (fail)
         clear di din k0 k1 k2 k3 hbr hbx; generalize (wr.alloc (.cells #[.string xn, .int .i64 xl, .int .i64 xh, .slice Am km cm] 98)) = w18 at o_x o_gx hbr2 |-; generalize wr.heap.size = gx at o_x |-; have x0 := o_x.c0; have x1 := o_x.c1; have x2 := o_x.c2; have y0 := o_gx.c0; have y1 := o_gx.c1; have y2 := o_gx.c2
         cases cr
         ·skip
          by_cases hc1 : xn = rn
          ·skip
           have a2 : (xn.toList == rn.toList) = true := by rw [str_beq]; exact decide_eq_true hc1
           by_cases hc2 : xl < (E : Int)
           ·skip
            have ta3 : decide (xl < (E : Int)) = true := decide_eq_true (hc2)
            by_cases hc3 : (b : Int) < xh
            ·skip
             have ta4 : decide ((b : Int) < xh) = true := decide_eq_true (hc3)
             by_cases hc4 : xl <= (b : Int)
             ·skip
              have tb1 : decide (xl <= (b : Int)) = true := decide_eq_true (hc4)
              by_cases hc5 : (E : Int) <= xh
              ·skip
               have tb2 : decide ((E : Int) <= xh) = true := decide_eq_true (hc5)
               go_wp2
               go_roundg (m + 1 - (i + 1))
               case measure => omega
               case rel => exact ⟨i + 1, _, rfl, by omega, by go_num, rfl, hbr2⟩
              ·skip
               have tb2 : decide ((E : Int) <= xh) = false := decide_eq_false hc5
               by_cases hc6 : (b : Int) <= xl
               ·skip
                have tc1 : decide ((b : Int) <= xl) = true := decide_eq_true (hc6)
                by_cases hc7 : xh <= (E : Int)
                ·skip
                 have tc2 : decide (xh <= (E : Int)) = true := decide_eq_true (hc7)
                 go_wp2
                 go_roundg (m + 1 - (i + 1))
                 case measure => omega
                 case rel => exact ⟨i + 1, _, rfl, by omega, by go_num, rfl, hbr2⟩
                ·skip
                 have tc2 : decide (xh <= (E : Int)) = false := decide_eq_false hc7
                 exfalso
                 omega
               ·skip
                have tc1 : decide ((b : Int) <= xl) = false := decide_eq_false hc6
                go_wp2
                go_roundg (m + 1 - (i + 1))
                case measure => omega
                case rel => exact ⟨i + 1, _, rfl, by omega, by go_num, rfl, hbr2⟩
             ·skip
              have tb1 : decide (xl <= (b : Int)) = false := decide_eq_false hc4
              by_cases hc8 : (b : Int) <= xl
              ·skip
               have tc1 : decide ((b : Int) <= xl) = true := decide_eq_true (hc8)
               by_cases hc9 : xh <= (E : Int)
               ·skip
                have tc2 : decide (xh <= (E : Int)) = true := decide_eq_true (hc9)
                go_wp2
                go_roundg (m + 1 - (i + 1))
                case measure => omega
                case rel => exact ⟨i + 1, _, rfl, by omega, by go_num, rfl, hbr2⟩
               ·skip
                have tc2 : decide (xh <= (E : Int)) = false := decide_eq_false hc9
                go_wp2
                go_roundg (m + 1 - (i + 1))
                case measure => omega
                case rel => exact ⟨i + 1, _, rfl, by omega, by go_num, rfl, hbr2⟩
              ·skip
               have tc1 : decide ((b : Int) <= xl) = false := decide_eq_false hc8
               exfalso
               omega
            ·skip
             have ta4 : decide ((b : Int) < xh) = false := decide_eq_false hc3
             go_wp2
             go_roundg (m + 1 - (i + 1))
             case measure => omega
             case rel => exact ⟨i + 1, _, rfl, by omega, by go_num, rfl, hbr2⟩
           ·skip
            have ta3 : decide (xl < (E : Int)) = false := decide_eq_false hc2
            go_wp2
            go_roundg (m + 1 - (i + 1))
            case measure => omega
            case rel => exact ⟨i + 1, _, rfl, by omega, by go_num, rfl, hbr2⟩
          ·skip
           have a2 : (xn.toList == rn.toList) = false := by rw [str_beq]; exact decide_eq_false hc1
           go_wp2
           go_roundg (m + 1 - (i + 1))
           case measure => omega
           case rel => exact ⟨i + 1, _, rfl, by omega, by go_num, rfl, hbr2⟩
         ·skip
          go_wp2
          go_roundg (m + 1 - (i + 1))
          case measure => omega
          case rel => exact ⟨i + 1, _, rfl, by omega, by go_num, rfl, hbr2⟩
        ·skip
         have di : decide ((i : Int) < (m : Int)) = false := decide_eq_false (by omega); have din : decide (i < m) = false := decide_eq_false (by omega)
         cases cr
         ·skip
          obtain ⟨i1, hi1, hy0, hy1, hy2⟩ := info_parts reg_info; have HMK2 := Z' (ownsRow_below HMK.out hbr); have HRX := Z' (ownsRow_below HRW.out hbr); have HEX := Z' (HES.out.mono fun t e _ h => h.chg (Chg.grow9 (S := fun _ => False) hbr) fun _ _ _ _ h => h); have tp16 := tp15.below hbr; have hch16 := hch.trans (Chg.grow9 (S := fun k => k = p) hbr); obtain ⟨y0, y1, y2, y3⟩ := o_gw.cells4; obtain ⟨o_n, hbn⟩ := new1 wr [.string rn, .int .i64 (b : Int), .int .i64 (E : Int), .slice Ag ks2.length cg] 98; have hsn : (wr.alloc (.cells #[.string rn, .int .i64 (b : Int), .int .i64 (E : Int), .slice Ag ks2.length cg] 98)).heap.size = wr.heap.size + 1 := by simp
          obtain ⟨v9, x9, hap, hrow, hgr, -⟩ := run_append_src (P := Tryz.prog) (wr.alloc (.cells #[.string rn, .int .i64 (b : Int), .int .i64 (E : Int), .slice Ag ks2.length cg] 98)) B6 26 26 98 i1 _ 4 56 Tryz.underlying26 hi1 hy0 hy1 hy2 rfl (by decide) (.slice AL m cL) m es.flatten (ownsRow_below HRX.out hbn) (some ⟨wr.heap.size, 0, none⟩) 1 1 [.string rn, .int .i64 (b : Int), .int .i64 (E : Int), .slice Ag ks2.length cg] rfl o_n.rd0 (by intro u hu; simp at hu; rcases hu with rfl | rfl | rfl | rfl <;> rfl) (by unfold maxLen; omega) (by omega) (by have := HB6.out; omega); have HE2 : Hid (Els 4 (EReg B6 x9) (es ++ [[.string rn, .int .i64 (b : Int), .int .i64 (E : Int), .slice Ag ks2.length cg]]) (L ++ [⟨rn, (b : Int), (E : Int), ks2⟩])) := by
           have hch9 : Chg (fun k => (Value.slice AL m cL).ownBlock = some k) (wr.alloc (.cells #[.string rn, .int .i64 (b : Int), .int .i64 (E : Int), .slice Ag ks2.length cg] 98)) x9 := ⟨hgr.os, hgr.tape, hgr.output, hgr.size, fun k hk hn => hgr.block k hk fun e => hn e.symm⟩; have h1 := HEX.out.mono (F := EReg B6 x9) fun t e _ h => (h.chg (Chg.grow9 (S := fun _ => False) hbn) fun _ _ _ _ h => h).chg hch9 fun mv b h1 h2 h3 => by
            rcases rows_ne9 h1 (ownsRow_below HRX.out hbn) (by decide) with h9 | h9
            ·rw [h9] at h2; cases h2
            ·exact h9 (h2.trans h3.symm)
           refine h1.app (Els.one rfl ⟨_, rfl, hrn, by simp only [I64]; omega, by simp only [I64]; omega, ?_, HKB.out⟩); exact ownsRow_chg (ownsRow_below HMK2.out hbn) hch9 fun b h2 h3 => by
            rcases rows_ne9 (ownsRow_below HMK2.out hbn) (ownsRow_below HRX.out hbn) (by decide) with h9 | h9
            ·rw [h9] at h2; cases h2
            ·exact h9 (h2.trans h3.symm)
          have tp17 : TP T B x9 p := (tp16.below hbn).keep ⟨hgr.os, hgr.tape, hgr.output, hgr.size, fun k hk hn => hgr.block k hk fun e => by have := own_lt HRX.out k e.symm; omega⟩; have hch17 : Chg (fun k => k = p) w6 x9 := ((hch16.trans (Chg.grow9 hbn)).mono (T := fun k => k = p \/ B6 <= k) fun k _ e => .inl e).trans ⟨hgr.os, hgr.tape, hgr.output, hgr.size, fun k hk hn => hgr.block k hk fun e => by have := own_lt HRX.out k e.symm; omega⟩ |>.mono fun k hk e => e.elim id fun e => by have := HB6.out; omega
          obtain ⟨A9, c9, rfl, -, -⟩ := own_form hrow; have HR2 : Hid (x9.ownsRow B6 98 4 (.slice A9 (m + 1) c9) (m + 1) (es ++ [([.string rn, .int .i64 (b : Int), .int .i64 (E : Int), .slice Ag ks2.length cg] : List Value)]).flatten) := by
           rw [List.flatten_append, List.flatten_cons, List.flatten_nil, List.append_nil]; exact hrow
          have HL2 : Hid ((L ++ [(⟨rn, (b : Int), (E : Int), ks2⟩ : Spn)]).length = m + 1) := by show _ = _; rw [List.length_append, HLL.out]; rfl
          clear hrow hgr hbn o_n hsn HEX HRX HMK2 tp16 hch16 hi1 hy0 hy1 hy2
          go_upto_region 13 with (at_builtin; refine wpList_append_eq rfl (.tmp 162) (.tmp 164) 26 rfl _ _ _ rfl rfl hap ?_)
          clear hap di din y0 y1 y2 y3; have zk : IntKind.i64.wrap (((k + 1 : Nat) : Int) - 1) = (k : Int) := (IntWalk.i64_in _ (by omega)).trans (by omega); have zk2 : IntKind.i64.wrap ((k : Int) + 1 - 1) = (k : Int) := (IntWalk.i64_in _ (by omega)).trans (by omega)
          go_wp2
          go_roundg (k + 1)
          case measure => omega
          case rel => exact ⟨k, m + 1, A9, c9, _, _, rfl, by omega, rfl, rfl, HL2, HR2, HE2, tp17, hch17⟩
         ·skip
          have HRX := Z' (ownsRow_below HRW.out hbr); have HEX := Z' (HES.out.mono fun t e _ h => h.chg (Chg.grow9 (S := fun _ => False) hbr) fun _ _ _ _ h => h); have tp16 := tp15.below hbr; have hch16 := hch.trans (Chg.grow9 (S := fun k => k = p) hbr); have zk : IntKind.i64.wrap (((k + 1 : Nat) : Int) - 1) = (k : Int) := (IntWalk.i64_in _ (by omega)).trans (by omega); have zk2 : IntKind.i64.wrap ((k : Int) + 1 - 1) = (k : Int) := (IntWalk.i64_in _ (by omega)).trans (by omega)
          go_wp2
          go_roundg (k + 1)
          case measure => omega
          case rel => exact ⟨k, m, AL, cL, _, _, rfl, by omega, rfl, rfl, HLL, HRX, HEX, tp16, hch16⟩
     ·skip
      have dk : decide ((0 : Int) < (k : Int)) = false := decide_eq_false (by omega); have dkn : decide (0 < k) = false := decide_eq_false (by omega); have hHL : Hid (SpnsO (fun k => k <= B3 \/ k = gc) wr (.slice AL m cL) L) := ⟨es, HES.out.mono fun t e _ h => h.spn fun k hk e => by omega, HLL.out.symm ▸ SO.of_own HRW.out fun k hk e => by omega⟩; have hl4 : L.length <= 1000000 := by rw [HLL.out]; omega
      clear HES HRW; have hB6w2 : B6 <= wr.heap.size := by have := HB6.out; omega
      go_wp2_with fail
      refine (sortRegions6_any (S := fun k => k <= B3 \/ k = gc) wr hHL.out (fun k h => by omega) hl4).mono ?_; rintro e w20 ⟨⟨zr, M, rfl, HZR⟩, hb20⟩; obtain ⟨Az, cz, rfl, -, -, HZR⟩ := EO.form HZR; have tp20 := tp.below hb20; have hch20 := hch.trans (Chg.grow9 (S := fun k => k = p) hb20); have hw20 := hb20.size; clear hb20 tp hch hHL hl4; have o_c20 := hch20.own o_c (by omega); have o_r20 := hch20.own o_r (by omega); have hcm : Chg (fun k => k <= B3 \/ k = gc) w6 w20 := hch20.mono fun k _ e => by omega
      have HA20 := Z' (EO.chg' HA6.out hcm); have HX20 := Z' (SpnsO.chg HX6.out hcm); have HT20 := Z' (RowsO.chg HT6.out hcm); have HR20 := Z' HZR; have hcw20 := HCW.out.trans hch20; clear hcm HZR HA6 HX6 HT6 HCW hch20 o_c o_r; have c3 := o_c20.c3; have f3 := o_c20.frozen 3; have o_c21 := o_c20.set_ 3 (.slice Az M.length cz); have hc21 : Chg (fun k => k = gc) w20 (w20.setCell ⟨gc, 3, none⟩ (.slice Az M.length cz)) := (Chg.refl (fun k => k = gc) w20).setCell (p := ⟨gc, 3, none⟩) rfl _
      go_upto_region 27 with (fail)
      clear c3 f3 o_c20; generalize w20.setCell ⟨gc, 3, none⟩ (.slice Az M.length cz) = w21 at o_c21 hc21 |-; have tp21 := tp20.keep (hc21.mono fun k _ e => by omega); have o_r21 := hc21.own o_r20 (by omega); have hcm : Chg (fun k => k <= B3 \/ k = gc) w20 w21 := hc21.mono fun k _ e => by omega
      replace HA20 := Z' (EO.chg' HA20.out hcm); replace HX20 := Z' (SpnsO.chg HX20.out hcm); replace HT20 := Z' (RowsO.chg HT20.out hcm); replace HR20 := Z' (SpnsO.chg HR20.out hcm); have hcw21 : Chg (fun k => k = p) w w21 := (hcw20.mono (T := fun k => k = p \/ w.heap.size <= k) fun k _ e => .inl e).trans (hc21.mono fun k _ e => .inr (by have := HB3.out; omega)) |>.mono fun k hk e => e.elim id fun e => by omega
      have hw21 := hc21.size; clear hcm hc21 tp20 o_r20 hcw20; have hBg : B <= gc := by omega
      go_wp2_with fail
      refine (nodes_made w21 tp21 hBg hn0 (by omega) o_c21).mono ?_; rintro e w22 ⟨rfl, tp22, hc22, vN, N, o_c22, HN⟩; obtain ⟨AN, cN, rfl, -, -, HN⟩ := EO.form HN; have hcm : Chg (fun k => k <= B3 \/ k = gc) w21 w22 := hc22.mono fun k _ e => by omega
      replace HA20 := Z' (EO.chg' HA20.out hcm); replace HX20 := Z' (SpnsO.chg HX20.out hcm); replace HT20 := Z' (RowsO.chg HT20.out hcm); replace HR20 := Z' (SpnsO.chg HR20.out hcm); have HN20 : Hid (NodesO (fun k => k <= B3 \/ k = gc) w22 (.slice AN N.length cN) N) := EO.weak' HN fun k e => by omega
      have o_r22 := hc22.own o_r21 (by omega); have hcw22 : Chg (fun k => k = p) w w22 := (hcw21.mono (T := fun k => k = p \/ w.heap.size <= k) fun k _ e => .inl e).trans (hc22.mono fun k _ e => e.imp id fun e => by have := HB3.out; omega) |>.mono fun k hk e => e.elim id fun e => by omega
      have hw22 := hc22.size; clear hcm hc22 tp21 o_r21 o_c21 hcw21 HN
      go_wp2_with fail
      refine (next9 T B p 2 _ rfl _ tp22 (by decide) (by decide)).mono ?_; rintro e w23 ⟨r9, rfl, hr9, tp23, hc23⟩; have hcm : Chg (fun k => k <= B3 \/ k = gc) w22 w23 := hc23.mono fun k _ e => by omega
      replace HA20 := Z' (EO.chg' HA20.out hcm); replace HX20 := Z' (SpnsO.chg HX20.out hcm); replace HT20 := Z' (RowsO.chg HT20.out hcm); replace HR20 := Z' (SpnsO.chg HR20.out hcm); replace HN20 := Z' (EO.chg' HN20.out hcm); have o_r23 := hc23.own o_r22 (by omega); have o_c23 := hc23.own o_c22 (by omega); have hcw23 := hcw22.trans hc23; have hw23 := hc23.size; clear hcm hc23 tp22 o_r22 o_c22 hcw22
      by_cases h91 : r9 = 1
      ·skip
       subst h91
       go_upto_region 29 with (fail)
       go_wp2_with fail
       refine (heads_made w23 tp23 hBg hn0 (by omega) o_c23).mono ?_; rintro e w24 ⟨rfl, tp24, hc24, vH, vR, HL9, RL9, o_c24, HH, HR⟩; obtain ⟨AH, cH, rfl, -, -, HH⟩ := EO.form HH; obtain ⟨AR, cR, rfl, -, -, HR⟩ := EO.form HR; have hcm : Chg (fun k => k <= B3 \/ k = gc) w23 w24 := hc24.mono fun k _ e => by omega
       replace HA20 := Z' (EO.chg' HA20.out hcm); replace HX20 := Z' (SpnsO.chg HX20.out hcm); replace HT20 := Z' (RowsO.chg HT20.out hcm); replace HR20 := Z' (SpnsO.chg HR20.out hcm); replace HN20 := Z' (EO.chg' HN20.out hcm); have HH20 : Hid (IntsO (fun k => k <= B3 \/ k = gc) w24 (.slice AH HL9.length cH) HL9) := EO.weak' HH fun k e => by omega
       have HS20 : Hid (StrsO (fun k => k <= B3 \/ k = gc) w24 (.slice AR RL9.length cR) RL9) := EO.weak' HR fun k e => by omega
       have o_r24 := hc24.own o_r23 (by omega); have hcw24 : Chg (fun k => k = p) w w24 := (hcw23.mono (T := fun k => k = p \/ w.heap.size <= k) fun k _ e => .inl e).trans (hc24.mono fun k _ e => e.imp id fun e => by have := HB3.out; omega) |>.mono fun k hk e => e.elim id fun e => by omega
       have hw24 := hc24.size; clear hcm hc24 tp23 o_r23 o_c23 hcw23 HH HR; obtain ⟨s0, s1, s2, s3, s4, s5, s6⟩ := o_c24.cells7; obtain ⟨r9_0, r9_1, r9_2, r9_3, r9_4, r9_5, r9_6⟩ := o_r24.cells7; obtain ⟨fr9_0, fr9_1, fr9_2, fr9_3, fr9_4, fr9_5, fr9_6⟩ := o_r24.frozens7; have oz := o_r24.set7' (.slice Aa atts9.length ca) (.slice AT j cT) (.slice (some ⟨gt, 0, none⟩) 1 1) (.slice Az M.length cz) (.slice AN N.length cN) (.slice AH HL9.length cH) (.slice AR RL9.length cR); have HC : Hid (Chg (fun k => k = B3) w24 ((((((((w24.setCell ⟨B3, 0, none⟩ (.slice Aa atts9.length ca)).setCell ⟨B3, 1, none⟩ (.slice AT j cT)).setCell ⟨B3, 2, none⟩ (.slice (some ⟨gt, 0, none⟩) 1 1)).setCell ⟨B3, 3, none⟩ (.slice Az M.length cz)).setCell ⟨B3, 4, none⟩ (.slice AN N.length cN)).setCell ⟨B3, 5, none⟩ (.slice AH HL9.length cH)).setCell ⟨B3, 6, none⟩ (.slice AR RL9.length cR)))) := ((((((((Chg.refl (fun k => k = B3) w24).setCell (p := ⟨B3, 0, none⟩) rfl (.slice Aa atts9.length ca)).setCell (p := ⟨B3, 1, none⟩) rfl (.slice AT j cT)).setCell (p := ⟨B3, 2, none⟩) rfl (.slice (some ⟨gt, 0, none⟩) 1 1)).setCell (p := ⟨B3, 3, none⟩) rfl (.slice Az M.length cz)).setCell (p := ⟨B3, 4, none⟩) rfl (.slice AN N.length cN)).setCell (p := ⟨B3, 5, none⟩) rfl (.slice AH HL9.length cH)).setCell (p := ⟨B3, 6, none⟩) rfl (.slice AR RL9.length cR))
       go_wp2_with fail
       clear r9_0 r9_1 r9_2 r9_3 r9_4 r9_5 r9_6 fr9_0 fr9_1 fr9_2 fr9_3 fr9_4 fr9_5 fr9_6 s0 s1 s2 s3 s4 s5 s6; generalize (((((((w24.setCell ⟨B3, 0, none⟩ (.slice Aa atts9.length ca)).setCell ⟨B3, 1, none⟩ (.slice AT j cT)).setCell ⟨B3, 2, none⟩ (.slice (some ⟨gt, 0, none⟩) 1 1)).setCell ⟨B3, 3, none⟩ (.slice Az M.length cz)).setCell ⟨B3, 4, none⟩ (.slice AN N.length cN)).setCell ⟨B3, 5, none⟩ (.slice AH HL9.length cH)).setCell ⟨B3, 6, none⟩ (.slice AR RL9.length cR)) = wz at oz HC |-; obtain ⟨z90, z91, z92, z93, z94, z95, z96⟩ := oz.cells7; have q9 : CorC (fun k => k <= B3 \/ k = gc) w24 (.slice Aa atts9.length ca) (.slice AT j cT) (.slice (some ⟨gt, 0, none⟩) 1 1) (.slice Az M.length cz) (.slice AN N.length cN) (.slice AH HL9.length cH) (.slice AR RL9.length cR) ⟨atts9, TL, [⟨name, 0, (j : Int), ks⟩], M, N, HL9, RL9⟩ := ⟨HA20.out, HT20.out, HX20.out, HR20.out, HN20.out, HH20.out, HS20.out⟩
       have q8 := (q9.chg (HC.out.mono fun k _ e => by omega)).weak (T := fun k => k < w.heap.size) fun k h => by have := HB3.out; omega
       have tz := tp24.keep (HC.out.mono fun k _ e => by omega); have hcz : Chg (fun k => k = p) w wz := (hcw24.mono (T := fun k => k = p \/ w.heap.size <= k) fun k _ e => .inl e).trans (HC.out.mono fun k _ e => .inr (by have := HB3.out; omega)) |>.mono fun k hk e => e.elim id fun e => by omega
       have hdc : DocC name most ⟨atts9, TL, [⟨name, 0, (j : Int), ks⟩], M, N, HL9, RL9⟩ := ⟨rfl, by show 0 < TL.length; rw [HTL.out]; exact hn0, by show TL.length <= most; rw [HTL.out]; exact hnm, HRR.out, ⟨ks, by show [_] = [_]; rw [HTL.out]⟩⟩; exact bodyPost_ret (v := .agg #[.slice Aa atts9.length ca, .slice AT j cT, .slice (some ⟨gt, 0, none⟩) 1 1, .slice Az M.length cz, .slice AN N.length cN, .slice AH HL9.length cH, .slice AR RL9.length cR]) (by simp [results, Tryz.results19, go_sem, z90, z91, z92, z93, z94, z95, z96]) rfl ⟨⟨_, _, rfl, ⟨_, _, _, _, _, _, _, rfl, q8⟩, hdc⟩, tz, hcz⟩
      ·skip
       have qe : (((r9 : Int) : Int) == (1 : Int)) = false := beq_eq_false_iff_ne.2 (by omega); have qd : (((r9 : Int) : Int) != (1 : Int)) = true := by rw [bne_iff_ne]; omega
       have qne : ((r9 : Nat) == (1 : Nat)) = false := beq_eq_false_iff_ne.2 (by omega); have qnd : ((r9 : Nat) != (1 : Nat)) = true := by rw [bne_iff_ne]; omega
       obtain ⟨s0, s1, s2, s3, s4, s5, s6⟩ := o_c23.cells7; obtain ⟨r9_0, r9_1, r9_2, r9_3, r9_4, r9_5, r9_6⟩ := o_r23.cells7; obtain ⟨fr9_0, fr9_1, fr9_2, fr9_3, fr9_4, fr9_5, fr9_6⟩ := o_r23.frozens7; have oz := o_r23.set7' (.slice Aa atts9.length ca) (.slice AT j cT) (.slice (some ⟨gt, 0, none⟩) 1 1) (.slice Az M.length cz) (.slice AN N.length cN) (.slice none 0 0) (.slice none 0 0); have HC : Hid (Chg (fun k => k = B3) w23 ((((((((w23.setCell ⟨B3, 0, none⟩ (.slice Aa atts9.length ca)).setCell ⟨B3, 1, none⟩ (.slice AT j cT)).setCell ⟨B3, 2, none⟩ (.slice (some ⟨gt, 0, none⟩) 1 1)).setCell ⟨B3, 3, none⟩ (.slice Az M.length cz)).setCell ⟨B3, 4, none⟩ (.slice AN N.length cN)).setCell ⟨B3, 5, none⟩ (.slice none 0 0)).setCell ⟨B3, 6, none⟩ (.slice none 0 0)))) := ((((((((Chg.refl (fun k => k = B3) w23).setCell (p := ⟨B3, 0, none⟩) rfl (.slice Aa atts9.length ca)).setCell (p := ⟨B3, 1, none⟩) rfl (.slice AT j cT)).setCell (p := ⟨B3, 2, none⟩) rfl (.slice (some ⟨gt, 0, none⟩) 1 1)).setCell (p := ⟨B3, 3, none⟩) rfl (.slice Az M.length cz)).setCell (p := ⟨B3, 4, none⟩) rfl (.slice AN N.length cN)).setCell (p := ⟨B3, 5, none⟩) rfl (.slice none 0 0)).setCell (p := ⟨B3, 6, none⟩) rfl (.slice none 0 0))
       go_wp2_with fail
       clear r9_0 r9_1 r9_2 r9_3 r9_4 r9_5 r9_6 fr9_0 fr9_1 fr9_2 fr9_3 fr9_4 fr9_5 fr9_6 s0 s1 s2 s3 s4 s5 s6; generalize (((((((w23.setCell ⟨B3, 0, none⟩ (.slice Aa atts9.length ca)).setCell ⟨B3, 1, none⟩ (.slice AT j cT)).setCell ⟨B3, 2, none⟩ (.slice (some ⟨gt, 0, none⟩) 1 1)).setCell ⟨B3, 3, none⟩ (.slice Az M.length cz)).setCell ⟨B3, 4, none⟩ (.slice AN N.length cN)).setCell ⟨B3, 5, none⟩ (.slice none 0 0)).setCell ⟨B3, 6, none⟩ (.slice none 0 0)) = wz at oz HC |-; obtain ⟨z90, z91, z92, z93, z94, z95, z96⟩ := oz.cells7; have q9 : CorC (fun k => k <= B3 \/ k = gc) w23 (.slice Aa atts9.length ca) (.slice AT j cT) (.slice (some ⟨gt, 0, none⟩) 1 1) (.slice Az M.length cz) (.slice AN N.length cN) (.slice none 0 0) (.slice none 0 0) ⟨atts9, TL, [⟨name, 0, (j : Int), ks⟩], M, N, [], []⟩ := ⟨HA20.out, HT20.out, HX20.out, HR20.out, HN20.out, EO.nil _ _ _ _, EO.nil _ _ _ _⟩; have q8 := (q9.chg (HC.out.mono fun k _ e => by omega)).weak (T := fun k => k < w.heap.size) fun k h => by have := HB3.out; omega
       have tz := tp23.keep (HC.out.mono fun k _ e => by omega); have hcz : Chg (fun k => k = p) w wz := (hcw23.mono (T := fun k => k = p \/ w.heap.size <= k) fun k _ e => .inl e).trans (HC.out.mono fun k _ e => .inr (by have := HB3.out; omega)) |>.mono fun k hk e => e.elim id fun e => by omega
       have hdc : DocC name most ⟨atts9, TL, [⟨name, 0, (j : Int), ks⟩], M, N, [], []⟩ := ⟨rfl, by show 0 < TL.length; rw [HTL.out]; exact hn0, by show TL.length <= most; rw [HTL.out]; exact hnm, HRR.out, ⟨ks, by show [_] = [_]; rw [HTL.out]⟩⟩; exact bodyPost_ret (v := .agg #[.slice Aa atts9.length ca, .slice AT j cT, .slice (some ⟨gt, 0, none⟩) 1 1, .slice Az M.length cz, .slice AN N.length cN, .slice none 0 0, .slice none 0 0]) (by simp [results, Tryz.results19, go_sem, z90, z91, z92, z93, z94, z95, z96]) rfl ⟨⟨_, _, rfl, ⟨_, _, _, _, _, _, _, rfl, q8⟩, hdc⟩, tz, hcz⟩
end Go.Proofs.YtjimfbmegmnocaaGreatDoor
