/- Parts of the proof: Mw. No condition of its own. -/
import Derived.Test.YtopfcfbiaadfeaaGreatDoorMs
import Derived.Test.YtopfcfbiaadfeaaGreatDoorLa
import Derived.Test.YtopfcfbiaadfeaaGreatDoorRgt
set_option linter.unusedSimpArgs false
set_option linter.unusedVariables false
set_option linter.unusedSectionVars false
set_option maxRecDepth 100000
set_option maxHeartbeats 4000000
namespace Go.Proofs.YtopfcfbiaadfeaaGreatDoor
open Go.RowKit Dg

theorem RdOut.weak {S T : Nat → Prop} {w : World} {A : Option Addr} {xs : List Value} (h : RdOut S w A xs) (hs : ∀ k, T k → S k) : RdOut T w A xs := fun j u hu => by
  obtain ⟨b, off, e, hn, hc⟩ := h j u hu; exact ⟨b, off, e, fun x => hn (hs _ x), hc⟩
def CI (p g : Nat) (A : Option Addr) (l : List Int) (c : Nat) (C : List Value → Prop) (w : World) : Prop :=
  (∃ at_, Tape w p A l c at_) ∧ RdOut (fun k => k = p ∨ k = g) w A (ci l) ∧ ∃ cs, C cs ∧ Own w g 25 cs
theorem CI.set {p g : Nat} {A : Option Addr} {l : List Int} {c : Nat} {C : List Value → Prop} {w : World} (h : CI p g A l c C w) (hpg : p ≠ g) (i : Nat) (v : Value) (hC : ∀ cs, C cs → C (cs.set i v)) : CI p g A l c C (w.setCell ⟨g, i, none⟩ v) := by
  obtain ⟨⟨a, hT⟩, hr, cs, hc, ho⟩ := h; have hch : Chg (fun k => k = p ∨ k = g) w (w.setCell ⟨g, i, none⟩ v) := (Chg.refl _ _).setCell (p := ⟨g, i, none⟩) (.inr rfl) v; have hr' := RdOut.chg hr hch; exact ⟨⟨a, hT.own.far (p := ⟨g, i, none⟩) hpg v, hr'.weak fun k => .inl, hT.le, hT.few, hT.wf⟩, hr', cs.set i v, hC _ hc, ho.set_ i v⟩
theorem CI.next {p g : Nat} {A : Option Addr} {l : List Int} {c : Nat} {C : List Value → Prop} {w w' : World} (h : CI p g A l c C w) (hpg : p ≠ g) {a : Nat} (hT : Tape w' p A l c a) (hc : Chg (fun k => k = p) w w') : CI p g A l c C w' := by
  obtain ⟨_, hr, cs, hC, ho⟩ := h; exact ⟨⟨a, hT⟩, RdOut.chg hr (hc.mono fun k _ => .inl), cs, hC, hc.own ho fun e => hpg e.symm⟩
def CG (g i : Nat) (X : Int → Prop) (w : World) : Prop := ∃ x : Int, X x ∧ w.cell? ⟨g, i, none⟩ = some (.int .i64 x)
theorem CG.far {g i j : Nat} {X : Int → Prop} {w : World} (h : CG g i X w) (hij : i ≠ j) (v : Value) : CG g i X (w.setCell ⟨g, j, none⟩ v) := by
  obtain ⟨x, hx, hc⟩ := h; refine ⟨x, hx, ?_⟩; rw [World.cell?_setCell_other _ _ _ _ (by intro e; injection e with e1 e2; omega)]; exact hc
theorem CG.next {p g i : Nat} {X : Int → Prop} {w w' : World} (h : CG g i X w) (hpg : p ≠ g) (hc : Chg (fun k => k = p) w w') : CG g i X w' := by
  obtain ⟨x, hx, hv⟩ := h; exact ⟨x, hx, hc.cell hv fun e => hpg e.symm⟩
theorem CI.at {p g : Nat} {A : Option Addr} {l : List Int} {c : Nat} {C : List Value → Prop} {w : World} (h : CI p g A l c C w) (i : Nat) (x : Int) {X : Int → Prop} (hi : ∀ cs, C cs → i < cs.length) (hx : X x) : CG g i X (w.setCell ⟨g, i, none⟩ (.int .i64 x)) := by
  obtain ⟨_, _, cs, hC, ho⟩ := h; refine ⟨x, hx, ?_⟩; rw [(ho.set_ i _).cell, List.getElem?_set_self (hi _ hC)]
abbrev CK (p g : Nat) (A : Option Addr) (l : List Int) (c : Nat) (C : List Value → Prop) (i j : Nat) (X Y : Int → Prop) : World → World → Prop := KR (fun k => k = p ∨ k = g) (CI p g A l c C) (CG g i X) (CG g j Y)
theorem CK.next {p g : Nat} {A : Option Addr} {l : List Int} {c : Nat} {C : List Value → Prop} {i j : Nat} {X Y : Int → Prop} {w w' : World} (hpg : p ≠ g) {a : Nat} (hT : Tape w' p A l c a) (hc : Chg (fun k => k = p) w w') : CK p g A l c C i j X Y w w' :=
  ⟨hc.mono fun k _ => .inl, fun h => ⟨h.next hpg hT hc, fun h => h.next hpg hc, fun h => h.next hpg hc⟩⟩
theorem CK.set1 {p g : Nat} {A : Option Addr} {l : List Int} {c : Nat} {C : List Value → Prop} {i j : Nat} {X Y : Int → Prop} {w : World} (hpg : p ≠ g) (hij : j ≠ i) (x : Int) (hC : ∀ cs, C cs → C (cs.set i (.int .i64 x))) (hi : ∀ cs, C cs → i < cs.length) (hx : X x) : CK p g A l c C i j X Y w (w.setCell ⟨g, i, none⟩ (.int .i64 x)) :=
  ⟨(Chg.refl _ _).setCell (p := ⟨g, i, none⟩) (.inr rfl) _, fun h => ⟨h.set hpg i _ hC, fun _ => h.at i x hi hx, fun h => h.far hij _⟩⟩
theorem CK.set2 {p g : Nat} {A : Option Addr} {l : List Int} {c : Nat} {C : List Value → Prop} {i j : Nat} {X Y : Int → Prop} {w : World} (hpg : p ≠ g) (hij : i ≠ j) (x : Int) (hC : ∀ cs, C cs → C (cs.set j (.int .i64 x))) (hi : ∀ cs, C cs → j < cs.length) (hx : Y x) : CK p g A l c C i j X Y w (w.setCell ⟨g, j, none⟩ (.int .i64 x)) :=
  ⟨(Chg.refl _ _).setCell (p := ⟨g, j, none⟩) (.inr rfl) _, fun h => ⟨h.set hpg j _ hC, fun h => h.far hij _, fun _ => h.at j x hi hx⟩⟩
def C2 (a : Nat) (cs : List Value) : Prop := ∃ x y : Value, cs = [.int .i64 (a : Int), x, y, .int .i64 1]
def X1 (a : Nat) (x : Int) : Prop := (a : Int) ≤ x ∧ x < (a : Int) + 20
theorem C2.c0 {p g : Nat} {A : Option Addr} {l : List Int} {c a : Nat} {w : World} (h : CI p g A l c (C2 a) w) : w.cell? ⟨g, 0, none⟩ = some (.int .i64 (a : Int)) := by
  obtain ⟨-, -, cs, ⟨x, y, rfl⟩, ho⟩ := h; exact ho.cell 0
def C3 (a : Nat) (x y : Int) (cs : List Value) : Prop := ∃ z : Value, cs = [.int .i64 (a : Int), .int .i64 x, .int .i64 y, z]
def X3 (a : Nat) (x y z : Int) : Prop := 1 ≤ z ∧ x + y - (a : Int) ≤ z ∧ z ≤ 1 + (x + y) + 60
theorem C3.c0 {p g : Nat} {A : Option Addr} {l : List Int} {c a : Nat} {x y : Int} {w : World} (h : CI p g A l c (C3 a x y) w) : w.cell? ⟨g, 0, none⟩ = some (.int .i64 (a : Int)) := by
  obtain ⟨-, -, cs, ⟨z, rfl⟩, ho⟩ := h; exact ho.cell 0
theorem C3.c1 {p g : Nat} {A : Option Addr} {l : List Int} {c a : Nat} {x y : Int} {w : World} (h : CI p g A l c (C3 a x y) w) : w.cell? ⟨g, 1, none⟩ = some (.int .i64 x) := by
  obtain ⟨-, -, cs, ⟨z, rfl⟩, ho⟩ := h; exact ho.cell 1
theorem C3.c2 {p g : Nat} {A : Option Addr} {l : List Int} {c a : Nat} {x y : Int} {w : World} (h : CI p g A l c (C3 a x y) w) : w.cell? ⟨g, 2, none⟩ = some (.int .i64 y) := by
  obtain ⟨-, -, cs, ⟨z, rfl⟩, ho⟩ := h; exact ho.cell 2
theorem next_lit (k : Nat) (i : Int) (hi : i = (k : Int)) (p : Nat) (A : Option Addr) (l : List Int) (c at_ : Nat) (w : World) (h : Tape w p A l c at_) (hn : 0 < k) (hn2 : k ≤ 1000000) :
    Calls Tryz.prog 44 #[.pointer (some ⟨p, 0, none⟩), .int .i64 i] w fun e w' => ∃ r at', e = .returned (.int .i64 ((r : Nat) : Int)) ∧ r < k ∧ Tape w' p A l c at' ∧ Chg (fun k => k = p) w w' := by
  subst hi; exact next_any p A l c at_ k w h hn hn2
def MadeC (a p q n : Nat) : Prop := VC a p q n ∧ n ≤ 200
theorem cells_any (p : Nat) (A : Option Addr) (l : List Int) (c at_ : Nat) (w : World) (h : Tape w p A l c at_) :
    Calls Tryz.prog 11 #[.pointer (some ⟨p, 0, none⟩)] w fun e w' => ∃ a b d n, MadeC a b d n ∧ e = .returned (CV a b d n) ∧ Chg (fun k => k = p) w w' := by
  obtain ⟨o_r, hbw⟩ := new1 w [.int .i64 0, .int .i64 0, .int .i64 0, .int .i64 0] 25; have hpw := h.own.lt; have hT0 := h.below hbw; have hcg : Chg (fun k => k = p) w (w.alloc (.cells #[.int .i64 0, .int .i64 0, .int .i64 0, .int .i64 0] 25)) := Chg.of_below hbw fun k h1 h2 => by omega
  go_enter Tryz.func11, Tryz.ntmps11
  go_upto_region 1 with (fail)
  obtain ⟨gr, hgr⟩ : ∃ gr, gr = w.heap.size := ⟨_, rfl⟩; rw [← hgr] at o_r ⊢; generalize (w.alloc (.cells #[.int .i64 0, .int .i64 0, .int .i64 0, .int .i64 0] 25)) = wb at o_r hT0 hcg ⊢; have HG := Lib.hid hgr; clear hgr hbw h; have hpr : p ≠ gr := by have := HG.out; omega
  go_wp2_with fail
  refine (next_lit 20 20 rfl p A l c at_ _ hT0 (by decide) (by decide)).mono ?_; rintro e w1 ⟨a, at1, rfl, ha, hT1, hc1⟩; replace o_r := hc1.own o_r fun e => hpr e.symm; replace hcg := hcg.trans hc1; clear hc1 hT0; obtain ⟨o_c, hz⟩ := new1 w1 [.int .i64 (a : Int), .int .i64 0, .int .i64 0, .int .i64 1] 25; have hcr := o_r.lt; have hgs : w.heap.size ≤ w1.heap.size := hcg.size; replace o_r := o_r.alloc (.cells #[.int .i64 (a : Int), .int .i64 0, .int .i64 0, .int .i64 1] 25); replace hcg := hcg.alloc (.cells #[.int .i64 (a : Int), .int .i64 0, .int .i64 0, .int .i64 1] 25); have hrd := hT1.rd; have hplt := hT1.own.lt; replace hT1 := hT1.below hz; clear hz
  go_upto_region 2 with (fail)
  generalize hwa : (w1.alloc (.cells #[.int .i64 (a : Int), .int .i64 0, .int .i64 0, .int .i64 1] 25)) = wa at o_c o_r hcg hT1 ⊢; have hrd2 : RdOut (fun k => k = p ∨ k = w1.heap.size) wa A (ci l) := by
    intro j u hu; obtain ⟨b, off, e, hn, hc⟩ := hrd j u hu; have hb := World.block_lt_of_cell? w1 _ hc; refine ⟨b, off, e, fun h => h.elim hn fun h2 => ?_, ?_⟩
    · subst h2; exact absurd hb (Nat.lt_irrefl _)
    · rw [← hwa]; exact below_cell ((Below.refl w1.heap.size w1).alloc (Nat.le_refl _) _) hc
  clear hwa hrd; generalize w1.heap.size = g at o_c hcr hgs hrd2 hplt ⊢; have hpg : p ≠ g := by omega
  have hrg : gr ≠ g := by omega
  have HI : Hid (CI p g A l c (C2 a) wa.drew) := ⟨⟨at1, hT1.own, hT1.rd, hT1.le, hT1.few, hT1.wf⟩, hrd2, _, ⟨_, _, rfl⟩, o_c⟩; clear hrd2 hT1 o_c hplt hcr; refine wp_reg_t (CK p g A l c (C2 a) 1 2 (X1 a) (X1 a)) (KR.refl) (KR.trans) [some 7, some 8, some 9, some 10, some 11, some 12, some 13, some 14, some 15, some 16, some 17, none, some 18, none] [isV ?v1_0, isV ?v1_1, isV ?v1_2, (fun v _ => ∃ r : Nat, v = .int .i64 (r : Int) ∧ r < 20), (fun v _ => ∃ x : Int, v = .int .i64 x ∧ X1 a x), isV ?v1_5, isV ?v1_6, isV ?v1_7, (fun v _ => ∃ r : Nat, v = .int .i64 (r : Int) ∧ r < 20), (fun v _ => ∃ x : Int, v = .int .i64 x ∧ X1 a x), isV ?v1_10, (fun _ w => CI p g A l c (C2 a) w ∧ CG g 1 (X1 a) w), isV ?v1_12, (fun _ w => CI p g A l c (C2 a) w ∧ CG g 2 (X1 a) w)] rfl (by kernel_rfl) rfl rfl ?k1 ⟨?s1_0, ?s1_1, ?s1_2, ?s1_3, ?s1_4, ?s1_5, ?s1_6, ?s1_7, ?s1_8, ?s1_9, ?s1_10, ?s1_11, ?s1_12, ?s1_13, trivial⟩ ?p1
  case s1_0 =>
    intro t9 w9 hT9 hV9 hO9 K9 hK9; have o9_3 := hO9 3 _ (show List.contains _ _ = false from by kernel_rfl) rfl; clear hV9 hO9; have hI9 := (hT9.2 HI.out).1; have d9_0 := C2.c0 hI9; go_simp
    (refine hK9 _ _ (KR.refl w9) ?_; exact rfl)
  case s1_1 =>
    intro t9 w9 hT9 hV9 hO9 K9 hK9; obtain ⟨x9_0, p9_0, q9_0⟩ := hV9.g 0 7 rfl rfl (by kernel_rfl); obtain rfl : x9_0 = ?v1_0 := q9_0; clear hV9 hO9; have hI9 := (hT9.2 HI.out).1; have d9_0 := C2.c0 hI9; go_simp
    (refine hK9 _ _ (KR.refl w9) ?_; exact rfl)
  case s1_2 =>
    intro t9 w9 hT9 hV9 hO9 K9 hK9; have o9_0 := hO9 0 _ (show List.contains _ _ = false from by kernel_rfl) rfl; clear hV9 hO9; have hI9 := (hT9.2 HI.out).1; have d9_0 := C2.c0 hI9; go_simp
    (refine hK9 _ _ (KR.refl w9) ?_; exact rfl)
  case s1_3 =>
    intro t9 w9 hT9 hV9 hO9 K9 hK9; obtain ⟨x9_2, p9_2, q9_2⟩ := hV9.g 2 9 rfl rfl (by kernel_rfl); obtain rfl : x9_2 = ?v1_2 := q9_2; clear hV9 hO9; have hI9 := (hT9.2 HI.out).1; have d9_0 := C2.c0 hI9; obtain ⟨⟨at9, hA9⟩, -, -⟩ := hI9; go_simp; refine (next_lit 20 20 rfl p A l c at9 _ hA9 (by decide) (by decide)).mono ?_; rintro _ w8 ⟨r8, at8, rfl, hr8, hT8, hc8⟩; exact hK9 _ _ (CK.next hpg hT8 hc8) ⟨_, rfl, hr8⟩
  case s1_4 =>
    intro t9 w9 hT9 hV9 hO9 K9 hK9; obtain ⟨x9_1, p9_1, q9_1⟩ := hV9.g 1 8 rfl rfl (by kernel_rfl); obtain rfl : x9_1 = ?v1_1 := q9_1; obtain ⟨x9_3, p9_3, q9_3⟩ := hV9.g 3 10 rfl rfl (by kernel_rfl); replace q9_3 : ((fun v _ => ∃ r : Nat, v = .int .i64 (r : Int) ∧ r < 20)) x9_3 w9 := q9_3; clear hV9 hO9; have hI9 := (hT9.2 HI.out).1; have d9_0 := C2.c0 hI9; obtain ⟨r8, rfl, hr8⟩ := q9_3; have z8 : IntKind.i64.wrap ((a : Int) + (r8 : Int)) = (a : Int) + (r8 : Int) := IntWalk.i64_in _ (by omega); go_simp; exact hK9 _ _ (KR.refl w9) ⟨_, rfl, by unfold X1; omega⟩
  case s1_5 =>
    intro t9 w9 hT9 hV9 hO9 K9 hK9; have o9_3 := hO9 3 _ (show List.contains _ _ = false from by kernel_rfl) rfl; clear hV9 hO9; have hI9 := (hT9.2 HI.out).1; have d9_0 := C2.c0 hI9; go_simp
    (refine hK9 _ _ (KR.refl w9) ?_; exact rfl)
  case s1_6 =>
    intro t9 w9 hT9 hV9 hO9 K9 hK9; obtain ⟨x9_5, p9_5, q9_5⟩ := hV9.g 5 12 rfl rfl (by kernel_rfl); obtain rfl : x9_5 = ?v1_5 := q9_5; clear hV9 hO9; have hI9 := (hT9.2 HI.out).1; have d9_0 := C2.c0 hI9; go_simp
    (refine hK9 _ _ (KR.refl w9) ?_; exact rfl)
  case s1_7 =>
    intro t9 w9 hT9 hV9 hO9 K9 hK9; have o9_0 := hO9 0 _ (show List.contains _ _ = false from by kernel_rfl) rfl; clear hV9 hO9; have hI9 := (hT9.2 HI.out).1; have d9_0 := C2.c0 hI9; go_simp
    (refine hK9 _ _ (KR.refl w9) ?_; exact rfl)
  case s1_8 =>
    intro t9 w9 hT9 hV9 hO9 K9 hK9; obtain ⟨x9_7, p9_7, q9_7⟩ := hV9.g 7 14 rfl rfl (by kernel_rfl); obtain rfl : x9_7 = ?v1_7 := q9_7; clear hV9 hO9; have hI9 := (hT9.2 HI.out).1; have d9_0 := C2.c0 hI9; obtain ⟨⟨at9, hA9⟩, -, -⟩ := hI9; go_simp; refine (next_lit 20 20 rfl p A l c at9 _ hA9 (by decide) (by decide)).mono ?_; rintro _ w8 ⟨r8, at8, rfl, hr8, hT8, hc8⟩; exact hK9 _ _ (CK.next hpg hT8 hc8) ⟨_, rfl, hr8⟩
  case s1_9 =>
    intro t9 w9 hT9 hV9 hO9 K9 hK9; obtain ⟨x9_6, p9_6, q9_6⟩ := hV9.g 6 13 rfl rfl (by kernel_rfl); obtain rfl : x9_6 = ?v1_6 := q9_6; obtain ⟨x9_8, p9_8, q9_8⟩ := hV9.g 8 15 rfl rfl (by kernel_rfl); replace q9_8 : ((fun v _ => ∃ r : Nat, v = .int .i64 (r : Int) ∧ r < 20)) x9_8 w9 := q9_8; clear hV9 hO9; have hI9 := (hT9.2 HI.out).1; have d9_0 := C2.c0 hI9; obtain ⟨r8, rfl, hr8⟩ := q9_8; have z8 : IntKind.i64.wrap ((a : Int) + (r8 : Int)) = (a : Int) + (r8 : Int) := IntWalk.i64_in _ (by omega); go_simp; exact hK9 _ _ (KR.refl w9) ⟨_, rfl, by unfold X1; omega⟩
  case s1_10 =>
    intro t9 w9 hT9 hV9 hO9 K9 hK9; have o9_3 := hO9 3 _ (show List.contains _ _ = false from by kernel_rfl) rfl; clear hV9 hO9; have hI9 := (hT9.2 HI.out).1; have d9_0 := C2.c0 hI9; go_simp
    (refine hK9 _ _ (KR.refl w9) ?_; exact rfl)
  case s1_11 =>
    intro t9 w9 hT9 hV9 hO9 K9 hK9; obtain ⟨x9_4, p9_4, q9_4⟩ := hV9.g 4 11 rfl rfl (by kernel_rfl); replace q9_4 : ((fun v _ => ∃ x : Int, v = .int .i64 x ∧ X1 a x)) x9_4 w9 := q9_4; obtain ⟨x9_10, p9_10, q9_10⟩ := hV9.g 10 17 rfl rfl (by kernel_rfl); obtain rfl : x9_10 = ?v1_10 := q9_10; clear hV9 hO9; have hI9 := (hT9.2 HI.out).1; have d9_0 := C2.c0 hI9; obtain ⟨x8, rfl, hx8⟩ := q9_4; have hset : ∀ cs, C2 a cs → C2 a (cs.set 1 (.int .i64 x8)) := by rintro _ ⟨x7, y7, rfl⟩; exact ⟨_, _, rfl⟩
    have hlen : ∀ cs, C2 a cs → 1 < cs.length := by rintro _ ⟨x7, y7, rfl⟩; simp
    have HT8 := Lib.hid (CK.set1 hpg (by decide) x8 hset hlen hx8 : CK p g A l c (C2 a) 1 2 (X1 a) (X1 a) w9 _); have HV8 := Lib.hid (And.intro (hI9.set hpg 1 (.int .i64 x8) hset) (hI9.at 1 x8 (X := X1 a) hlen hx8)); clear hset hlen; obtain ⟨-, -, cs9, ⟨x7, y7, rfl⟩, ho9⟩ := hI9; have d1 : w9.cell? ⟨g, 1, none⟩ = some x7 := ho9.cell 1; have f1 := ho9.frozen 1; go_simp; exact hK9 undef _ HT8.out HV8.out
  case s1_12 =>
    intro t9 w9 hT9 hV9 hO9 K9 hK9; have o9_3 := hO9 3 _ (show List.contains _ _ = false from by kernel_rfl) rfl; clear hV9 hO9; have hI9 := (hT9.2 HI.out).1; have d9_0 := C2.c0 hI9; go_simp
    (refine hK9 _ _ (KR.refl w9) ?_; exact rfl)
  case s1_13 =>
    intro t9 w9 hT9 hV9 hO9 K9 hK9; obtain ⟨x9_9, p9_9, q9_9⟩ := hV9.g 9 16 rfl rfl (by kernel_rfl); replace q9_9 : ((fun v _ => ∃ x : Int, v = .int .i64 x ∧ X1 a x)) x9_9 w9 := q9_9; obtain ⟨x9_12, p9_12, q9_12⟩ := hV9.g 12 18 rfl rfl (by kernel_rfl); obtain rfl : x9_12 = ?v1_12 := q9_12; clear hV9 hO9; have hI9 := (hT9.2 HI.out).1; have d9_0 := C2.c0 hI9; obtain ⟨x8, rfl, hx8⟩ := q9_9; have hset : ∀ cs, C2 a cs → C2 a (cs.set 2 (.int .i64 x8)) := by rintro _ ⟨x7, y7, rfl⟩; exact ⟨_, _, rfl⟩
    have hlen : ∀ cs, C2 a cs → 2 < cs.length := by rintro _ ⟨x7, y7, rfl⟩; simp
    have HT8 := Lib.hid (CK.set2 hpg (by decide) x8 hset hlen hx8 : CK p g A l c (C2 a) 1 2 (X1 a) (X1 a) w9 _); have HV8 := Lib.hid (And.intro (hI9.set hpg 2 (.int .i64 x8) hset) (hI9.at 2 x8 (X := X1 a) hlen hx8)); clear hset hlen; obtain ⟨-, -, cs9, ⟨x7, y7, rfl⟩, ho9⟩ := hI9; have d1 : w9.cell? ⟨g, 2, none⟩ = some y7 := ho9.cell 2; have f1 := ho9.frozen 2; go_simp; exact hK9 undef _ HT8.out HV8.out
  case k1 =>
    intro i9 v9 w9 x9 h9 g9
    match i9, h9 with
    | 0, h9 => exact h9
    | 1, h9 => exact h9
    | 2, h9 => exact h9
    | 3, h9 => (replace h9 : (fun v _ => ∃ r : Nat, v = .int .i64 (r : Int) ∧ r < 20) v9 w9 := h9); exact h9
    | 4, h9 => (replace h9 : (fun v _ => ∃ x : Int, v = .int .i64 x ∧ X1 a x) v9 w9 := h9); exact h9
    | 5, h9 => exact h9
    | 6, h9 => exact h9
    | 7, h9 => exact h9
    | 8, h9 => (replace h9 : (fun v _ => ∃ r : Nat, v = .int .i64 (r : Int) ∧ r < 20) v9 w9 := h9); exact h9
    | 9, h9 => (replace h9 : (fun v _ => ∃ x : Int, v = .int .i64 x ∧ X1 a x) v9 w9 := h9); exact h9
    | 10, h9 => exact h9
    | 11, h9 => (replace h9 : (fun _ w => CI p g A l c (C2 a) w ∧ CG g 1 (X1 a) w) v9 w9 := h9); exact ⟨(g9.2 h9.1).1, (g9.2 h9.1).2.1 h9.2⟩
    | 12, h9 => exact h9
    | 13, h9 => (replace h9 : (fun _ w => CI p g A l c (C2 a) w ∧ CG g 2 (X1 a) w) v9 w9 := h9); exact ⟨(g9.2 h9.1).1, (g9.2 h9.1).2.2 h9.2⟩
    | _ + 14, h9 => exact trivial
  intro u9 w9 hE9 hu9; have r9_0 : u9 0 = ?v1_0 := hu9 0 (by decide); have r9_1 : u9 1 = ?v1_1 := hu9 1 (by decide); have r9_2 : u9 2 = ?v1_2 := hu9 2 (by decide); have r9_3 : (fun v _ => ∃ r : Nat, v = .int .i64 (r : Int) ∧ r < 20) (u9 3) w9 := hu9 3 (by decide); have r9_4 : (fun v _ => ∃ x : Int, v = .int .i64 x ∧ X1 a x) (u9 4) w9 := hu9 4 (by decide); have r9_5 : u9 5 = ?v1_5 := hu9 5 (by decide); have r9_6 : u9 6 = ?v1_6 := hu9 6 (by decide); have r9_7 : u9 7 = ?v1_7 := hu9 7 (by decide); have r9_8 : (fun v _ => ∃ r : Nat, v = .int .i64 (r : Int) ∧ r < 20) (u9 8) w9 := hu9 8 (by decide); have r9_9 : (fun v _ => ∃ x : Int, v = .int .i64 x ∧ X1 a x) (u9 9) w9 := hu9 9 (by decide); have r9_10 : u9 10 = ?v1_10 := hu9 10 (by decide); have r9_11 : (fun _ w => CI p g A l c (C2 a) w ∧ CG g 1 (X1 a) w) (u9 11) w9 := hu9 11 (by decide); have r9_12 : u9 12 = ?v1_12 := hu9 12 (by decide); have r9_13 : (fun _ w => CI p g A l c (C2 a) w ∧ CG g 2 (X1 a) w) (u9 13) w9 := hu9 13 (by decide)
  clear hu9
  simp only [putAll, Act.put, List.setIfInBounds_toArray, List.set_cons_succ, List.set_cons_zero, List.getD_cons_succ, List.getD_cons_zero, Nat.reduceAdd, Nat.zero_add]
  simp only [r9_0, r9_1, r9_2, r9_5, r9_6, r9_7, r9_10, r9_12]
  clear r9_0 r9_1 r9_2 r9_5 r9_6 r9_7 r9_10 r9_12; obtain ⟨hI9, x, hx, cx⟩ := r9_11; obtain ⟨-, y, hy, cy⟩ := r9_13; clear r9_3 r9_4 r9_8 r9_9; obtain ⟨⟨at2, hT2⟩, hrd2, cs, ⟨x7, y7, rfl⟩, ho⟩ := hI9; have e1 : x7 = .int .i64 x := Option.some.inj ((ho.cell 1).symm.trans cx); have e2 : y7 = .int .i64 y := Option.some.inj ((ho.cell 2).symm.trans cy); subst e1 e2; replace o_r := hE9.1.own o_r (fun h => h.elim (fun e => hpr e.symm) hrg); replace hcg := ((hcg.drew.mono (T := fun k => k = p ∨ k = g) fun k _ => .inl).trans hE9.1).drew; unfold X1 at hx hy; clear hE9 cx cy HI; obtain ⟨wc, hwc⟩ : ∃ wc : World, wc = w9 := ⟨_, rfl⟩; rw [← hwc] at hT2 hrd2 ho o_r hcg ⊢; clear hwc w9; have z1 : IntKind.i64.wrap (x + y) = x + y := IntWalk.i64_in _ (by omega); have z2 : IntKind.i64.wrap (x + y - (a : Int)) = x + y - (a : Int) := IntWalk.i64_in _ (by omega); have HI : Hid (CI p g A l c (C3 a x y) wc.drew) := ⟨⟨at2, hT2.own, hT2.rd, hT2.le, hT2.few, hT2.wf⟩, hrd2, _, ⟨_, rfl⟩, ho⟩
  clear ho hrd2 hT2
  go_upto_region 3 with (fail)
  refine wp_reg_t (CK p g A l c (C3 a x y) 3 0 (X3 a x y) (fun _ => True)) (KR.refl) (KR.trans) [some 19, some 20, some 21, some 22, some 23, some 24, some 25, some 26, some 27, some 28, some 29, some 30, some 31, none] [isV ?v2_0, isV ?v2_1, isV ?v2_2, isV ?v2_3, isV (.int .i64 (x + y)), isV ?v2_5, isV ?v2_6, isV (.int .i64 (x + y - (a : Int))), isV ?v2_8, (fun v _ => ∃ r : Nat, v = .int .i64 (r : Int) ∧ r < 60), (fun v _ => ∃ z : Int, v = .int .i64 z ∧ x + y - (a : Int) ≤ z ∧ z < x + y - (a : Int) + 60), (fun v _ => ∃ z : Int, v = .int .i64 z ∧ X3 a x y z), isV ?v2_12, (fun _ w => CI p g A l c (C3 a x y) w ∧ CG g 3 (X3 a x y) w)] rfl (by kernel_rfl) rfl rfl ?k2 ⟨?s2_0, ?s2_1, ?s2_2, ?s2_3, ?s2_4, ?s2_5, ?s2_6, ?s2_7, ?s2_8, ?s2_9, ?s2_10, ?s2_11, ?s2_12, ?s2_13, trivial⟩ ?p2
  case s2_0 =>
    intro t9 w9 hT9 hV9 hO9 K9 hK9; have o9_3 := hO9 3 _ (show List.contains _ _ = false from by kernel_rfl) rfl; clear hV9 hO9; have hI9 := (hT9.2 HI.out).1; have d9_0 := C3.c0 hI9; have d9_1 := C3.c1 hI9; have d9_2 := C3.c2 hI9; go_simp
    (refine hK9 _ _ (KR.refl w9) ?_; exact rfl)
  case s2_1 =>
    intro t9 w9 hT9 hV9 hO9 K9 hK9; obtain ⟨x9_0, p9_0, q9_0⟩ := hV9.g 0 19 rfl rfl (by kernel_rfl); obtain rfl : x9_0 = ?v2_0 := q9_0; clear hV9 hO9; have hI9 := (hT9.2 HI.out).1; have d9_0 := C3.c0 hI9; have d9_1 := C3.c1 hI9; have d9_2 := C3.c2 hI9; go_simp
    (refine hK9 _ _ (KR.refl w9) ?_; exact rfl)
  case s2_2 =>
    intro t9 w9 hT9 hV9 hO9 K9 hK9; have o9_3 := hO9 3 _ (show List.contains _ _ = false from by kernel_rfl) rfl; clear hV9 hO9; have hI9 := (hT9.2 HI.out).1; have d9_0 := C3.c0 hI9; have d9_1 := C3.c1 hI9; have d9_2 := C3.c2 hI9; go_simp
    (refine hK9 _ _ (KR.refl w9) ?_; exact rfl)
  case s2_3 =>
    intro t9 w9 hT9 hV9 hO9 K9 hK9; obtain ⟨x9_2, p9_2, q9_2⟩ := hV9.g 2 21 rfl rfl (by kernel_rfl); obtain rfl : x9_2 = ?v2_2 := q9_2; clear hV9 hO9; have hI9 := (hT9.2 HI.out).1; have d9_0 := C3.c0 hI9; have d9_1 := C3.c1 hI9; have d9_2 := C3.c2 hI9; go_simp
    (refine hK9 _ _ (KR.refl w9) ?_; exact rfl)
  case s2_4 =>
    intro t9 w9 hT9 hV9 hO9 K9 hK9; obtain ⟨x9_1, p9_1, q9_1⟩ := hV9.g 1 20 rfl rfl (by kernel_rfl); obtain rfl : x9_1 = ?v2_1 := q9_1; obtain ⟨x9_3, p9_3, q9_3⟩ := hV9.g 3 22 rfl rfl (by kernel_rfl); obtain rfl : x9_3 = ?v2_3 := q9_3; clear hV9 hO9; have hI9 := (hT9.2 HI.out).1; have d9_0 := C3.c0 hI9; have d9_1 := C3.c1 hI9; have d9_2 := C3.c2 hI9; go_simp
    (refine hK9 _ _ (KR.refl w9) ?_; exact rfl)
  case s2_5 =>
    intro t9 w9 hT9 hV9 hO9 K9 hK9; have o9_3 := hO9 3 _ (show List.contains _ _ = false from by kernel_rfl) rfl; clear hV9 hO9; have hI9 := (hT9.2 HI.out).1; have d9_0 := C3.c0 hI9; have d9_1 := C3.c1 hI9; have d9_2 := C3.c2 hI9; go_simp
    (refine hK9 _ _ (KR.refl w9) ?_; exact rfl)
  case s2_6 =>
    intro t9 w9 hT9 hV9 hO9 K9 hK9; obtain ⟨x9_5, p9_5, q9_5⟩ := hV9.g 5 24 rfl rfl (by kernel_rfl); obtain rfl : x9_5 = ?v2_5 := q9_5; clear hV9 hO9; have hI9 := (hT9.2 HI.out).1; have d9_0 := C3.c0 hI9; have d9_1 := C3.c1 hI9; have d9_2 := C3.c2 hI9; go_simp
    (refine hK9 _ _ (KR.refl w9) ?_; exact rfl)
  case s2_7 =>
    intro t9 w9 hT9 hV9 hO9 K9 hK9; obtain ⟨x9_4, p9_4, q9_4⟩ := hV9.g 4 23 rfl rfl (by kernel_rfl); obtain rfl : x9_4 = (.int .i64 (x + y)) := q9_4; obtain ⟨x9_6, p9_6, q9_6⟩ := hV9.g 6 25 rfl rfl (by kernel_rfl); obtain rfl : x9_6 = ?v2_6 := q9_6; clear hV9 hO9; have hI9 := (hT9.2 HI.out).1; have d9_0 := C3.c0 hI9; have d9_1 := C3.c1 hI9; have d9_2 := C3.c2 hI9; go_simp
    (refine hK9 _ _ (KR.refl w9) ?_; exact rfl)
  case s2_8 =>
    intro t9 w9 hT9 hV9 hO9 K9 hK9; have o9_0 := hO9 0 _ (show List.contains _ _ = false from by kernel_rfl) rfl; clear hV9 hO9; have hI9 := (hT9.2 HI.out).1; have d9_0 := C3.c0 hI9; have d9_1 := C3.c1 hI9; have d9_2 := C3.c2 hI9; go_simp
    (refine hK9 _ _ (KR.refl w9) ?_; exact rfl)
  case s2_9 =>
    intro t9 w9 hT9 hV9 hO9 K9 hK9; obtain ⟨x9_8, p9_8, q9_8⟩ := hV9.g 8 27 rfl rfl (by kernel_rfl); obtain rfl : x9_8 = ?v2_8 := q9_8; clear hV9 hO9; have hI9 := (hT9.2 HI.out).1; have d9_0 := C3.c0 hI9; have d9_1 := C3.c1 hI9; have d9_2 := C3.c2 hI9; obtain ⟨⟨at9, hA9⟩, -, -⟩ := hI9; go_simp; refine (next_lit 60 60 rfl p A l c at9 _ hA9 (by decide) (by decide)).mono ?_; rintro _ w8 ⟨r8, at8, rfl, hr8, hT8, hc8⟩; exact hK9 _ _ (CK.next hpg hT8 hc8) ⟨_, rfl, hr8⟩
  case s2_10 =>
    intro t9 w9 hT9 hV9 hO9 K9 hK9; obtain ⟨x9_7, p9_7, q9_7⟩ := hV9.g 7 26 rfl rfl (by kernel_rfl); obtain rfl : x9_7 = (.int .i64 (x + y - (a : Int))) := q9_7; obtain ⟨x9_9, p9_9, q9_9⟩ := hV9.g 9 28 rfl rfl (by kernel_rfl); replace q9_9 : ((fun v _ => ∃ r : Nat, v = .int .i64 (r : Int) ∧ r < 60)) x9_9 w9 := q9_9; clear hV9 hO9; have hI9 := (hT9.2 HI.out).1; have d9_0 := C3.c0 hI9; have d9_1 := C3.c1 hI9; have d9_2 := C3.c2 hI9; obtain ⟨r8, rfl, hr8⟩ := q9_9; have z8 : IntKind.i64.wrap (x + y - (a : Int) + (r8 : Int)) = x + y - (a : Int) + (r8 : Int) := IntWalk.i64_in _ (by omega); go_simp; exact hK9 _ _ (KR.refl w9) ⟨_, rfl, by omega⟩
  case s2_11 =>
    intro t9 w9 hT9 hV9 hO9 K9 hK9; obtain ⟨x9_10, p9_10, q9_10⟩ := hV9.g 10 29 rfl rfl (by kernel_rfl); replace q9_10 : ((fun v _ => ∃ z : Int, v = .int .i64 z ∧ x + y - (a : Int) ≤ z ∧ z < x + y - (a : Int) + 60)) x9_10 w9 := q9_10; clear hV9 hO9; have hI9 := (hT9.2 HI.out).1; have d9_0 := C3.c0 hI9; have d9_1 := C3.c1 hI9; have d9_2 := C3.c2 hI9; obtain ⟨x8, rfl, hx8⟩ := q9_10; go_simp; exact hK9 _ _ (KR.refl w9) ⟨_, rfl, by unfold X3; omega⟩
  case s2_12 =>
    intro t9 w9 hT9 hV9 hO9 K9 hK9; have o9_3 := hO9 3 _ (show List.contains _ _ = false from by kernel_rfl) rfl; clear hV9 hO9; have hI9 := (hT9.2 HI.out).1; have d9_0 := C3.c0 hI9; have d9_1 := C3.c1 hI9; have d9_2 := C3.c2 hI9; go_simp
    (refine hK9 _ _ (KR.refl w9) ?_; exact rfl)
  case s2_13 =>
    intro t9 w9 hT9 hV9 hO9 K9 hK9; obtain ⟨x9_11, p9_11, q9_11⟩ := hV9.g 11 30 rfl rfl (by kernel_rfl); replace q9_11 : ((fun v _ => ∃ z : Int, v = .int .i64 z ∧ X3 a x y z)) x9_11 w9 := q9_11; obtain ⟨x9_12, p9_12, q9_12⟩ := hV9.g 12 31 rfl rfl (by kernel_rfl); obtain rfl : x9_12 = ?v2_12 := q9_12; clear hV9 hO9; have hI9 := (hT9.2 HI.out).1; have d9_0 := C3.c0 hI9; have d9_1 := C3.c1 hI9; have d9_2 := C3.c2 hI9; obtain ⟨x8, rfl, hx8⟩ := q9_11; have hset : ∀ cs, C3 a x y cs → C3 a x y (cs.set 3 (.int .i64 x8)) := by rintro _ ⟨x7, rfl⟩; exact ⟨_, rfl⟩
    have hlen : ∀ cs, C3 a x y cs → 3 < cs.length := by rintro _ ⟨x7, rfl⟩; simp
    have HT8 := Lib.hid (CK.set1 hpg (by decide) x8 hset hlen hx8 : CK p g A l c (C3 a x y) 3 0 (X3 a x y) (fun _ => True) w9 _); have HV8 := Lib.hid (And.intro (hI9.set hpg 3 (.int .i64 x8) hset) (hI9.at 3 x8 (X := X3 a x y) hlen hx8)); clear hset hlen; obtain ⟨-, -, cs9, ⟨x7, rfl⟩, ho9⟩ := hI9; have d1 : w9.cell? ⟨g, 3, none⟩ = some x7 := ho9.cell 3; have f1 := ho9.frozen 3; go_simp; exact hK9 undef _ HT8.out HV8.out
  case k2 =>
    intro i9 v9 w9 x9 h9 g9
    match i9, h9 with
    | 0, h9 => exact h9
    | 1, h9 => exact h9
    | 2, h9 => exact h9
    | 3, h9 => exact h9
    | 4, h9 => exact h9
    | 5, h9 => exact h9
    | 6, h9 => exact h9
    | 7, h9 => exact h9
    | 8, h9 => exact h9
    | 9, h9 => (replace h9 : (fun v _ => ∃ r : Nat, v = .int .i64 (r : Int) ∧ r < 60) v9 w9 := h9); exact h9
    | 10, h9 => (replace h9 : (fun v _ => ∃ z : Int, v = .int .i64 z ∧ x + y - (a : Int) ≤ z ∧ z < x + y - (a : Int) + 60) v9 w9 := h9); exact h9
    | 11, h9 => (replace h9 : (fun v _ => ∃ z : Int, v = .int .i64 z ∧ X3 a x y z) v9 w9 := h9); exact h9
    | 12, h9 => exact h9
    | 13, h9 => (replace h9 : (fun _ w => CI p g A l c (C3 a x y) w ∧ CG g 3 (X3 a x y) w) v9 w9 := h9); exact ⟨(g9.2 h9.1).1, (g9.2 h9.1).2.1 h9.2⟩
    | _ + 14, h9 => exact trivial
  intro u9 w9 hE9 hu9; have r9_0 : u9 0 = ?v2_0 := hu9 0 (by decide); have r9_1 : u9 1 = ?v2_1 := hu9 1 (by decide); have r9_2 : u9 2 = ?v2_2 := hu9 2 (by decide); have r9_3 : u9 3 = ?v2_3 := hu9 3 (by decide); have r9_4 : u9 4 = (.int .i64 (x + y)) := hu9 4 (by decide); have r9_5 : u9 5 = ?v2_5 := hu9 5 (by decide); have r9_6 : u9 6 = ?v2_6 := hu9 6 (by decide); have r9_7 : u9 7 = (.int .i64 (x + y - (a : Int))) := hu9 7 (by decide); have r9_8 : u9 8 = ?v2_8 := hu9 8 (by decide); have r9_9 : (fun v _ => ∃ r : Nat, v = .int .i64 (r : Int) ∧ r < 60) (u9 9) w9 := hu9 9 (by decide); have r9_10 : (fun v _ => ∃ z : Int, v = .int .i64 z ∧ x + y - (a : Int) ≤ z ∧ z < x + y - (a : Int) + 60) (u9 10) w9 := hu9 10 (by decide); have r9_11 : (fun v _ => ∃ z : Int, v = .int .i64 z ∧ X3 a x y z) (u9 11) w9 := hu9 11 (by decide); have r9_12 : u9 12 = ?v2_12 := hu9 12 (by decide); have r9_13 : (fun _ w => CI p g A l c (C3 a x y) w ∧ CG g 3 (X3 a x y) w) (u9 13) w9 := hu9 13 (by decide)
  clear hu9
  simp only [putAll, Act.put, List.setIfInBounds_toArray, List.set_cons_succ, List.set_cons_zero, List.getD_cons_succ, List.getD_cons_zero, Nat.reduceAdd, Nat.zero_add]
  simp only [r9_0, r9_1, r9_2, r9_3, r9_4, r9_5, r9_6, r9_7, r9_8, r9_12]
  clear r9_0 r9_1 r9_2 r9_3 r9_4 r9_5 r9_6 r9_7 r9_8 r9_12; obtain ⟨hI9, z, hz, cz⟩ := r9_13; clear r9_9 r9_10 r9_11; obtain ⟨-, -, cs, ⟨x7, rfl⟩, o_c⟩ := hI9; have e1 : x7 = .int .i64 z := Option.some.inj ((o_c.cell 3).symm.trans cz); subst e1; replace o_r := hE9.1.own o_r (fun h => h.elim (fun e => hpr e.symm) hrg); replace hcg := hcg.trans hE9.1; unfold X3 at hz; clear hE9 cz HI z1 z2; obtain ⟨b, rfl⟩ : ∃ b : Nat, x = (b : Int) := ⟨x.toNat, by omega⟩; obtain ⟨d, rfl⟩ : ∃ d : Nat, y = (d : Int) := ⟨y.toNat, by omega⟩; obtain ⟨n, rfl⟩ : ∃ n : Nat, z = (n : Int) := ⟨z.toNat, by omega⟩; have HM : Hid (MadeC a b d n) := ⟨⟨by omega, by omega, by omega, by omega, by omega, by omega, by omega⟩, by omega⟩; clear hx hy hz ha; obtain ⟨qc_0, qc_1, qc_2, qc_3⟩ := o_c.cells4; have qr_0 : w9.cell? ⟨gr, 0, none⟩ = some (.int .i64 0) := o_r.cell 0; have fr_0 := o_r.frozen 0; have qr_1 : w9.cell? ⟨gr, 1, none⟩ = some (.int .i64 0) := o_r.cell 1
  have fr_1 := o_r.frozen 1; have qr_2 : w9.cell? ⟨gr, 2, none⟩ = some (.int .i64 0) := o_r.cell 2; have fr_2 := o_r.frozen 2; have qr_3 : w9.cell? ⟨gr, 3, none⟩ = some (.int .i64 0) := o_r.cell 3; have fr_3 := o_r.frozen 3; have oz := ((((o_r.set_ 0 (.int .i64 (a : Int))).set_ 1 (.int .i64 (b : Int))).set_ 2 (.int .i64 (d : Int))).set_ 3 (.int .i64 (n : Int))); have hcz := ((((hcg.mono (T := fun k => k = p ∨ k = g ∨ k = gr) fun k _ h => h.elim .inl fun e => .inr (.inl e)).setCell (p := ⟨gr, 0, none⟩) (.inr (.inr rfl)) (.int .i64 (a : Int))).setCell (p := ⟨gr, 1, none⟩) (.inr (.inr rfl)) (.int .i64 (b : Int))).setCell (p := ⟨gr, 2, none⟩) (.inr (.inr rfl)) (.int .i64 (d : Int))).setCell (p := ⟨gr, 3, none⟩) (.inr (.inr rfl)) (.int .i64 (n : Int))
  go_upto_region 4 with (fail)
  go_wp2_with fail
  generalize ((((w9.setCell ⟨gr, 0, none⟩ (.int .i64 (a : Int))).setCell ⟨gr, 1, none⟩ (.int .i64 (b : Int))).setCell ⟨gr, 2, none⟩ (.int .i64 (d : Int))).setCell ⟨gr, 3, none⟩ (.int .i64 (n : Int))) = wz at oz hcz ⊢; obtain ⟨z0, z1, z2, z3⟩ := oz.cells4; exact bodyPost_ret (v := CV a b d n) (by simp [results, Tryz.results11, go_sem, z0, z1, z2, z3]) rfl ⟨a, b, d, n, HM.out, rfl, hcz.mono fun k hk h => by have := HG.out; rcases h with h | h | h <;> omega⟩
end Go.Proofs.YtopfcfbiaadfeaaGreatDoor
