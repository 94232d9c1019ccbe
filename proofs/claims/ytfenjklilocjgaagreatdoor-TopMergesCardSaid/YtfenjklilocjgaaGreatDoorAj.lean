/- Parts of the proof: Aj. No condition of its own. -/
import Derived.Test.YtfenjklilocjgaaGreatDoorAt
set_option linter.unusedSimpArgs false
set_option linter.unusedVariables false
set_option linter.unusedSectionVars false
namespace Go.Proofs.YtfenjklilocjgaaGreatDoor
set_option linter.unusedSimpArgs false
set_option linter.unusedVariables false
set_option linter.unusedSectionVars false
open Go.RowKit Dg

theorem RS.box {B g : Nat} {kb : Option Nat} {A T X R O : Value} {nt nx nr no : Nat} {ts xs rs os : List Value} {b : Bool} {w : World} (h : RS kb B g A T X R O nt nx nr no ts xs rs os b w) {k : Nat} (ho : Own w k 97 [.int .i64 0, .int .i64 0]) : RS (some k) B g A T X R O nt nx nr no ts xs rs os b w :=
  { h with bx := fun k9 e9 => by injection e9 with e9; subst e9; exact ho }
theorem RS.bare {B g : Nat} {kb : Option Nat} {A T X R O : Value} {nt nx nr no : Nat} {ts xs rs os : List Value} {b : Bool} {w : World} (h : RS kb B g A T X R O nt nx nr no ts xs rs os b w) : RS none B g A T X R O nt nx nr no ts xs rs os b w :=
  { h with bx := fun k9 e9 => by cases e9 }
/-- The caller's box is stored: it holds what it held. -/
theorem RS.setK {B g : Nat} {A T X R O : Value} {nt nx nr no : Nat} {ts xs rs os : List Value} {b : Bool} {w : World} {k : Nat} (h : RS (some k) B g A T X R O nt nx nr no ts xs rs os b w) (i : Nat) (hi : ([.int .i64 0, .int .i64 0] : List Value).set i (.int .i64 0) = [.int .i64 0, .int .i64 0]) : RS (some k) B g A T X R O nt nx nr no ts xs rs os b (w.setCell ⟨k, i, none⟩ (.int .i64 0)) := by
  have ho := h.bx k rfl
  have h1 := (h.bare).setV ho (own_ne9 ho h.own (by decide)) (fun j e => by cases e) (by decide) (by decide) (by decide) (by decide) (by decide) i (.int .i64 0)
  have h2 := ho.set_ i (.int .i64 0)
  rw [hi] at h2
  exact h1.box h2
/-- The reader, with what it has read. -/
def ST (kb : Option Nat) (B g nt nx nr no : Nat) (xs rs os : List Value) (b : Bool) (w : World) : Prop := ∃ A T X R O ts, RS kb B g A T X R O nt nx nr no ts xs rs os b w
theorem ST.setK {B g nt nx nr no k : Nat} {xs rs os : List Value} {b : Bool} {w : World} (h : ST (some k) B g nt nx nr no xs rs os b w) (i : Nat) (hi : ([.int .i64 0, .int .i64 0] : List Value).set i (.int .i64 0) = [.int .i64 0, .int .i64 0]) : ST (some k) B g nt nx nr no xs rs os b (w.setCell ⟨k, i, none⟩ (.int .i64 0)) := by
  obtain ⟨A, T, X, R, O, ts, h1⟩ := h
  exact ⟨_, _, _, _, _, _, h1.setK i hi⟩
theorem ST.bare {kb : Option Nat} {B g nt nx nr no : Nat} {xs rs os : List Value} {b : Bool} {w : World} (h : ST kb B g nt nx nr no xs rs os b w) : ST none B g nt nx nr no xs rs os b w := by
  obtain ⟨A, T, X, R, O, ts, h1⟩ := h
  exact ⟨_, _, _, _, _, _, h1.bare⟩
/-- The call of a line's step: what has been done. -/
structure LN (Q0 Q1 : World → Prop) (gt ga : Nat) (ct ca : List Value) (l2 l4 l5 l6 : Bool) (w : World) : Prop where
  h52 : l5 = true → l2 = true
  h54 : l5 = true → l4 = true
  h65 : l6 = true → l5 = true
  pre : l5 = false → Q0 w ∧ Own w gt 126 ct ∧ Own w ga 131 ca
  post : l5 = true → Q1 w
section
variable {Q0 Q1 : World → Prop} {gt ga : Nat} {ct ca : List Value} {l2 l4 l5 l6 : Bool} {w : World}
theorem LN.n2 (h : LN Q0 Q1 gt ga ct ca l2 l4 l5 l6 w) (e : l2 = false) : l5 = false := by have := h.h52; cases l5 <;> simp_all
theorem LN.n4 (h : LN Q0 Q1 gt ga ct ca l2 l4 l5 l6 w) (e : l4 = false) : l5 = false := by have := h.h54; cases l5 <;> simp_all
theorem LN.s2 (h : LN Q0 Q1 gt ga ct ca l2 l4 l5 l6 w) : LN Q0 Q1 gt ga ct ca true l4 l5 l6 w := { h with h52 := fun _ => rfl }
theorem LN.s4 (h : LN Q0 Q1 gt ga ct ca l2 l4 l5 l6 w) : LN Q0 Q1 gt ga ct ca l2 true l5 l6 w := { h with h54 := fun _ => rfl }
theorem LN.s5 (h : LN Q0 Q1 gt ga ct ca l2 l4 l5 l6 w) (e2 : l2 = true) (e4 : l4 = true) {w' : World} (hq : Q1 w') : LN Q0 Q1 gt ga ct ca l2 l4 true l6 w' := ⟨fun _ => e2, fun _ => e4, fun _ => rfl, fun x => (by cases x), fun _ => hq⟩
theorem LN.s6 (h : LN Q0 Q1 gt ga ct ca l2 l4 l5 l6 w) (e5 : l5 = true) : LN Q0 Q1 gt ga ct ca l2 l4 l5 true w := { h with h65 := fun _ => e5 }
theorem LN.s7 (h : LN Q0 Q1 gt ga ct ca l2 l4 l5 l6 w) (e6 : l6 = true) {w' : World} (hq : Q1 w') : LN Q0 Q1 gt ga ct ca l2 l4 l5 l6 w' := ⟨h.h52, h.h54, h.h65, fun x => (by have := h.h65 e6; simp_all), fun _ => hq⟩
end
set_option maxRecDepth 100000 in
set_option maxHeartbeats 1000000 in
theorem line_00 (s nm : ByteArray) (hnm : (nm.toList == [116, 101, 120, 116]) = false) {KP : World → Value → Prop} (hpre : Lib.hasPrefix s.data.toList [60] = true) (hkb : ∀ w w' ks, KP w ks → Below w.heap.size w w' → KP w' ks) (hp : ∀ w, Calls Tryz.prog 74 #[.string s] w fun e w' => ∃ da na ca, e = .returned (.tuple #[.agg #[.bool false, .string nm, .slice da na ca], .int .i64 0, .int .i64 0]) ∧ KP w' (.slice da na ca) ∧ Below w.heap.size w w')
    {B g nt nx nr no nt' nx' nr' no' : Nat} {xs rs os xs' rs' os' : List Value} {b b' : Bool} (hc : ∀ k ks w, ST (some k) B g nt nx nr no xs rs os b w → KP w ks → Calls Tryz.prog 75 #[.pointer (some ⟨g, 0, none⟩), .agg #[.bool false, .string nm, ks]] w fun e w' => e = .returned (.int .i64 0) ∧ ST (some k) B g nt' nx' nr' no' xs' rs' os' b' w' ∧ Below B w w')
    (w : World) (h : ST none B g nt nx nr no xs rs os b w) : Calls Tryz.prog 40 #[.pointer (some ⟨g, 0, none⟩), .string s] w fun e w' => e = .returned (.agg #[.int .i64 0, .int .i64 0]) ∧ ST none B g nt' nx' nr' no' xs' rs' os' b' w' ∧ Below B w w' := by
  obtain ⟨A, T, X, R, O, ts, h⟩ := h
  have HP := Lib.hid hp
  have HC := Lib.hid hc
  have HKB := Lib.hid hkb
  clear hp hc hkb
  have hB0 := h.size
  obtain ⟨o_r, hbw⟩ := new1 w [.int .i64 0, .int .i64 0] 97
  replace h := (h.below hbw).box o_r
  clear o_r
  have hlt := h.own.lt
  go_enter Tryz.func40, Tryz.ntmps40
  go_upto_region 1 with (fail)
  generalize hwb : (w.alloc (.cells #[.int .i64 0, .int .i64 0] 97)) = wb at hbw h hlt ⊢
  clear hwb
  go_wp2_with fail
  refine (Tryz.strings_HasPrefix _ _ _).mono ?_
  rintro e w1 ⟨rfl, rfl⟩
  rw [hpre]
  go_wp2_with fail
  refine (HP.out _).mono ?_
  rintro e w1 ⟨da, na, ca, rfl, hks, hb1⟩
  have hbB : Below B w w1 := (hbw.mono hB0).trans (hb1.mono h.size)
  replace h := h.below hb1
  clear hb1 hbw hlt
  have hsf : ∀ (a : Addr) (m : Mode) (f : Fn) (x y : Array Value) (W : World), (store a (.func f x y) m).run Tryz.prog W = stored Tryz.prog W a (.func f x y) m := fun _ _ _ _ _ _ => run_store _ _ _ _ _ rfl
  go_upto_region 7 with (fail)
  clear hsf
  obtain ⟨o_t, o_a, hbt⟩ := new2 w1 [.bool false, .string nm, .slice da na ca] [.func (.func 75) #[] #[], .func (.func 76) #[] #[], .func (.func 77) #[] #[], .func (.func 78) #[] #[]] 126 131
  replace hks := HKB.out _ _ _ hks hbt
  replace hbB := hbB.trans (hbt.mono h.size)
  replace h := h.below hbt
  clear hbt
  have hgt : w1.heap.size ≠ w1.heap.size + 1 := by omega
  generalize ((w1.alloc (.cells #[.bool false, .string nm, .slice da na ca] 126)).alloc (.cells #[.func (.func 75) #[] #[], .func (.func 76) #[] #[], .func (.func 77) #[] #[], .func (.func 78) #[] #[]] 131)) = wc at o_t o_a hks hbB h ⊢
  generalize w1.heap.size = gt at o_t o_a ⊢
  have qt0 : wc.cell? ⟨gt, 0, none⟩ = some (.bool false) := o_t.cell 0
  have qt1 : wc.cell? ⟨gt, 1, none⟩ = some (.string nm) := o_t.cell 1
  have hw1 : IntKind.i64.wrap (0 + 1) = 1 := by decide
  have hw2 : IntKind.i64.wrap (0 + 2) = 2 := by decide
  have hw3 : IntKind.i64.wrap (1 + 2) = 3 := by decide
  go_upto_region 12 with (fail)
  clear qt0 qt1 hw1 hw2 hw3
  have HX : Hid (RS (some w.heap.size) B g A T X R O nt nx nr no ts xs rs os b wc ∧ KP wc (.slice da na ca) ∧ Below B w wc ∧ Own wc gt 126 [.bool false, .string nm, .slice da na ca] ∧ Own wc (gt + 1) 131 [.func (.func 75) #[] #[], .func (.func 76) #[] #[], .func (.func 77) #[] #[], .func (.func 78) #[] #[]]) := ⟨h, hks, hbB, o_t, o_a⟩
  clear h hks hbB o_t o_a
  refine wp_reg_m (fun _ _ => True) (fun L u w8 => (LN (fun W => RS (some w.heap.size) B g A T X R O nt nx nr no ts xs rs os b W ∧ KP W (.slice da na ca) ∧ Below B w W) (fun W => ST (some w.heap.size) B g nt' nx' nr' no' xs' rs' os' b' W ∧ Below B w W) gt (gt + 1) [.bool false, .string nm, .slice da na ca] [.func (.func 75) #[] #[], .func (.func 76) #[] #[], .func (.func 77) #[] #[], .func (.func 78) #[] #[]]) (L 2) (L 4) (L 5) (L 6) w8) ((fun _ => trivial)) ((fun _ _ _ _ _ => trivial)) [some 37, some 38, some 39, some 40, some 41, some 42, some 43, none] [isV ?v1_0, isV (.pointer (some ⟨gt + 1, 0, none⟩)), isV (.func (.func 75) #[] #[]), isV ?v1_3, isV (.agg #[.bool false, .string nm, .slice da na ca]), isV (.int .i64 0), isV (.agg #[.int .i64 0, .int .i64 0]), anyV] rfl (by kernel_rfl) rfl rfl ?n1 ?k1 ⟨?s1_0, ?s1_1, ?s1_2, ?s1_3, ?s1_4, ?s1_5, ?s1_6, ?s1_7, trivial⟩ ?p1
  case s1_0 =>
    intro L9 u9 t9 w9 hT9 hL9 hD9 hV9 hO9 hM9 K9 hK9
    have o9_9 := hO9 9 _ (show List.contains _ _ = false from by kernel_rfl) rfl
    clear hV9 hO9
    clear hL9 hD9
    go_simp
    (refine hK9 _ _ ((fun _ => trivial) w9) ?_ hM9; exact rfl)
  case s1_1 =>
    intro L9 u9 t9 w9 hT9 hL9 hD9 hV9 hO9 hM9 K9 hK9
    obtain ⟨x9_0, p9_0, q9_0⟩ := hV9 0 37 rfl rfl (of_decide_eq_true (by kernel_rfl))
    obtain ⟨q9_0, e9_0⟩ := q9_0
    obtain rfl : x9_0 = ?v1_0 := q9_0
    clear e9_0
    have o9_8 := hO9 8 _ (show List.contains _ _ = false from by kernel_rfl) rfl
    clear hV9 hO9
    go_simp
    exact hK9 _ _ trivial rfl hM9
  case s1_2 =>
    intro L9 u9 t9 w9 hT9 hL9 hD9 hV9 hO9 hM9 K9 hK9
    obtain ⟨x9_1, p9_1, q9_1⟩ := hV9 1 38 rfl rfl (of_decide_eq_true (by kernel_rfl))
    obtain ⟨q9_1, e9_1⟩ := q9_1
    obtain rfl : x9_1 = (.pointer (some ⟨gt + 1, 0, none⟩)) := q9_1
    clear e9_1
    clear hV9 hO9
    obtain ⟨-, -, oa9⟩ := hM9.pre (hM9.n2 hL9)
    have d9 : w9.cell? ⟨gt + 1, 0, none⟩ = some (.func (.func 75) #[] #[]) := oa9.cell 0
    go_simp
    exact hK9 _ _ trivial rfl hM9.s2
  case s1_3 =>
    intro L9 u9 t9 w9 hT9 hL9 hD9 hV9 hO9 hM9 K9 hK9
    have o9_0 := hO9 0 _ (show List.contains _ _ = false from by kernel_rfl) rfl
    clear hV9 hO9
    clear hL9 hD9
    go_simp
    (refine hK9 _ _ ((fun _ => trivial) w9) ?_ hM9; exact rfl)
  case s1_4 =>
    intro L9 u9 t9 w9 hT9 hL9 hD9 hV9 hO9 hM9 K9 hK9
    have o9_5 := hO9 5 _ (show List.contains _ _ = false from by kernel_rfl) rfl
    clear hV9 hO9
    obtain ⟨-, ot9, -⟩ := hM9.pre (hM9.n4 hL9)
    have d0 : w9.cell? ⟨gt, 0, none⟩ = some (.bool false) := ot9.cell 0
    have d1 : w9.cell? ⟨gt, 1, none⟩ = some (.string nm) := ot9.cell 1
    have d2 : w9.cell? ⟨gt, 2, none⟩ = some (.slice da na ca) := ot9.cell 2
    go_simp
    exact hK9 _ _ trivial rfl hM9.s4
  case s1_5 =>
    intro L9 u9 t9 w9 hT9 hL9 hD9 hV9 hO9 hM9 K9 hK9
    obtain ⟨x9_2, p9_2, q9_2⟩ := hV9 2 39 rfl rfl (of_decide_eq_true (by kernel_rfl))
    obtain ⟨q9_2, e9_2⟩ := q9_2
    obtain rfl : x9_2 = (.func (.func 75) #[] #[]) := q9_2
    clear e9_2
    obtain ⟨x9_3, p9_3, q9_3⟩ := hV9 3 40 rfl rfl (of_decide_eq_true (by kernel_rfl))
    obtain ⟨q9_3, e9_3⟩ := q9_3
    obtain rfl : x9_3 = ?v1_3 := q9_3
    clear e9_3
    obtain ⟨x9_4, p9_4, q9_4⟩ := hV9 4 41 rfl rfl (of_decide_eq_true (by kernel_rfl))
    obtain ⟨q9_4, e9_4⟩ := q9_4
    obtain rfl : x9_4 = (.agg #[.bool false, .string nm, .slice da na ca]) := q9_4
    clear e9_4
    clear hV9 hO9
    obtain ⟨⟨q0, q1, q2⟩, -, -⟩ := hM9.pre hL9
    go_simp
    refine (HC.out _ _ _ ⟨_, _, _, _, _, _, q0⟩ q1).mono ?_
    rintro _ w8 ⟨rfl, hs8, hb8⟩
    exact hK9 _ _ trivial rfl (hM9.s5 (hD9 2 rfl) (hD9 4 rfl) ⟨hs8, q2.trans hb8⟩)
  case s1_6 =>
    intro L9 u9 t9 w9 hT9 hL9 hD9 hV9 hO9 hM9 K9 hK9
    obtain ⟨x9_5, p9_5, q9_5⟩ := hV9 5 42 rfl rfl (of_decide_eq_true (by kernel_rfl))
    obtain ⟨q9_5, e9_5⟩ := q9_5
    obtain rfl : x9_5 = (.int .i64 0) := q9_5
    clear e9_5
    clear hV9 hO9
    go_simp
    exact hK9 _ _ trivial rfl (hM9.s6 (hD9 5 rfl))
  case s1_7 =>
    intro L9 u9 t9 w9 hT9 hL9 hD9 hV9 hO9 hM9 K9 hK9
    obtain ⟨x9_6, p9_6, q9_6⟩ := hV9 6 43 rfl rfl (of_decide_eq_true (by kernel_rfl))
    obtain ⟨q9_6, e9_6⟩ := q9_6
    obtain rfl : x9_6 = (.agg #[.int .i64 0, .int .i64 0]) := q9_6
    clear e9_6
    have o9_4 := hO9 4 _ (show List.contains _ _ = false from by kernel_rfl) rfl
    clear hV9 hO9
    have h5 := hM9.h65 (hD9 6 rfl)
    obtain ⟨p1, p2⟩ := hM9.post h5
    obtain ⟨A8, T8, X8, R8, O8, ts8, p3⟩ := id p1
    have ok := p3.bx _ rfl
    have d0 : w9.cell? ⟨w.heap.size, 0, none⟩ = some (.int .i64 0) := ok.cell 0
    have d1 : w9.cell? ⟨w.heap.size, 1, none⟩ = some (.int .i64 0) := ok.cell 1
    have f0 := ok.frozen 0
    have f1 := ok.frozen 1
    have HM : Hid ((LN (fun W => RS (some w.heap.size) B g A T X R O nt nx nr no ts xs rs os b W ∧ KP W (.slice da na ca) ∧ Below B w W) (fun W => ST (some w.heap.size) B g nt' nx' nr' no' xs' rs' os' b' W ∧ Below B w W) gt (gt + 1) [.bool false, .string nm, .slice da na ca] [.func (.func 75) #[] #[], .func (.func 76) #[] #[], .func (.func 77) #[] #[], .func (.func 78) #[] #[]]) (L9 2) (L9 4) (L9 5) (L9 6) ((w9.setCell ⟨w.heap.size, 0, none⟩ (.int .i64 0)).setCell ⟨w.heap.size, 1, none⟩ (.int .i64 0))) := hM9.s7 (hD9 6 rfl) ⟨(p1.setK 0 rfl).setK 1 rfl, (p2.setCell (p := ⟨w.heap.size, 0, none⟩) hB0 _).setCell (p := ⟨w.heap.size, 1, none⟩) hB0 _⟩
    clear hM9 p1 p2 p3 ok
    go_simp
    exact hK9 undef _ trivial trivial HM.out
  case n1 =>
    intro L9 u9 h9
    have h0 := h9 2 (by decide)
    have h1 := h9 4 (by decide)
    have h2 := h9 5 (by decide)
    have h3 := h9 6 (by decide)
    show (LN (fun W => RS (some w.heap.size) B g A T X R O nt nx nr no ts xs rs os b W ∧ KP W (.slice da na ca) ∧ Below B w W) (fun W => ST (some w.heap.size) B g nt' nx' nr' no' xs' rs' os' b' W ∧ Below B w W) gt (gt + 1) [.bool false, .string nm, .slice da na ca] [.func (.func 75) #[] #[], .func (.func 76) #[] #[], .func (.func 77) #[] #[], .func (.func 78) #[] #[]]) (L9 2) (L9 4) (L9 5) (L9 6) _
    rw [h0, h1, h2, h3]
    obtain ⟨x1, x2, x3, x4, x5⟩ := HX.out
    have bd := (Below.refl wc.heap.size wc).drew
    exact ⟨fun x => x, fun x => x, fun x => x, fun _ => ⟨⟨x1.below bd, HKB.out _ _ _ x2 bd, x3.drew⟩, x4.below bd x4.lt, x5.below bd x5.lt⟩, fun x => by cases x⟩
  case k1 =>
    intro i9 v9 w9 x9 h9 g9
    match i9, h9 with
    | 0, h9 => exact h9
    | 1, h9 => exact h9
    | 2, h9 => exact h9
    | 3, h9 => exact h9
    | 4, h9 => exact h9
    | 5, h9 => exact h9
    | 6, h9 => exact h9
    | 7, h9 => exact h9
    | _ + 8, h9 => exact trivial
  intro u9 w9 hE9 hM9 hu9
  have r9_0 : u9 0 = ?v1_0 := hu9 0 (by decide)
  have r9_1 : u9 1 = (.pointer (some ⟨gt + 1, 0, none⟩)) := hu9 1 (by decide)
  have r9_2 : u9 2 = (.func (.func 75) #[] #[]) := hu9 2 (by decide)
  have r9_3 : u9 3 = ?v1_3 := hu9 3 (by decide)
  have r9_4 : u9 4 = (.agg #[.bool false, .string nm, .slice da na ca]) := hu9 4 (by decide)
  have r9_5 : u9 5 = (.int .i64 0) := hu9 5 (by decide)
  have r9_6 : u9 6 = (.agg #[.int .i64 0, .int .i64 0]) := hu9 6 (by decide)
  clear hu9
  simp only [putAll, Act.put, List.setIfInBounds_toArray, List.set_cons_succ, List.set_cons_zero, List.getD_cons_succ, List.getD_cons_zero, Nat.reduceAdd, Nat.zero_add]
  simp only [r9_0, r9_1, r9_2, r9_3, r9_4, r9_5, r9_6]
  clear r9_0 r9_1 r9_2 r9_3 r9_4 r9_5 r9_6
  obtain ⟨p1, p2⟩ := hM9.post rfl
  obtain ⟨A8, T8, X8, R8, O8, ts8, p3⟩ := id p1
  have ok := p3.bx _ rfl
  have d0 : w9.cell? ⟨w.heap.size, 0, none⟩ = some (.int .i64 0) := ok.cell 0
  have d1 : w9.cell? ⟨w.heap.size, 1, none⟩ = some (.int .i64 0) := ok.cell 1
  clear hM9 hE9 p3 ok
  go_wp2
  exact bodyPost_ret (v := .agg #[.int .i64 0, .int .i64 0]) (by simp [results, Tryz.results40, go_sem, d0, d1]) rfl ⟨rfl, p1.bare, p2⟩
set_option maxRecDepth 100000 in
set_option maxHeartbeats 1000000 in
theorem line_10 (s nm : ByteArray) (hnm : (nm.toList == [116, 101, 120, 116]) = false) {KP : World → Value → Prop} (hpre : Lib.hasPrefix s.data.toList [60] = true) (hkb : ∀ w w' ks, KP w ks → Below w.heap.size w w' → KP w' ks) (hp : ∀ w, Calls Tryz.prog 74 #[.string s] w fun e w' => ∃ da na ca, e = .returned (.tuple #[.agg #[.bool true, .string nm, .slice da na ca], .int .i64 0, .int .i64 0]) ∧ KP w' (.slice da na ca) ∧ Below w.heap.size w w')
    {B g nt nx nr no nt' nx' nr' no' : Nat} {xs rs os xs' rs' os' : List Value} {b b' : Bool} (hc : ∀ k ks w, ST (some k) B g nt nx nr no xs rs os b w → KP w ks → Calls Tryz.prog 76 #[.pointer (some ⟨g, 0, none⟩), .agg #[.bool true, .string nm, ks]] w fun e w' => e = .returned (.int .i64 0) ∧ ST (some k) B g nt' nx' nr' no' xs' rs' os' b' w' ∧ Below B w w')
    (w : World) (h : ST none B g nt nx nr no xs rs os b w) : Calls Tryz.prog 40 #[.pointer (some ⟨g, 0, none⟩), .string s] w fun e w' => e = .returned (.agg #[.int .i64 0, .int .i64 0]) ∧ ST none B g nt' nx' nr' no' xs' rs' os' b' w' ∧ Below B w w' := by
  obtain ⟨A, T, X, R, O, ts, h⟩ := h
  have HP := Lib.hid hp
  have HC := Lib.hid hc
  have HKB := Lib.hid hkb
  clear hp hc hkb
  have hB0 := h.size
  obtain ⟨o_r, hbw⟩ := new1 w [.int .i64 0, .int .i64 0] 97
  replace h := (h.below hbw).box o_r
  clear o_r
  have hlt := h.own.lt
  go_enter Tryz.func40, Tryz.ntmps40
  go_upto_region 1 with (fail)
  generalize hwb : (w.alloc (.cells #[.int .i64 0, .int .i64 0] 97)) = wb at hbw h hlt ⊢
  clear hwb
  go_wp2_with fail
  refine (Tryz.strings_HasPrefix _ _ _).mono ?_
  rintro e w1 ⟨rfl, rfl⟩
  rw [hpre]
  go_wp2_with fail
  refine (HP.out _).mono ?_
  rintro e w1 ⟨da, na, ca, rfl, hks, hb1⟩
  have hbB : Below B w w1 := (hbw.mono hB0).trans (hb1.mono h.size)
  replace h := h.below hb1
  clear hb1 hbw hlt
  have hsf : ∀ (a : Addr) (m : Mode) (f : Fn) (x y : Array Value) (W : World), (store a (.func f x y) m).run Tryz.prog W = stored Tryz.prog W a (.func f x y) m := fun _ _ _ _ _ _ => run_store _ _ _ _ _ rfl
  go_upto_region 7 with (fail)
  clear hsf
  obtain ⟨o_t, o_a, hbt⟩ := new2 w1 [.bool true, .string nm, .slice da na ca] [.func (.func 75) #[] #[], .func (.func 76) #[] #[], .func (.func 77) #[] #[], .func (.func 78) #[] #[]] 126 131
  replace hks := HKB.out _ _ _ hks hbt
  replace hbB := hbB.trans (hbt.mono h.size)
  replace h := h.below hbt
  clear hbt
  have hgt : w1.heap.size ≠ w1.heap.size + 1 := by omega
  generalize ((w1.alloc (.cells #[.bool true, .string nm, .slice da na ca] 126)).alloc (.cells #[.func (.func 75) #[] #[], .func (.func 76) #[] #[], .func (.func 77) #[] #[], .func (.func 78) #[] #[]] 131)) = wc at o_t o_a hks hbB h ⊢
  generalize w1.heap.size = gt at o_t o_a ⊢
  have qt0 : wc.cell? ⟨gt, 0, none⟩ = some (.bool true) := o_t.cell 0
  have qt1 : wc.cell? ⟨gt, 1, none⟩ = some (.string nm) := o_t.cell 1
  have hw1 : IntKind.i64.wrap (0 + 1) = 1 := by decide
  have hw2 : IntKind.i64.wrap (0 + 2) = 2 := by decide
  have hw3 : IntKind.i64.wrap (1 + 2) = 3 := by decide
  go_upto_region 12 with (fail)
  clear qt0 qt1 hw1 hw2 hw3
  have HX : Hid (RS (some w.heap.size) B g A T X R O nt nx nr no ts xs rs os b wc ∧ KP wc (.slice da na ca) ∧ Below B w wc ∧ Own wc gt 126 [.bool true, .string nm, .slice da na ca] ∧ Own wc (gt + 1) 131 [.func (.func 75) #[] #[], .func (.func 76) #[] #[], .func (.func 77) #[] #[], .func (.func 78) #[] #[]]) := ⟨h, hks, hbB, o_t, o_a⟩
  clear h hks hbB o_t o_a
  refine wp_reg_m (fun _ _ => True) (fun L u w8 => (LN (fun W => RS (some w.heap.size) B g A T X R O nt nx nr no ts xs rs os b W ∧ KP W (.slice da na ca) ∧ Below B w W) (fun W => ST (some w.heap.size) B g nt' nx' nr' no' xs' rs' os' b' W ∧ Below B w W) gt (gt + 1) [.bool true, .string nm, .slice da na ca] [.func (.func 75) #[] #[], .func (.func 76) #[] #[], .func (.func 77) #[] #[], .func (.func 78) #[] #[]]) (L 2) (L 4) (L 5) (L 6) w8) ((fun _ => trivial)) ((fun _ _ _ _ _ => trivial)) [some 37, some 38, some 39, some 40, some 41, some 42, some 43, none] [isV ?v2_0, isV (.pointer (some ⟨gt + 1, 1, none⟩)), isV (.func (.func 76) #[] #[]), isV ?v2_3, isV (.agg #[.bool true, .string nm, .slice da na ca]), isV (.int .i64 0), isV (.agg #[.int .i64 0, .int .i64 0]), anyV] rfl (by kernel_rfl) rfl rfl ?n2 ?k2 ⟨?s2_0, ?s2_1, ?s2_2, ?s2_3, ?s2_4, ?s2_5, ?s2_6, ?s2_7, trivial⟩ ?p2
  case s2_0 =>
    intro L9 u9 t9 w9 hT9 hL9 hD9 hV9 hO9 hM9 K9 hK9
    have o9_9 := hO9 9 _ (show List.contains _ _ = false from by kernel_rfl) rfl
    clear hV9 hO9
    clear hL9 hD9
    go_simp
    (refine hK9 _ _ ((fun _ => trivial) w9) ?_ hM9; exact rfl)
  case s2_1 =>
    intro L9 u9 t9 w9 hT9 hL9 hD9 hV9 hO9 hM9 K9 hK9
    obtain ⟨x9_0, p9_0, q9_0⟩ := hV9 0 37 rfl rfl (of_decide_eq_true (by kernel_rfl))
    obtain ⟨q9_0, e9_0⟩ := q9_0
    obtain rfl : x9_0 = ?v2_0 := q9_0
    clear e9_0
    have o9_8 := hO9 8 _ (show List.contains _ _ = false from by kernel_rfl) rfl
    clear hV9 hO9
    go_simp
    exact hK9 _ _ trivial rfl hM9
  case s2_2 =>
    intro L9 u9 t9 w9 hT9 hL9 hD9 hV9 hO9 hM9 K9 hK9
    obtain ⟨x9_1, p9_1, q9_1⟩ := hV9 1 38 rfl rfl (of_decide_eq_true (by kernel_rfl))
    obtain ⟨q9_1, e9_1⟩ := q9_1
    obtain rfl : x9_1 = (.pointer (some ⟨gt + 1, 1, none⟩)) := q9_1
    clear e9_1
    clear hV9 hO9
    obtain ⟨-, -, oa9⟩ := hM9.pre (hM9.n2 hL9)
    have d9 : w9.cell? ⟨gt + 1, 1, none⟩ = some (.func (.func 76) #[] #[]) := oa9.cell 1
    go_simp
    exact hK9 _ _ trivial rfl hM9.s2
  case s2_3 =>
    intro L9 u9 t9 w9 hT9 hL9 hD9 hV9 hO9 hM9 K9 hK9
    have o9_0 := hO9 0 _ (show List.contains _ _ = false from by kernel_rfl) rfl
    clear hV9 hO9
    clear hL9 hD9
    go_simp
    (refine hK9 _ _ ((fun _ => trivial) w9) ?_ hM9; exact rfl)
  case s2_4 =>
    intro L9 u9 t9 w9 hT9 hL9 hD9 hV9 hO9 hM9 K9 hK9
    have o9_5 := hO9 5 _ (show List.contains _ _ = false from by kernel_rfl) rfl
    clear hV9 hO9
    obtain ⟨-, ot9, -⟩ := hM9.pre (hM9.n4 hL9)
    have d0 : w9.cell? ⟨gt, 0, none⟩ = some (.bool true) := ot9.cell 0
    have d1 : w9.cell? ⟨gt, 1, none⟩ = some (.string nm) := ot9.cell 1
    have d2 : w9.cell? ⟨gt, 2, none⟩ = some (.slice da na ca) := ot9.cell 2
    go_simp
    exact hK9 _ _ trivial rfl hM9.s4
  case s2_5 =>
    intro L9 u9 t9 w9 hT9 hL9 hD9 hV9 hO9 hM9 K9 hK9
    obtain ⟨x9_2, p9_2, q9_2⟩ := hV9 2 39 rfl rfl (of_decide_eq_true (by kernel_rfl))
    obtain ⟨q9_2, e9_2⟩ := q9_2
    obtain rfl : x9_2 = (.func (.func 76) #[] #[]) := q9_2
    clear e9_2
    obtain ⟨x9_3, p9_3, q9_3⟩ := hV9 3 40 rfl rfl (of_decide_eq_true (by kernel_rfl))
    obtain ⟨q9_3, e9_3⟩ := q9_3
    obtain rfl : x9_3 = ?v2_3 := q9_3
    clear e9_3
    obtain ⟨x9_4, p9_4, q9_4⟩ := hV9 4 41 rfl rfl (of_decide_eq_true (by kernel_rfl))
    obtain ⟨q9_4, e9_4⟩ := q9_4
    obtain rfl : x9_4 = (.agg #[.bool true, .string nm, .slice da na ca]) := q9_4
    clear e9_4
    clear hV9 hO9
    obtain ⟨⟨q0, q1, q2⟩, -, -⟩ := hM9.pre hL9
    go_simp
    refine (HC.out _ _ _ ⟨_, _, _, _, _, _, q0⟩ q1).mono ?_
    rintro _ w8 ⟨rfl, hs8, hb8⟩
    exact hK9 _ _ trivial rfl (hM9.s5 (hD9 2 rfl) (hD9 4 rfl) ⟨hs8, q2.trans hb8⟩)
  case s2_6 =>
    intro L9 u9 t9 w9 hT9 hL9 hD9 hV9 hO9 hM9 K9 hK9
    obtain ⟨x9_5, p9_5, q9_5⟩ := hV9 5 42 rfl rfl (of_decide_eq_true (by kernel_rfl))
    obtain ⟨q9_5, e9_5⟩ := q9_5
    obtain rfl : x9_5 = (.int .i64 0) := q9_5
    clear e9_5
    clear hV9 hO9
    go_simp
    exact hK9 _ _ trivial rfl (hM9.s6 (hD9 5 rfl))
  case s2_7 =>
    intro L9 u9 t9 w9 hT9 hL9 hD9 hV9 hO9 hM9 K9 hK9
    obtain ⟨x9_6, p9_6, q9_6⟩ := hV9 6 43 rfl rfl (of_decide_eq_true (by kernel_rfl))
    obtain ⟨q9_6, e9_6⟩ := q9_6
    obtain rfl : x9_6 = (.agg #[.int .i64 0, .int .i64 0]) := q9_6
    clear e9_6
    have o9_4 := hO9 4 _ (show List.contains _ _ = false from by kernel_rfl) rfl
    clear hV9 hO9
    have h5 := hM9.h65 (hD9 6 rfl)
    obtain ⟨p1, p2⟩ := hM9.post h5
    obtain ⟨A8, T8, X8, R8, O8, ts8, p3⟩ := id p1
    have ok := p3.bx _ rfl
    have d0 : w9.cell? ⟨w.heap.size, 0, none⟩ = some (.int .i64 0) := ok.cell 0
    have d1 : w9.cell? ⟨w.heap.size, 1, none⟩ = some (.int .i64 0) := ok.cell 1
    have f0 := ok.frozen 0
    have f1 := ok.frozen 1
    have HM : Hid ((LN (fun W => RS (some w.heap.size) B g A T X R O nt nx nr no ts xs rs os b W ∧ KP W (.slice da na ca) ∧ Below B w W) (fun W => ST (some w.heap.size) B g nt' nx' nr' no' xs' rs' os' b' W ∧ Below B w W) gt (gt + 1) [.bool true, .string nm, .slice da na ca] [.func (.func 75) #[] #[], .func (.func 76) #[] #[], .func (.func 77) #[] #[], .func (.func 78) #[] #[]]) (L9 2) (L9 4) (L9 5) (L9 6) ((w9.setCell ⟨w.heap.size, 0, none⟩ (.int .i64 0)).setCell ⟨w.heap.size, 1, none⟩ (.int .i64 0))) := hM9.s7 (hD9 6 rfl) ⟨(p1.setK 0 rfl).setK 1 rfl, (p2.setCell (p := ⟨w.heap.size, 0, none⟩) hB0 _).setCell (p := ⟨w.heap.size, 1, none⟩) hB0 _⟩
    clear hM9 p1 p2 p3 ok
    go_simp
    exact hK9 undef _ trivial trivial HM.out
  case n2 =>
    intro L9 u9 h9
    have h0 := h9 2 (by decide)
    have h1 := h9 4 (by decide)
    have h2 := h9 5 (by decide)
    have h3 := h9 6 (by decide)
    show (LN (fun W => RS (some w.heap.size) B g A T X R O nt nx nr no ts xs rs os b W ∧ KP W (.slice da na ca) ∧ Below B w W) (fun W => ST (some w.heap.size) B g nt' nx' nr' no' xs' rs' os' b' W ∧ Below B w W) gt (gt + 1) [.bool true, .string nm, .slice da na ca] [.func (.func 75) #[] #[], .func (.func 76) #[] #[], .func (.func 77) #[] #[], .func (.func 78) #[] #[]]) (L9 2) (L9 4) (L9 5) (L9 6) _
    rw [h0, h1, h2, h3]
    obtain ⟨x1, x2, x3, x4, x5⟩ := HX.out
    have bd := (Below.refl wc.heap.size wc).drew
    exact ⟨fun x => x, fun x => x, fun x => x, fun _ => ⟨⟨x1.below bd, HKB.out _ _ _ x2 bd, x3.drew⟩, x4.below bd x4.lt, x5.below bd x5.lt⟩, fun x => by cases x⟩
  case k2 =>
    intro i9 v9 w9 x9 h9 g9
    match i9, h9 with
    | 0, h9 => exact h9
    | 1, h9 => exact h9
    | 2, h9 => exact h9
    | 3, h9 => exact h9
    | 4, h9 => exact h9
    | 5, h9 => exact h9
    | 6, h9 => exact h9
    | 7, h9 => exact h9
    | _ + 8, h9 => exact trivial
  intro u9 w9 hE9 hM9 hu9
  have r9_0 : u9 0 = ?v2_0 := hu9 0 (by decide)
  have r9_1 : u9 1 = (.pointer (some ⟨gt + 1, 1, none⟩)) := hu9 1 (by decide)
  have r9_2 : u9 2 = (.func (.func 76) #[] #[]) := hu9 2 (by decide)
  have r9_3 : u9 3 = ?v2_3 := hu9 3 (by decide)
  have r9_4 : u9 4 = (.agg #[.bool true, .string nm, .slice da na ca]) := hu9 4 (by decide)
  have r9_5 : u9 5 = (.int .i64 0) := hu9 5 (by decide)
  have r9_6 : u9 6 = (.agg #[.int .i64 0, .int .i64 0]) := hu9 6 (by decide)
  clear hu9
  simp only [putAll, Act.put, List.setIfInBounds_toArray, List.set_cons_succ, List.set_cons_zero, List.getD_cons_succ, List.getD_cons_zero, Nat.reduceAdd, Nat.zero_add]
  simp only [r9_0, r9_1, r9_2, r9_3, r9_4, r9_5, r9_6]
  clear r9_0 r9_1 r9_2 r9_3 r9_4 r9_5 r9_6
  obtain ⟨p1, p2⟩ := hM9.post rfl
  obtain ⟨A8, T8, X8, R8, O8, ts8, p3⟩ := id p1
  have ok := p3.bx _ rfl
  have d0 : w9.cell? ⟨w.heap.size, 0, none⟩ = some (.int .i64 0) := ok.cell 0
  have d1 : w9.cell? ⟨w.heap.size, 1, none⟩ = some (.int .i64 0) := ok.cell 1
  clear hM9 hE9 p3 ok
  go_wp2
  exact bodyPost_ret (v := .agg #[.int .i64 0, .int .i64 0]) (by simp [results, Tryz.results40, go_sem, d0, d1]) rfl ⟨rfl, p1.bare, p2⟩
set_option maxRecDepth 100000 in
set_option maxHeartbeats 1000000 in
theorem line_01 (s nm : ByteArray) {KP : World → Value → Prop} (hpre : Lib.hasPrefix s.data.toList [60] = true) (hkb : ∀ w w' ks, KP w ks → Below w.heap.size w w' → KP w' ks) (hp : ∀ w, Calls Tryz.prog 74 #[.string s] w fun e w' => ∃ da na ca, e = .returned (.tuple #[.agg #[.bool false, .string ⟨#[116, 101, 120, 116]⟩, .slice da na ca], .int .i64 0, .int .i64 0]) ∧ KP w' (.slice da na ca) ∧ Below w.heap.size w w')
    {B g nt nx nr no nt' nx' nr' no' : Nat} {xs rs os xs' rs' os' : List Value} {b b' : Bool} (hc : ∀ k ks w, ST (some k) B g nt nx nr no xs rs os b w → KP w ks → Calls Tryz.prog 77 #[.pointer (some ⟨g, 0, none⟩), .agg #[.bool false, .string ⟨#[116, 101, 120, 116]⟩, ks]] w fun e w' => e = .returned (.int .i64 0) ∧ ST (some k) B g nt' nx' nr' no' xs' rs' os' b' w' ∧ Below B w w')
    (w : World) (h : ST none B g nt nx nr no xs rs os b w) : Calls Tryz.prog 40 #[.pointer (some ⟨g, 0, none⟩), .string s] w fun e w' => e = .returned (.agg #[.int .i64 0, .int .i64 0]) ∧ ST none B g nt' nx' nr' no' xs' rs' os' b' w' ∧ Below B w w' := by
  obtain ⟨A, T, X, R, O, ts, h⟩ := h
  have HP := Lib.hid hp
  have HC := Lib.hid hc
  have HKB := Lib.hid hkb
  clear hp hc hkb
  have hB0 := h.size
  obtain ⟨o_r, hbw⟩ := new1 w [.int .i64 0, .int .i64 0] 97
  replace h := (h.below hbw).box o_r
  clear o_r
  have hlt := h.own.lt
  go_enter Tryz.func40, Tryz.ntmps40
  go_upto_region 1 with (fail)
  generalize hwb : (w.alloc (.cells #[.int .i64 0, .int .i64 0] 97)) = wb at hbw h hlt ⊢
  clear hwb
  go_wp2_with fail
  refine (Tryz.strings_HasPrefix _ _ _).mono ?_
  rintro e w1 ⟨rfl, rfl⟩
  rw [hpre]
  go_wp2_with fail
  refine (HP.out _).mono ?_
  rintro e w1 ⟨da, na, ca, rfl, hks, hb1⟩
  have hbB : Below B w w1 := (hbw.mono hB0).trans (hb1.mono h.size)
  replace h := h.below hb1
  clear hb1 hbw hlt
  have hsf : ∀ (a : Addr) (m : Mode) (f : Fn) (x y : Array Value) (W : World), (store a (.func f x y) m).run Tryz.prog W = stored Tryz.prog W a (.func f x y) m := fun _ _ _ _ _ _ => run_store _ _ _ _ _ rfl
  go_upto_region 7 with (fail)
  clear hsf
  obtain ⟨o_t, o_a, hbt⟩ := new2 w1 [.bool false, .string ⟨#[116, 101, 120, 116]⟩, .slice da na ca] [.func (.func 75) #[] #[], .func (.func 76) #[] #[], .func (.func 77) #[] #[], .func (.func 78) #[] #[]] 126 131
  replace hks := HKB.out _ _ _ hks hbt
  replace hbB := hbB.trans (hbt.mono h.size)
  replace h := h.below hbt
  clear hbt
  have hgt : w1.heap.size ≠ w1.heap.size + 1 := by omega
  generalize ((w1.alloc (.cells #[.bool false, .string ⟨#[116, 101, 120, 116]⟩, .slice da na ca] 126)).alloc (.cells #[.func (.func 75) #[] #[], .func (.func 76) #[] #[], .func (.func 77) #[] #[], .func (.func 78) #[] #[]] 131)) = wc at o_t o_a hks hbB h ⊢
  generalize w1.heap.size = gt at o_t o_a ⊢
  have qt0 : wc.cell? ⟨gt, 0, none⟩ = some (.bool false) := o_t.cell 0
  have qt1 : wc.cell? ⟨gt, 1, none⟩ = some (.string ⟨#[116, 101, 120, 116]⟩) := o_t.cell 1
  have hw1 : IntKind.i64.wrap (0 + 1) = 1 := by decide
  have hw2 : IntKind.i64.wrap (0 + 2) = 2 := by decide
  have hw3 : IntKind.i64.wrap (1 + 2) = 3 := by decide
  go_upto_region 12 with (fail)
  clear qt0 qt1 hw1 hw2 hw3
  have HX : Hid (RS (some w.heap.size) B g A T X R O nt nx nr no ts xs rs os b wc ∧ KP wc (.slice da na ca) ∧ Below B w wc ∧ Own wc gt 126 [.bool false, .string ⟨#[116, 101, 120, 116]⟩, .slice da na ca] ∧ Own wc (gt + 1) 131 [.func (.func 75) #[] #[], .func (.func 76) #[] #[], .func (.func 77) #[] #[], .func (.func 78) #[] #[]]) := ⟨h, hks, hbB, o_t, o_a⟩
  clear h hks hbB o_t o_a
  refine wp_reg_m (fun _ _ => True) (fun L u w8 => (LN (fun W => RS (some w.heap.size) B g A T X R O nt nx nr no ts xs rs os b W ∧ KP W (.slice da na ca) ∧ Below B w W) (fun W => ST (some w.heap.size) B g nt' nx' nr' no' xs' rs' os' b' W ∧ Below B w W) gt (gt + 1) [.bool false, .string ⟨#[116, 101, 120, 116]⟩, .slice da na ca] [.func (.func 75) #[] #[], .func (.func 76) #[] #[], .func (.func 77) #[] #[], .func (.func 78) #[] #[]]) (L 2) (L 4) (L 5) (L 6) w8) ((fun _ => trivial)) ((fun _ _ _ _ _ => trivial)) [some 37, some 38, some 39, some 40, some 41, some 42, some 43, none] [isV ?v3_0, isV (.pointer (some ⟨gt + 1, 2, none⟩)), isV (.func (.func 77) #[] #[]), isV ?v3_3, isV (.agg #[.bool false, .string ⟨#[116, 101, 120, 116]⟩, .slice da na ca]), isV (.int .i64 0), isV (.agg #[.int .i64 0, .int .i64 0]), anyV] rfl (by kernel_rfl) rfl rfl ?n3 ?k3 ⟨?s3_0, ?s3_1, ?s3_2, ?s3_3, ?s3_4, ?s3_5, ?s3_6, ?s3_7, trivial⟩ ?p3
  case s3_0 =>
    intro L9 u9 t9 w9 hT9 hL9 hD9 hV9 hO9 hM9 K9 hK9
    have o9_9 := hO9 9 _ (show List.contains _ _ = false from by kernel_rfl) rfl
    clear hV9 hO9
    clear hL9 hD9
    go_simp
    (refine hK9 _ _ ((fun _ => trivial) w9) ?_ hM9; exact rfl)
  case s3_1 =>
    intro L9 u9 t9 w9 hT9 hL9 hD9 hV9 hO9 hM9 K9 hK9
    obtain ⟨x9_0, p9_0, q9_0⟩ := hV9 0 37 rfl rfl (of_decide_eq_true (by kernel_rfl))
    obtain ⟨q9_0, e9_0⟩ := q9_0
    obtain rfl : x9_0 = ?v3_0 := q9_0
    clear e9_0
    have o9_8 := hO9 8 _ (show List.contains _ _ = false from by kernel_rfl) rfl
    clear hV9 hO9
    go_simp
    exact hK9 _ _ trivial rfl hM9
  case s3_2 =>
    intro L9 u9 t9 w9 hT9 hL9 hD9 hV9 hO9 hM9 K9 hK9
    obtain ⟨x9_1, p9_1, q9_1⟩ := hV9 1 38 rfl rfl (of_decide_eq_true (by kernel_rfl))
    obtain ⟨q9_1, e9_1⟩ := q9_1
    obtain rfl : x9_1 = (.pointer (some ⟨gt + 1, 2, none⟩)) := q9_1
    clear e9_1
    clear hV9 hO9
    obtain ⟨-, -, oa9⟩ := hM9.pre (hM9.n2 hL9)
    have d9 : w9.cell? ⟨gt + 1, 2, none⟩ = some (.func (.func 77) #[] #[]) := oa9.cell 2
    go_simp
    exact hK9 _ _ trivial rfl hM9.s2
  case s3_3 =>
    intro L9 u9 t9 w9 hT9 hL9 hD9 hV9 hO9 hM9 K9 hK9
    have o9_0 := hO9 0 _ (show List.contains _ _ = false from by kernel_rfl) rfl
    clear hV9 hO9
    clear hL9 hD9
    go_simp
    (refine hK9 _ _ ((fun _ => trivial) w9) ?_ hM9; exact rfl)
  case s3_4 =>
    intro L9 u9 t9 w9 hT9 hL9 hD9 hV9 hO9 hM9 K9 hK9
    have o9_5 := hO9 5 _ (show List.contains _ _ = false from by kernel_rfl) rfl
    clear hV9 hO9
    obtain ⟨-, ot9, -⟩ := hM9.pre (hM9.n4 hL9)
    have d0 : w9.cell? ⟨gt, 0, none⟩ = some (.bool false) := ot9.cell 0
    have d1 : w9.cell? ⟨gt, 1, none⟩ = some (.string ⟨#[116, 101, 120, 116]⟩) := ot9.cell 1
    have d2 : w9.cell? ⟨gt, 2, none⟩ = some (.slice da na ca) := ot9.cell 2
    go_simp
    exact hK9 _ _ trivial rfl hM9.s4
  case s3_5 =>
    intro L9 u9 t9 w9 hT9 hL9 hD9 hV9 hO9 hM9 K9 hK9
    obtain ⟨x9_2, p9_2, q9_2⟩ := hV9 2 39 rfl rfl (of_decide_eq_true (by kernel_rfl))
    obtain ⟨q9_2, e9_2⟩ := q9_2
    obtain rfl : x9_2 = (.func (.func 77) #[] #[]) := q9_2
    clear e9_2
    obtain ⟨x9_3, p9_3, q9_3⟩ := hV9 3 40 rfl rfl (of_decide_eq_true (by kernel_rfl))
    obtain ⟨q9_3, e9_3⟩ := q9_3
    obtain rfl : x9_3 = ?v3_3 := q9_3
    clear e9_3
    obtain ⟨x9_4, p9_4, q9_4⟩ := hV9 4 41 rfl rfl (of_decide_eq_true (by kernel_rfl))
    obtain ⟨q9_4, e9_4⟩ := q9_4
    obtain rfl : x9_4 = (.agg #[.bool false, .string ⟨#[116, 101, 120, 116]⟩, .slice da na ca]) := q9_4
    clear e9_4
    clear hV9 hO9
    obtain ⟨⟨q0, q1, q2⟩, -, -⟩ := hM9.pre hL9
    go_simp
    refine (HC.out _ _ _ ⟨_, _, _, _, _, _, q0⟩ q1).mono ?_
    rintro _ w8 ⟨rfl, hs8, hb8⟩
    exact hK9 _ _ trivial rfl (hM9.s5 (hD9 2 rfl) (hD9 4 rfl) ⟨hs8, q2.trans hb8⟩)
  case s3_6 =>
    intro L9 u9 t9 w9 hT9 hL9 hD9 hV9 hO9 hM9 K9 hK9
    obtain ⟨x9_5, p9_5, q9_5⟩ := hV9 5 42 rfl rfl (of_decide_eq_true (by kernel_rfl))
    obtain ⟨q9_5, e9_5⟩ := q9_5
    obtain rfl : x9_5 = (.int .i64 0) := q9_5
    clear e9_5
    clear hV9 hO9
    go_simp
    exact hK9 _ _ trivial rfl (hM9.s6 (hD9 5 rfl))
  case s3_7 =>
    intro L9 u9 t9 w9 hT9 hL9 hD9 hV9 hO9 hM9 K9 hK9
    obtain ⟨x9_6, p9_6, q9_6⟩ := hV9 6 43 rfl rfl (of_decide_eq_true (by kernel_rfl))
    obtain ⟨q9_6, e9_6⟩ := q9_6
    obtain rfl : x9_6 = (.agg #[.int .i64 0, .int .i64 0]) := q9_6
    clear e9_6
    have o9_4 := hO9 4 _ (show List.contains _ _ = false from by kernel_rfl) rfl
    clear hV9 hO9
    have h5 := hM9.h65 (hD9 6 rfl)
    obtain ⟨p1, p2⟩ := hM9.post h5
    obtain ⟨A8, T8, X8, R8, O8, ts8, p3⟩ := id p1
    have ok := p3.bx _ rfl
    have d0 : w9.cell? ⟨w.heap.size, 0, none⟩ = some (.int .i64 0) := ok.cell 0
    have d1 : w9.cell? ⟨w.heap.size, 1, none⟩ = some (.int .i64 0) := ok.cell 1
    have f0 := ok.frozen 0
    have f1 := ok.frozen 1
    have HM : Hid ((LN (fun W => RS (some w.heap.size) B g A T X R O nt nx nr no ts xs rs os b W ∧ KP W (.slice da na ca) ∧ Below B w W) (fun W => ST (some w.heap.size) B g nt' nx' nr' no' xs' rs' os' b' W ∧ Below B w W) gt (gt + 1) [.bool false, .string ⟨#[116, 101, 120, 116]⟩, .slice da na ca] [.func (.func 75) #[] #[], .func (.func 76) #[] #[], .func (.func 77) #[] #[], .func (.func 78) #[] #[]]) (L9 2) (L9 4) (L9 5) (L9 6) ((w9.setCell ⟨w.heap.size, 0, none⟩ (.int .i64 0)).setCell ⟨w.heap.size, 1, none⟩ (.int .i64 0))) := hM9.s7 (hD9 6 rfl) ⟨(p1.setK 0 rfl).setK 1 rfl, (p2.setCell (p := ⟨w.heap.size, 0, none⟩) hB0 _).setCell (p := ⟨w.heap.size, 1, none⟩) hB0 _⟩
    clear hM9 p1 p2 p3 ok
    go_simp
    exact hK9 undef _ trivial trivial HM.out
  case n3 =>
    intro L9 u9 h9
    have h0 := h9 2 (by decide)
    have h1 := h9 4 (by decide)
    have h2 := h9 5 (by decide)
    have h3 := h9 6 (by decide)
    show (LN (fun W => RS (some w.heap.size) B g A T X R O nt nx nr no ts xs rs os b W ∧ KP W (.slice da na ca) ∧ Below B w W) (fun W => ST (some w.heap.size) B g nt' nx' nr' no' xs' rs' os' b' W ∧ Below B w W) gt (gt + 1) [.bool false, .string ⟨#[116, 101, 120, 116]⟩, .slice da na ca] [.func (.func 75) #[] #[], .func (.func 76) #[] #[], .func (.func 77) #[] #[], .func (.func 78) #[] #[]]) (L9 2) (L9 4) (L9 5) (L9 6) _
    rw [h0, h1, h2, h3]
    obtain ⟨x1, x2, x3, x4, x5⟩ := HX.out
    have bd := (Below.refl wc.heap.size wc).drew
    exact ⟨fun x => x, fun x => x, fun x => x, fun _ => ⟨⟨x1.below bd, HKB.out _ _ _ x2 bd, x3.drew⟩, x4.below bd x4.lt, x5.below bd x5.lt⟩, fun x => by cases x⟩
  case k3 =>
    intro i9 v9 w9 x9 h9 g9
    match i9, h9 with
    | 0, h9 => exact h9
    | 1, h9 => exact h9
    | 2, h9 => exact h9
    | 3, h9 => exact h9
    | 4, h9 => exact h9
    | 5, h9 => exact h9
    | 6, h9 => exact h9
    | 7, h9 => exact h9
    | _ + 8, h9 => exact trivial
  intro u9 w9 hE9 hM9 hu9
  have r9_0 : u9 0 = ?v3_0 := hu9 0 (by decide)
  have r9_1 : u9 1 = (.pointer (some ⟨gt + 1, 2, none⟩)) := hu9 1 (by decide)
  have r9_2 : u9 2 = (.func (.func 77) #[] #[]) := hu9 2 (by decide)
  have r9_3 : u9 3 = ?v3_3 := hu9 3 (by decide)
  have r9_4 : u9 4 = (.agg #[.bool false, .string ⟨#[116, 101, 120, 116]⟩, .slice da na ca]) := hu9 4 (by decide)
  have r9_5 : u9 5 = (.int .i64 0) := hu9 5 (by decide)
  have r9_6 : u9 6 = (.agg #[.int .i64 0, .int .i64 0]) := hu9 6 (by decide)
  clear hu9
  simp only [putAll, Act.put, List.setIfInBounds_toArray, List.set_cons_succ, List.set_cons_zero, List.getD_cons_succ, List.getD_cons_zero, Nat.reduceAdd, Nat.zero_add]
  simp only [r9_0, r9_1, r9_2, r9_3, r9_4, r9_5, r9_6]
  clear r9_0 r9_1 r9_2 r9_3 r9_4 r9_5 r9_6
  obtain ⟨p1, p2⟩ := hM9.post rfl
  obtain ⟨A8, T8, X8, R8, O8, ts8, p3⟩ := id p1
  have ok := p3.bx _ rfl
  have d0 : w9.cell? ⟨w.heap.size, 0, none⟩ = some (.int .i64 0) := ok.cell 0
  have d1 : w9.cell? ⟨w.heap.size, 1, none⟩ = some (.int .i64 0) := ok.cell 1
  clear hM9 hE9 p3 ok
  go_wp2
  exact bodyPost_ret (v := .agg #[.int .i64 0, .int .i64 0]) (by simp [results, Tryz.results40, go_sem, d0, d1]) rfl ⟨rfl, p1.bare, p2⟩
set_option maxRecDepth 100000 in
set_option maxHeartbeats 1000000 in
theorem line_11 (s nm : ByteArray) {KP : World → Value → Prop} (hpre : Lib.hasPrefix s.data.toList [60] = true) (hkb : ∀ w w' ks, KP w ks → Below w.heap.size w w' → KP w' ks) (hp : ∀ w, Calls Tryz.prog 74 #[.string s] w fun e w' => ∃ da na ca, e = .returned (.tuple #[.agg #[.bool true, .string ⟨#[116, 101, 120, 116]⟩, .slice da na ca], .int .i64 0, .int .i64 0]) ∧ KP w' (.slice da na ca) ∧ Below w.heap.size w w')
    {B g nt nx nr no nt' nx' nr' no' : Nat} {xs rs os xs' rs' os' : List Value} {b b' : Bool} (hc : ∀ k ks w, ST (some k) B g nt nx nr no xs rs os b w → KP w ks → Calls Tryz.prog 78 #[.pointer (some ⟨g, 0, none⟩), .agg #[.bool true, .string ⟨#[116, 101, 120, 116]⟩, ks]] w fun e w' => e = .returned (.int .i64 0) ∧ ST (some k) B g nt' nx' nr' no' xs' rs' os' b' w' ∧ Below B w w')
    (w : World) (h : ST none B g nt nx nr no xs rs os b w) : Calls Tryz.prog 40 #[.pointer (some ⟨g, 0, none⟩), .string s] w fun e w' => e = .returned (.agg #[.int .i64 0, .int .i64 0]) ∧ ST none B g nt' nx' nr' no' xs' rs' os' b' w' ∧ Below B w w' := by
  obtain ⟨A, T, X, R, O, ts, h⟩ := h
  have HP := Lib.hid hp
  have HC := Lib.hid hc
  have HKB := Lib.hid hkb
  clear hp hc hkb
  have hB0 := h.size
  obtain ⟨o_r, hbw⟩ := new1 w [.int .i64 0, .int .i64 0] 97
  replace h := (h.below hbw).box o_r
  clear o_r
  have hlt := h.own.lt
  go_enter Tryz.func40, Tryz.ntmps40
  go_upto_region 1 with (fail)
  generalize hwb : (w.alloc (.cells #[.int .i64 0, .int .i64 0] 97)) = wb at hbw h hlt ⊢
  clear hwb
  go_wp2_with fail
  refine (Tryz.strings_HasPrefix _ _ _).mono ?_
  rintro e w1 ⟨rfl, rfl⟩
  rw [hpre]
  go_wp2_with fail
  refine (HP.out _).mono ?_
  rintro e w1 ⟨da, na, ca, rfl, hks, hb1⟩
  have hbB : Below B w w1 := (hbw.mono hB0).trans (hb1.mono h.size)
  replace h := h.below hb1
  clear hb1 hbw hlt
  have hsf : ∀ (a : Addr) (m : Mode) (f : Fn) (x y : Array Value) (W : World), (store a (.func f x y) m).run Tryz.prog W = stored Tryz.prog W a (.func f x y) m := fun _ _ _ _ _ _ => run_store _ _ _ _ _ rfl
  go_upto_region 7 with (fail)
  clear hsf
  obtain ⟨o_t, o_a, hbt⟩ := new2 w1 [.bool true, .string ⟨#[116, 101, 120, 116]⟩, .slice da na ca] [.func (.func 75) #[] #[], .func (.func 76) #[] #[], .func (.func 77) #[] #[], .func (.func 78) #[] #[]] 126 131
  replace hks := HKB.out _ _ _ hks hbt
  replace hbB := hbB.trans (hbt.mono h.size)
  replace h := h.below hbt
  clear hbt
  have hgt : w1.heap.size ≠ w1.heap.size + 1 := by omega
  generalize ((w1.alloc (.cells #[.bool true, .string ⟨#[116, 101, 120, 116]⟩, .slice da na ca] 126)).alloc (.cells #[.func (.func 75) #[] #[], .func (.func 76) #[] #[], .func (.func 77) #[] #[], .func (.func 78) #[] #[]] 131)) = wc at o_t o_a hks hbB h ⊢
  generalize w1.heap.size = gt at o_t o_a ⊢
  have qt0 : wc.cell? ⟨gt, 0, none⟩ = some (.bool true) := o_t.cell 0
  have qt1 : wc.cell? ⟨gt, 1, none⟩ = some (.string ⟨#[116, 101, 120, 116]⟩) := o_t.cell 1
  have hw1 : IntKind.i64.wrap (0 + 1) = 1 := by decide
  have hw2 : IntKind.i64.wrap (0 + 2) = 2 := by decide
  have hw3 : IntKind.i64.wrap (1 + 2) = 3 := by decide
  go_upto_region 12 with (fail)
  clear qt0 qt1 hw1 hw2 hw3
  have HX : Hid (RS (some w.heap.size) B g A T X R O nt nx nr no ts xs rs os b wc ∧ KP wc (.slice da na ca) ∧ Below B w wc ∧ Own wc gt 126 [.bool true, .string ⟨#[116, 101, 120, 116]⟩, .slice da na ca] ∧ Own wc (gt + 1) 131 [.func (.func 75) #[] #[], .func (.func 76) #[] #[], .func (.func 77) #[] #[], .func (.func 78) #[] #[]]) := ⟨h, hks, hbB, o_t, o_a⟩
  clear h hks hbB o_t o_a
  refine wp_reg_m (fun _ _ => True) (fun L u w8 => (LN (fun W => RS (some w.heap.size) B g A T X R O nt nx nr no ts xs rs os b W ∧ KP W (.slice da na ca) ∧ Below B w W) (fun W => ST (some w.heap.size) B g nt' nx' nr' no' xs' rs' os' b' W ∧ Below B w W) gt (gt + 1) [.bool true, .string ⟨#[116, 101, 120, 116]⟩, .slice da na ca] [.func (.func 75) #[] #[], .func (.func 76) #[] #[], .func (.func 77) #[] #[], .func (.func 78) #[] #[]]) (L 2) (L 4) (L 5) (L 6) w8) ((fun _ => trivial)) ((fun _ _ _ _ _ => trivial)) [some 37, some 38, some 39, some 40, some 41, some 42, some 43, none] [isV ?v4_0, isV (.pointer (some ⟨gt + 1, 3, none⟩)), isV (.func (.func 78) #[] #[]), isV ?v4_3, isV (.agg #[.bool true, .string ⟨#[116, 101, 120, 116]⟩, .slice da na ca]), isV (.int .i64 0), isV (.agg #[.int .i64 0, .int .i64 0]), anyV] rfl (by kernel_rfl) rfl rfl ?n4 ?k4 ⟨?s4_0, ?s4_1, ?s4_2, ?s4_3, ?s4_4, ?s4_5, ?s4_6, ?s4_7, trivial⟩ ?p4
  case s4_0 =>
    intro L9 u9 t9 w9 hT9 hL9 hD9 hV9 hO9 hM9 K9 hK9
    have o9_9 := hO9 9 _ (show List.contains _ _ = false from by kernel_rfl) rfl
    clear hV9 hO9
    clear hL9 hD9
    go_simp
    (refine hK9 _ _ ((fun _ => trivial) w9) ?_ hM9; exact rfl)
  case s4_1 =>
    intro L9 u9 t9 w9 hT9 hL9 hD9 hV9 hO9 hM9 K9 hK9
    obtain ⟨x9_0, p9_0, q9_0⟩ := hV9 0 37 rfl rfl (of_decide_eq_true (by kernel_rfl))
    obtain ⟨q9_0, e9_0⟩ := q9_0
    obtain rfl : x9_0 = ?v4_0 := q9_0
    clear e9_0
    have o9_8 := hO9 8 _ (show List.contains _ _ = false from by kernel_rfl) rfl
    clear hV9 hO9
    go_simp
    exact hK9 _ _ trivial rfl hM9
  case s4_2 =>
    intro L9 u9 t9 w9 hT9 hL9 hD9 hV9 hO9 hM9 K9 hK9
    obtain ⟨x9_1, p9_1, q9_1⟩ := hV9 1 38 rfl rfl (of_decide_eq_true (by kernel_rfl))
    obtain ⟨q9_1, e9_1⟩ := q9_1
    obtain rfl : x9_1 = (.pointer (some ⟨gt + 1, 3, none⟩)) := q9_1
    clear e9_1
    clear hV9 hO9
    obtain ⟨-, -, oa9⟩ := hM9.pre (hM9.n2 hL9)
    have d9 : w9.cell? ⟨gt + 1, 3, none⟩ = some (.func (.func 78) #[] #[]) := oa9.cell 3
    go_simp
    exact hK9 _ _ trivial rfl hM9.s2
  case s4_3 =>
    intro L9 u9 t9 w9 hT9 hL9 hD9 hV9 hO9 hM9 K9 hK9
    have o9_0 := hO9 0 _ (show List.contains _ _ = false from by kernel_rfl) rfl
    clear hV9 hO9
    clear hL9 hD9
    go_simp
    (refine hK9 _ _ ((fun _ => trivial) w9) ?_ hM9; exact rfl)
  case s4_4 =>
    intro L9 u9 t9 w9 hT9 hL9 hD9 hV9 hO9 hM9 K9 hK9
    have o9_5 := hO9 5 _ (show List.contains _ _ = false from by kernel_rfl) rfl
    clear hV9 hO9
    obtain ⟨-, ot9, -⟩ := hM9.pre (hM9.n4 hL9)
    have d0 : w9.cell? ⟨gt, 0, none⟩ = some (.bool true) := ot9.cell 0
    have d1 : w9.cell? ⟨gt, 1, none⟩ = some (.string ⟨#[116, 101, 120, 116]⟩) := ot9.cell 1
    have d2 : w9.cell? ⟨gt, 2, none⟩ = some (.slice da na ca) := ot9.cell 2
    go_simp
    exact hK9 _ _ trivial rfl hM9.s4
  case s4_5 =>
    intro L9 u9 t9 w9 hT9 hL9 hD9 hV9 hO9 hM9 K9 hK9
    obtain ⟨x9_2, p9_2, q9_2⟩ := hV9 2 39 rfl rfl (of_decide_eq_true (by kernel_rfl))
    obtain ⟨q9_2, e9_2⟩ := q9_2
    obtain rfl : x9_2 = (.func (.func 78) #[] #[]) := q9_2
    clear e9_2
    obtain ⟨x9_3, p9_3, q9_3⟩ := hV9 3 40 rfl rfl (of_decide_eq_true (by kernel_rfl))
    obtain ⟨q9_3, e9_3⟩ := q9_3
    obtain rfl : x9_3 = ?v4_3 := q9_3
    clear e9_3
    obtain ⟨x9_4, p9_4, q9_4⟩ := hV9 4 41 rfl rfl (of_decide_eq_true (by kernel_rfl))
    obtain ⟨q9_4, e9_4⟩ := q9_4
    obtain rfl : x9_4 = (.agg #[.bool true, .string ⟨#[116, 101, 120, 116]⟩, .slice da na ca]) := q9_4
    clear e9_4
    clear hV9 hO9
    obtain ⟨⟨q0, q1, q2⟩, -, -⟩ := hM9.pre hL9
    go_simp
    refine (HC.out _ _ _ ⟨_, _, _, _, _, _, q0⟩ q1).mono ?_
    rintro _ w8 ⟨rfl, hs8, hb8⟩
    exact hK9 _ _ trivial rfl (hM9.s5 (hD9 2 rfl) (hD9 4 rfl) ⟨hs8, q2.trans hb8⟩)
  case s4_6 =>
    intro L9 u9 t9 w9 hT9 hL9 hD9 hV9 hO9 hM9 K9 hK9
    obtain ⟨x9_5, p9_5, q9_5⟩ := hV9 5 42 rfl rfl (of_decide_eq_true (by kernel_rfl))
    obtain ⟨q9_5, e9_5⟩ := q9_5
    obtain rfl : x9_5 = (.int .i64 0) := q9_5
    clear e9_5
    clear hV9 hO9
    go_simp
    exact hK9 _ _ trivial rfl (hM9.s6 (hD9 5 rfl))
  case s4_7 =>
    intro L9 u9 t9 w9 hT9 hL9 hD9 hV9 hO9 hM9 K9 hK9
    obtain ⟨x9_6, p9_6, q9_6⟩ := hV9 6 43 rfl rfl (of_decide_eq_true (by kernel_rfl))
    obtain ⟨q9_6, e9_6⟩ := q9_6
    obtain rfl : x9_6 = (.agg #[.int .i64 0, .int .i64 0]) := q9_6
    clear e9_6
    have o9_4 := hO9 4 _ (show List.contains _ _ = false from by kernel_rfl) rfl
    clear hV9 hO9
    have h5 := hM9.h65 (hD9 6 rfl)
    obtain ⟨p1, p2⟩ := hM9.post h5
    obtain ⟨A8, T8, X8, R8, O8, ts8, p3⟩ := id p1
    have ok := p3.bx _ rfl
    have d0 : w9.cell? ⟨w.heap.size, 0, none⟩ = some (.int .i64 0) := ok.cell 0
    have d1 : w9.cell? ⟨w.heap.size, 1, none⟩ = some (.int .i64 0) := ok.cell 1
    have f0 := ok.frozen 0
    have f1 := ok.frozen 1
    have HM : Hid ((LN (fun W => RS (some w.heap.size) B g A T X R O nt nx nr no ts xs rs os b W ∧ KP W (.slice da na ca) ∧ Below B w W) (fun W => ST (some w.heap.size) B g nt' nx' nr' no' xs' rs' os' b' W ∧ Below B w W) gt (gt + 1) [.bool true, .string ⟨#[116, 101, 120, 116]⟩, .slice da na ca] [.func (.func 75) #[] #[], .func (.func 76) #[] #[], .func (.func 77) #[] #[], .func (.func 78) #[] #[]]) (L9 2) (L9 4) (L9 5) (L9 6) ((w9.setCell ⟨w.heap.size, 0, none⟩ (.int .i64 0)).setCell ⟨w.heap.size, 1, none⟩ (.int .i64 0))) := hM9.s7 (hD9 6 rfl) ⟨(p1.setK 0 rfl).setK 1 rfl, (p2.setCell (p := ⟨w.heap.size, 0, none⟩) hB0 _).setCell (p := ⟨w.heap.size, 1, none⟩) hB0 _⟩
    clear hM9 p1 p2 p3 ok
    go_simp
    exact hK9 undef _ trivial trivial HM.out
  case n4 =>
    intro L9 u9 h9
    have h0 := h9 2 (by decide)
    have h1 := h9 4 (by decide)
    have h2 := h9 5 (by decide)
    have h3 := h9 6 (by decide)
    show (LN (fun W => RS (some w.heap.size) B g A T X R O nt nx nr no ts xs rs os b W ∧ KP W (.slice da na ca) ∧ Below B w W) (fun W => ST (some w.heap.size) B g nt' nx' nr' no' xs' rs' os' b' W ∧ Below B w W) gt (gt + 1) [.bool true, .string ⟨#[116, 101, 120, 116]⟩, .slice da na ca] [.func (.func 75) #[] #[], .func (.func 76) #[] #[], .func (.func 77) #[] #[], .func (.func 78) #[] #[]]) (L9 2) (L9 4) (L9 5) (L9 6) _
    rw [h0, h1, h2, h3]
    obtain ⟨x1, x2, x3, x4, x5⟩ := HX.out
    have bd := (Below.refl wc.heap.size wc).drew
    exact ⟨fun x => x, fun x => x, fun x => x, fun _ => ⟨⟨x1.below bd, HKB.out _ _ _ x2 bd, x3.drew⟩, x4.below bd x4.lt, x5.below bd x5.lt⟩, fun x => by cases x⟩
  case k4 =>
    intro i9 v9 w9 x9 h9 g9
    match i9, h9 with
    | 0, h9 => exact h9
    | 1, h9 => exact h9
    | 2, h9 => exact h9
    | 3, h9 => exact h9
    | 4, h9 => exact h9
    | 5, h9 => exact h9
    | 6, h9 => exact h9
    | 7, h9 => exact h9
    | _ + 8, h9 => exact trivial
  intro u9 w9 hE9 hM9 hu9
  have r9_0 : u9 0 = ?v4_0 := hu9 0 (by decide)
  have r9_1 : u9 1 = (.pointer (some ⟨gt + 1, 3, none⟩)) := hu9 1 (by decide)
  have r9_2 : u9 2 = (.func (.func 78) #[] #[]) := hu9 2 (by decide)
  have r9_3 : u9 3 = ?v4_3 := hu9 3 (by decide)
  have r9_4 : u9 4 = (.agg #[.bool true, .string ⟨#[116, 101, 120, 116]⟩, .slice da na ca]) := hu9 4 (by decide)
  have r9_5 : u9 5 = (.int .i64 0) := hu9 5 (by decide)
  have r9_6 : u9 6 = (.agg #[.int .i64 0, .int .i64 0]) := hu9 6 (by decide)
  clear hu9
  simp only [putAll, Act.put, List.setIfInBounds_toArray, List.set_cons_succ, List.set_cons_zero, List.getD_cons_succ, List.getD_cons_zero, Nat.reduceAdd, Nat.zero_add]
  simp only [r9_0, r9_1, r9_2, r9_3, r9_4, r9_5, r9_6]
  clear r9_0 r9_1 r9_2 r9_3 r9_4 r9_5 r9_6
  obtain ⟨p1, p2⟩ := hM9.post rfl
  obtain ⟨A8, T8, X8, R8, O8, ts8, p3⟩ := id p1
  have ok := p3.bx _ rfl
  have d0 : w9.cell? ⟨w.heap.size, 0, none⟩ = some (.int .i64 0) := ok.cell 0
  have d1 : w9.cell? ⟨w.heap.size, 1, none⟩ = some (.int .i64 0) := ok.cell 1
  clear hM9 hE9 p3 ok
  go_wp2
  exact bodyPost_ret (v := .agg #[.int .i64 0, .int .i64 0]) (by simp [results, Tryz.results40, go_sem, d0, d1]) rfl ⟨rfl, p1.bare, p2⟩
end Go.Proofs.YtfenjklilocjgaaGreatDoor
