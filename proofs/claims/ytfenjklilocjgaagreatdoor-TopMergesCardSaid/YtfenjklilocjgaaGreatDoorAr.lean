/- Parts of the proof: Ar. No condition of its own. -/
import Derived.Test.YtfenjklilocjgaaGreatDoorAk
set_option linter.unusedSimpArgs false
set_option linter.unusedVariables false
set_option linter.unusedSectionVars false
namespace Go.Proofs.YtfenjklilocjgaaGreatDoor
set_option linter.unusedSimpArgs false
set_option linter.unusedVariables false
set_option linter.unusedSectionVars false
open Go.RowKit Dg

/-- A lower-case letter. -/
def OneL (s : ByteArray) : Prop := ∃ h : s.size = 1, 97 ≤ (s[0]'(by omega)).toNat ∧ (s[0]'(by omega)).toNat ≤ 122
theorem own_ne9 {w : World} {a b : Nat} {T U : TypeId} {xs ys : List Value} (h : Own w a T xs) (h' : Own w b U ys) (he : T ≠ U) : a ≠ b := by
  intro x
  subst x
  unfold Own at h h'
  rw [h] at h'
  injection h' with h'
  injection h' with _ h'
  exact he h'
/-- The reader in block g: its lists. -/
structure RS (kb : Option Nat) (B g : Nat) (A T X R O : Value) (nt nx nr no : Nat) (ts xs rs os : List Value) (b : Bool) (w : World) : Prop where
  gB : B ≤ g
  own : Own w g 93 [A, T, X, R, .slice none 0 0, .slice none 0 0, .slice none 0 0, O, .bool b]
  a : w.ownsRow B 64 2 A 1 [.string ⟨#[119, 111, 114, 100]⟩, .bool false]
  t : w.ownsRow B 28 1 T nt ts
  x : w.ownsRow B 71 4 X nx xs
  r : w.ownsRow B 69 4 R nr rs
  o : w.ownsRow B 69 4 O no os
  ro : ∀ k, O.ownBlock = some k → R.ownBlock ≠ some k
  bx : ∀ k, kb = some k → Own w k 97 [.int .i64 0, .int .i64 0]
  tk : ∀ v ∈ ts, ∃ s, OneL s ∧ w.ownsRow B 9 1 v 1 [.string s]
section
variable {B g : Nat} {kb : Option Nat} {A T X R O : Value} {nt nx nr no : Nat} {ts xs rs os : List Value} {b : Bool} {w w' : World}
theorem RS.below (h : RS kb B g A T X R O nt nx nr no ts xs rs os b w) (hb : Below w.heap.size w w') : RS kb B g A T X R O nt nx nr no ts xs rs os b w' :=
  ⟨h.gB, h.own.below hb h.own.lt, own_below1 h.a hb, own_below1 h.t hb, own_below1 h.x hb, own_below1 h.r hb, own_below1 h.o hb, h.ro, fun k9 e9 => (h.bx k9 e9).below hb (h.bx k9 e9).lt, fun v hv => by
    obtain ⟨s, h1, h2⟩ := h.tk v hv
    exact ⟨s, h1, own_below1 h2 hb⟩⟩
theorem RS.size (h : RS kb B g A T X R O nt nx nr no ts xs rs os b w) : B ≤ w.heap.size := by have := h.own.lt; have := h.gB; omega
/-- A row of another type is another block. -/
theorem RS.ne {e : TypeId} {size n : Nat} {v : Value} {ys : List Value} (h : RS kb B g A T X R O nt nx nr no ts xs rs os b w) (hr : w.ownsRow B e size v n ys) (he : e ≠ 93) : v.ownBlock ≠ some g := own_blk_ne hr h.own he
theorem row_ne {e e' : TypeId} {size size' n n' : Nat} {v v' : Value} {ys ys' : List Value} (h : w.ownsRow B e size v n ys) (h' : w.ownsRow B e' size' v' n' ys') (he : e ≠ e') : v.ownBlock = none ∨ v.ownBlock ≠ v'.ownBlock := by
  rcases h.2 with ⟨rfl, -⟩ | ⟨k, cap, cur, rfl, -, h1, -⟩
  · exact .inl rfl
  · refine .inr fun x => ?_
    rcases h'.2 with ⟨rfl, -⟩ | ⟨k', cap', cur', rfl, -, h2, -⟩
    · cases x
    · have e1 : k = k' := by injection x
      subst e1
      rw [h1] at h2
      injection h2 with h2
      injection h2 with _ h2
      exact he h2
theorem RS.keep (h : RS kb B g A T X R O nt nx nr no ts xs rs os b w) {row : Option Nat} (hf : Fr w g row w') {e : TypeId} {size n : Nat} {v : Value} {ys : List Value} (hr : w.ownsRow B e size v n ys) (he : e ≠ 93) (h2 : row = none ∨ row ≠ v.ownBlock) : w'.ownsRow B e size v n ys := hf.owns hr (h.ne hr he) h2
theorem RS.tks (h : RS kb B g A T X R O nt nx nr no ts xs rs os b w) {fv : Value} {e : TypeId} {size n : Nat} {ys : List Value} (hr : w.ownsRow B e size fv n ys) (he : e ≠ 9) (hf : Fr w g fv.ownBlock w') : ∀ v ∈ ts, ∃ s, OneL s ∧ w'.ownsRow B 9 1 v 1 [.string s] := fun v hv => by
  obtain ⟨s, h1, h2⟩ := h.tk v hv
  exact ⟨s, h1, h.keep hf h2 (by decide) (row_ne hr h2 he)⟩
theorem RS.appO (h : RS kb B g A T X R O nt nx nr no ts xs rs os b w) {news : List Value} {vb va : Value} (hM : GM w g 93 [A, T, X, R, .slice none 0 0, .slice none 0 0, .slice none 0 0, O, .bool b] 7 O B 69 4 no os news true true true true vb va w') : RS kb B g A T X R va nt nx nr (no + 1) ts xs rs (os ++ news) b w' := by
  obtain ⟨r1, r2⟩ := hM.yes rfl
  refine ⟨h.gB, hM.own, h.keep hM.fr h.a (by decide) (row_ne h.o h.a (by decide)), h.keep hM.fr h.t (by decide) (row_ne h.o h.t (by decide)), h.keep hM.fr h.x (by decide) (row_ne h.o h.x (by decide)), h.keep hM.fr h.r (by decide) ?_, r1, ?_, fun k9 e9 => hM.fr.own (h.bx k9 e9) (own_ne9 (h.bx k9 e9) h.own (by decide)) (own_blk_ne h.o (h.bx k9 e9) (by decide)), h.tks h.o (by decide) hM.fr⟩
  · cases hk : O.ownBlock with
    | none => exact .inl rfl
    | some k => exact .inr (fun x => h.ro k hk x.symm)
  · intro k hk hr
    rcases r2 with x | ⟨k', x, hk'⟩
    · exact h.ro k (by rw [← x]; exact hk) hr
    · rw [x] at hk
      injection hk with hk
      have := (h.r.lt k hr).2
      omega
theorem RS.appR (h : RS kb B g A T X R O nt nx nr no ts xs rs os b w) {news : List Value} {vb va : Value} (hM : GM w g 93 [A, T, X, R, .slice none 0 0, .slice none 0 0, .slice none 0 0, O, .bool b] 3 R B 69 4 nr rs news true true true true vb va w') : RS kb B g A T X va O nt nx (nr + 1) no ts xs (rs ++ news) os b w' := by
  obtain ⟨r1, r2⟩ := hM.yes rfl
  refine ⟨h.gB, hM.own, h.keep hM.fr h.a (by decide) (row_ne h.r h.a (by decide)), h.keep hM.fr h.t (by decide) (row_ne h.r h.t (by decide)), h.keep hM.fr h.x (by decide) (row_ne h.r h.x (by decide)), r1, h.keep hM.fr h.o (by decide) ?_, ?_, fun k9 e9 => hM.fr.own (h.bx k9 e9) (own_ne9 (h.bx k9 e9) h.own (by decide)) (own_blk_ne h.r (h.bx k9 e9) (by decide)), h.tks h.r (by decide) hM.fr⟩
  · cases hk : R.ownBlock with
    | none => exact .inl rfl
    | some k => exact .inr (fun x => h.ro k x.symm hk)
  · intro k hk hr
    rcases r2 with x | ⟨k', x, hk'⟩
    · exact h.ro k hk (by rw [← x]; exact hr)
    · rw [x] at hr
      injection hr with hr
      have := (h.o.lt k hk).2
      omega
theorem RS.appX (h : RS kb B g A T X R O nt nx nr no ts xs rs os b w) {news : List Value} {vb va : Value} (hM : GM w g 93 [A, T, X, R, .slice none 0 0, .slice none 0 0, .slice none 0 0, O, .bool b] 2 X B 71 4 nx xs news true true true true vb va w') : RS kb B g A T va R O nt (nx + 1) nr no ts (xs ++ news) rs os b w' := by
  obtain ⟨r1, r2⟩ := hM.yes rfl
  exact ⟨h.gB, hM.own, h.keep hM.fr h.a (by decide) (row_ne h.x h.a (by decide)), h.keep hM.fr h.t (by decide) (row_ne h.x h.t (by decide)), r1, h.keep hM.fr h.r (by decide) (row_ne h.x h.r (by decide)), h.keep hM.fr h.o (by decide) (row_ne h.x h.o (by decide)), h.ro, fun k9 e9 => hM.fr.own (h.bx k9 e9) (own_ne9 (h.bx k9 e9) h.own (by decide)) (own_blk_ne h.x (h.bx k9 e9) (by decide)), h.tks h.x (by decide) hM.fr⟩
end
theorem region_info : (Tryz.prog.info? 69).map (fun i => (i.zero, i.size, i.bytes)) = some (some (.agg #[.string ⟨#[]⟩, .int .i64 0, .int .i64 0, .slice none 0 0]), 4, 56) := by kernel_rfl
set_option maxRecDepth 100000 in
set_option maxHeartbeats 1000000 in
theorem beginRegion_yes {B g : Nat} {kb : Option Nat} {A T X R O : Value} {nt nx nr no : Nat} {ts xs rs os : List Value} (c : Bool) (nm : ByteArray) (w : World) (h : RS kb B g A T X R O nt nx nr no ts xs rs os true w) (hn1 : nr ≤ 100) (hn2 : no ≤ 30) (hn3 : nt ≤ 100) :
    Calls Tryz.prog 75 #[.pointer (some ⟨g, 0, none⟩), .agg #[.bool c, .string nm, .slice none 0 0]] w fun e w' => e = .returned (.int .i64 0) ∧ (∃ O', RS kb B g A T X R O' nt nx nr (no + 1) ts xs rs (os ++ [.string nm, .int .i64 (nt : Int), .int .i64 0, .slice none 0 0]) true w') ∧ Below B w w' := by
  obtain ⟨i0, hi0, hz0, hz1, hz2⟩ := info_parts region_info
  obtain ⟨AT, cT, rfl, -, -, -⟩ := Sl.of_own h.t
  obtain ⟨AR, cR, rfl, -, -, -⟩ := Sl.of_own h.r
  obtain ⟨AO, cO, rfl, -, -, -⟩ := Sl.of_own h.o
  have hB0 := h.size
  obtain ⟨o_c, hbw⟩ := new1 w [.bool c, .string nm, .slice none 0 0] 126
  replace h := h.below hbw
  have hlt := h.own.lt
  go_enter Tryz.func75, Tryz.ntmps75
  go_upto_region 1 with (fail)
  generalize hwb : (w.alloc (.cells #[.bool c, .string nm, .slice none 0 0] 126)) = wb at o_c hbw h hlt ⊢
  clear hwb
  have p3 : wb.cell? ⟨g, 3, none⟩ = some (.slice AR nr cR) := h.own.cell 3
  have p7 : wb.cell? ⟨g, 7, none⟩ = some (.slice AO no cO) := h.own.cell 7
  have p8 : wb.cell? ⟨g, 8, none⟩ = some (.bool true) := h.own.cell 8
  have z1 : IntKind.i64.wrap ((nr : Int) + (no : Int)) = (nr : Int) + (no : Int) := IntWalk.i64_in _ (by omega)
  have t1 : decide ((nr : Int) + (no : Int) ≥ 1024) = false := decide_eq_false (by omega)
  have t2 : decide ((1024 : Int) ≤ (nr : Int) + (no : Int)) = false := decide_eq_false (by omega)
  have t3 : decide ((no : Int) ≥ 40) = false := decide_eq_false (by omega)
  have t4 : decide ((40 : Int) ≤ (no : Int)) = false := decide_eq_false (by omega)
  have t5 : decide (40 ≤ no) = false := decide_eq_false (by omega)
  go_upto_region 3 with (fail)
  refine wp_reg_f [some 12, some 13, some 14, some 15, some 16, some 17, some 18, some 19, some 20, some 21, some 22, some 23, some 24, some 11] [?v5_0, ?v5_1, ?v5_2, ?v5_3, ?v5_4, ?v5_5, ?v5_6, ?v5_7, ?v5_8, ?v5_9, ?v5_10, ?v5_11, ?v5_12, ?v5_13] [[], [0], [1], [2], [3], [4], [], [6], [7], [8], [9], [5, 10], [11], [12]] [(0, _)] ⟨rfl, trivial⟩ rfl (by kernel_rfl) rfl rfl (by kernel_rfl) (by kernel_rfl) ⟨?s5_0, ?s5_1, ?s5_2, ?s5_3, ?s5_4, ?s5_5, ?s5_6, ?s5_7, ?s5_8, ?s5_9, ?s5_10, ?s5_11, ?s5_12, ?s5_13, trivial⟩ ?p5
  all_goals try (intro t9 w9 hT9 K9 hK9; simp only [OV, FV, List.getD_cons_succ, List.getD_cons_zero, Option.getD_some]; intros)
  case s5_0 | s5_1 | s5_2 | s5_3 | s5_4 | s5_5 | s5_6 | s5_7 | s5_8 | s5_9 | s5_10 | s5_11 | s5_12 | s5_13 =>
    have d9_0 := grow_cell hT9 p3; have d9_1 := grow_cell hT9 p7; have d9_2 := grow_cell hT9 p8
    go_simp
    exact hK9 _ (Grow.refl _)
  intro w9 hb9
  simp only [putL, Act.put, List.setIfInBounds_toArray, List.set_cons_succ, List.set_cons_zero]
  replace h := h.below hb9
  replace o_c := o_c.below hb9 o_c.lt
  have hbB : Below B w w9 := (hbw.mono hB0).trans (hb9.mono (by have := hbw.size; omega))
  clear hb9 p3 p7 p8 hlt hbw
  have p7 : w9.cell? ⟨g, 7, none⟩ = some (.slice AO no cO) := h.own.cell 7
  have hlt := h.own.lt
  go_upto_region 6 with (fail)
  clear t1 t2 t3 t4 t5 z1 p7
  obtain ⟨wm, hwm⟩ : ∃ x : World, x = w9 := ⟨_, rfl⟩
  rw [← hwm] at h o_c hbB hlt ⊢
  clear hwm w9
  have HGR := Lib.hid (h.ne h.o (by decide))
  have HLT := Lib.hid (fun k hk => (h.o.lt k hk).2)
  have HG0 := Lib.hid hlt
  have HB0 := Lib.hid h.size
  have HH := Lib.hid h
  have HC := Lib.hid o_c
  have hcg : w.heap.size ≠ g := by
    intro x
    subst x
    have h1 := h.own
    unfold Own at h1 o_c
    rw [o_c] at h1
    injection h1 with h1
    injection h1 with _ h1
    exact absurd h1 (by decide)
  have h63 : no + 1 ≤ maxLen := by unfold maxLen; omega
  have hby9 : (no + 1) * 56 ≤ 140737488355328 := by omega
  have HCC : Hid (∀ w', Fr wm g (Value.slice AO no cO).ownBlock w' → Own w' w.heap.size 126 [.bool c, .string nm, .slice none 0 0]) := fun w' hf => hf.own HC.out hcg (own_blk_ne h.o HC.out (by decide))
  clear h o_c hcg hlt
  refine wp_reg_m (fun _ _ => True) (fun L u w8 => GM wm g 93 [A, .slice AT nt cT, X, .slice AR nr cR, .slice none 0 0, .slice none 0 0, .slice none 0 0, .slice AO no cO, .bool true] 7 (.slice AO no cO) B 69 4 no (os) ([.string nm, .int .i64 (nt : Int), .int .i64 0, .slice none 0 0]) (L 4) (L 16) (L 17) (L 20) (u 16) (u 17) w8) ((fun _ => trivial)) ((fun _ _ _ _ _ => trivial)) [some 31, some 32, some 33, some 34, some 35, some 36, some 37, some 38, some 39, some 40, some 41, some 42, some 43, some 44, some 45, some 46, some 47, some 48, some 49, some 50, none] [isV ?v1_0, isV ?v1_1, isV ?v1_2, isV ?v1_3, isV (.slice AO no cO), isV ?v1_5, isV (.string nm), isV ?v1_7, isV ?v1_8, isV ?v1_9, isV ?v1_10, isV (.slice AT nt cT), isV ?v1_12, isV ?v1_13, isV (.slice none 0 0), isV ?v1_15, (fun _ _ => True), (fun _ _ => True), isV ?v1_18, isV ?v1_19, anyV] rfl (by kernel_rfl) rfl rfl ?n1 ?k1 ⟨?s1_0, ?s1_1, ?s1_2, ?s1_3, ?s1_4, ?s1_5, ?s1_6, ?s1_7, ?s1_8, ?s1_9, ?s1_10, ?s1_11, ?s1_12, ?s1_13, ?s1_14, ?s1_15, ?s1_16, ?s1_17, ?s1_18, ?s1_19, ?s1_20, trivial⟩ ?p1
  case s1_0 =>
    intro L9 u9 t9 w9 hT9 hL9 hD9 hV9 hO9 hM9 K9 hK9
    have o9_0 := hO9 0 _ (show List.contains _ _ = false from by kernel_rfl) rfl
    clear hV9 hO9
    clear hL9 hD9
    go_simp
    (refine hK9 _ _ ((fun _ => trivial) w9) ?_ hM9; exact rfl)
  case s1_1 =>
    intro L9 u9 t9 w9 hT9 hL9 hD9 hV9 hO9 hM9 K9 hK9
    have o9_0 := hO9 0 _ (show List.contains _ _ = false from by kernel_rfl) rfl
    clear hV9 hO9
    clear hL9 hD9
    go_simp
    (refine hK9 _ _ ((fun _ => trivial) w9) ?_ hM9; exact rfl)
  case s1_2 =>
    intro L9 u9 t9 w9 hT9 hL9 hD9 hV9 hO9 hM9 K9 hK9
    obtain ⟨x9_1, p9_1, q9_1⟩ := hV9 1 32 rfl rfl (of_decide_eq_true (by kernel_rfl))
    obtain ⟨q9_1, e9_1⟩ := q9_1
    obtain rfl : x9_1 = ?v1_1 := q9_1
    clear e9_1
    clear hV9 hO9
    clear hL9 hD9
    go_simp
    (refine hK9 _ _ ((fun _ => trivial) w9) ?_ hM9; exact rfl)
  case s1_3 =>
    intro L9 u9 t9 w9 hT9 hL9 hD9 hV9 hO9 hM9 K9 hK9
    obtain ⟨x9_2, p9_2, q9_2⟩ := hV9 2 33 rfl rfl (of_decide_eq_true (by kernel_rfl))
    obtain ⟨q9_2, e9_2⟩ := q9_2
    obtain rfl : x9_2 = ?v1_2 := q9_2
    clear e9_2
    clear hV9 hO9
    clear hL9 hD9
    go_simp
    (refine hK9 _ _ ((fun _ => trivial) w9) ?_ hM9; exact rfl)
  case s1_4 =>
    intro L9 u9 t9 w9 hT9 hL9 hD9 hV9 hO9 hM9 K9 hK9
    obtain ⟨x9_3, p9_3, q9_3⟩ := hV9 3 34 rfl rfl (of_decide_eq_true (by kernel_rfl))
    obtain ⟨q9_3, e9_3⟩ := q9_3
    obtain rfl : x9_3 = ?v1_3 := q9_3
    clear e9_3
    clear hV9 hO9
    have d9 : w9.cell? ⟨g, 7, none⟩ = some (.slice AO no cO) := hM9.cellf hL9
    go_simp
    exact hK9 _ _ trivial rfl hM9.s1
  case s1_5 =>
    intro L9 u9 t9 w9 hT9 hL9 hD9 hV9 hO9 hM9 K9 hK9
    have o9_3 := hO9 3 _ (show List.contains _ _ = false from by kernel_rfl) rfl
    clear hV9 hO9
    clear hL9 hD9
    go_simp
    (refine hK9 _ _ ((fun _ => trivial) w9) ?_ hM9; exact rfl)
  case s1_6 =>
    intro L9 u9 t9 w9 hT9 hL9 hD9 hV9 hO9 hM9 K9 hK9
    obtain ⟨x9_5, p9_5, q9_5⟩ := hV9 5 36 rfl rfl (of_decide_eq_true (by kernel_rfl))
    obtain ⟨q9_5, e9_5⟩ := q9_5
    obtain rfl : x9_5 = ?v1_5 := q9_5
    clear e9_5
    clear hV9 hO9
    have d9 : w9.cell? ⟨w.heap.size, 1, none⟩ = some (.string nm) := (HCC.out _ hM9.fr).cell 1
    go_simp
    exact hK9 _ _ trivial rfl hM9
  case s1_7 =>
    intro L9 u9 t9 w9 hT9 hL9 hD9 hV9 hO9 hM9 K9 hK9
    have o9_0 := hO9 0 _ (show List.contains _ _ = false from by kernel_rfl) rfl
    clear hV9 hO9
    clear hL9 hD9
    go_simp
    (refine hK9 _ _ ((fun _ => trivial) w9) ?_ hM9; exact rfl)
  case s1_8 =>
    intro L9 u9 t9 w9 hT9 hL9 hD9 hV9 hO9 hM9 K9 hK9
    obtain ⟨x9_7, p9_7, q9_7⟩ := hV9 7 38 rfl rfl (of_decide_eq_true (by kernel_rfl))
    obtain ⟨q9_7, e9_7⟩ := q9_7
    obtain rfl : x9_7 = ?v1_7 := q9_7
    clear e9_7
    clear hV9 hO9
    clear hL9 hD9
    go_simp
    (refine hK9 _ _ ((fun _ => trivial) w9) ?_ hM9; exact rfl)
  case s1_9 =>
    intro L9 u9 t9 w9 hT9 hL9 hD9 hV9 hO9 hM9 K9 hK9
    obtain ⟨x9_8, p9_8, q9_8⟩ := hV9 8 39 rfl rfl (of_decide_eq_true (by kernel_rfl))
    obtain ⟨q9_8, e9_8⟩ := q9_8
    obtain rfl : x9_8 = ?v1_8 := q9_8
    clear e9_8
    clear hV9 hO9
    clear hL9 hD9
    go_simp
    (refine hK9 _ _ ((fun _ => trivial) w9) ?_ hM9; exact rfl)
  case s1_10 =>
    intro L9 u9 t9 w9 hT9 hL9 hD9 hV9 hO9 hM9 K9 hK9
    obtain ⟨x9_9, p9_9, q9_9⟩ := hV9 9 40 rfl rfl (of_decide_eq_true (by kernel_rfl))
    obtain ⟨q9_9, e9_9⟩ := q9_9
    obtain rfl : x9_9 = ?v1_9 := q9_9
    clear e9_9
    clear hV9 hO9
    clear hL9 hD9
    go_simp
    (refine hK9 _ _ ((fun _ => trivial) w9) ?_ hM9; exact rfl)
  case s1_11 =>
    intro L9 u9 t9 w9 hT9 hL9 hD9 hV9 hO9 hM9 K9 hK9
    obtain ⟨x9_10, p9_10, q9_10⟩ := hV9 10 41 rfl rfl (of_decide_eq_true (by kernel_rfl))
    obtain ⟨q9_10, e9_10⟩ := q9_10
    obtain rfl : x9_10 = ?v1_10 := q9_10
    clear e9_10
    clear hV9 hO9
    have d9 : w9.cell? ⟨g, 1, none⟩ = some (.slice AT nt cT) := hM9.cell 1 (by decide)
    go_simp
    exact hK9 _ _ trivial rfl hM9
  case s1_12 =>
    intro L9 u9 t9 w9 hT9 hL9 hD9 hV9 hO9 hM9 K9 hK9
    obtain ⟨x9_11, p9_11, q9_11⟩ := hV9 11 42 rfl rfl (of_decide_eq_true (by kernel_rfl))
    obtain ⟨q9_11, e9_11⟩ := q9_11
    obtain rfl : x9_11 = (.slice AT nt cT) := q9_11
    clear e9_11
    clear hV9 hO9
    clear hL9 hD9
    go_simp
    (refine hK9 _ _ ((fun _ => trivial) w9) ?_ hM9; exact rfl)
  case s1_13 =>
    intro L9 u9 t9 w9 hT9 hL9 hD9 hV9 hO9 hM9 K9 hK9
    have o9_3 := hO9 3 _ (show List.contains _ _ = false from by kernel_rfl) rfl
    clear hV9 hO9
    clear hL9 hD9
    go_simp
    (refine hK9 _ _ ((fun _ => trivial) w9) ?_ hM9; exact rfl)
  case s1_14 =>
    intro L9 u9 t9 w9 hT9 hL9 hD9 hV9 hO9 hM9 K9 hK9
    obtain ⟨x9_13, p9_13, q9_13⟩ := hV9 13 44 rfl rfl (of_decide_eq_true (by kernel_rfl))
    obtain ⟨q9_13, e9_13⟩ := q9_13
    obtain rfl : x9_13 = ?v1_13 := q9_13
    clear e9_13
    clear hV9 hO9
    have d9 : w9.cell? ⟨w.heap.size, 2, none⟩ = some (.slice none 0 0) := (HCC.out _ hM9.fr).cell 2
    go_simp
    exact hK9 _ _ trivial rfl hM9
  case s1_15 =>
    intro L9 u9 t9 w9 hT9 hL9 hD9 hV9 hO9 hM9 K9 hK9
    obtain ⟨x9_6, p9_6, q9_6⟩ := hV9 6 37 rfl rfl (of_decide_eq_true (by kernel_rfl))
    obtain ⟨q9_6, e9_6⟩ := q9_6
    obtain rfl : x9_6 = (.string nm) := q9_6
    clear e9_6
    obtain ⟨x9_12, p9_12, q9_12⟩ := hV9 12 43 rfl rfl (of_decide_eq_true (by kernel_rfl))
    obtain ⟨q9_12, e9_12⟩ := q9_12
    obtain rfl : x9_12 = ?v1_12 := q9_12
    clear e9_12
    obtain ⟨x9_14, p9_14, q9_14⟩ := hV9 14 45 rfl rfl (of_decide_eq_true (by kernel_rfl))
    obtain ⟨q9_14, e9_14⟩ := q9_14
    obtain rfl : x9_14 = (.slice none 0 0) := q9_14
    clear e9_14
    clear hV9 hO9
    clear hL9 hD9
    go_simp
    (refine hK9 _ _ ((fun _ => trivial) w9) ?_ hM9; exact rfl)
  case s1_16 =>
    intro L9 u9 t9 w9 hT9 hL9 hD9 hV9 hO9 hM9 K9 hK9
    obtain ⟨x9_15, p9_15, q9_15⟩ := hV9 15 46 rfl rfl (of_decide_eq_true (by kernel_rfl))
    obtain ⟨q9_15, e9_15⟩ := q9_15
    obtain rfl : x9_15 = ?v1_15 := q9_15
    clear e9_15
    clear hV9 hO9
    go_simp
    exact hK9 _ _ trivial trivial (hM9.s2 hL9)
  case s1_17 =>
    intro L9 u9 t9 w9 hT9 hL9 hD9 hV9 hO9 hM9 K9 hK9
    obtain ⟨x9_4, p9_4, q9_4⟩ := hV9 4 35 rfl rfl (of_decide_eq_true (by kernel_rfl))
    obtain ⟨q9_4, e9_4⟩ := q9_4
    obtain rfl : x9_4 = (.slice AO no cO) := q9_4
    clear e9_4
    obtain ⟨x9_16, p9_16, q9_16⟩ := hV9 16 47 rfl rfl (of_decide_eq_true (by kernel_rfl))
    obtain ⟨q9_16, e9_16⟩ := q9_16
    replace q9_16 : ((fun _ _ => True)) x9_16 w9 := q9_16
    clear hV9 hO9
    obtain ⟨gb, hg, hgb, ho⟩ := hM9.bu (hD9 16 rfl)
    have e9 := e9_16
    rw [hg] at e9
    subst e9
    clear e9_16
    rw [if_pos (wanted_of rfl)]
    refine wp_append_at (.tmp 35) (.tmp 47) 25 rfl B 69 i0 _ 4 56 Tryz.underlying25 hi0 hz0 hz1 hz2 rfl (by decide) _ no (os) (eval_tmp p9_4) (hM9.no hL9) ⟨gb, 0, none⟩ 1 1 ([.string nm, .int .i64 (nt : Int), .int .i64 0, .slice none 0 0]) (eval_tmp p9_16) rfl (own_cells ho) (by simp [Value.oneCell']) h63 hby9 (by have := hM9.fr.size; have := HB0.out; omega) ?_
    intro v' w' hown' hgrow _ hat
    exact hK9 _ _ trivial trivial (hM9.s3 hL9 (hD9 16 rfl) (hD9 4 rfl) HGR.out HLT.out hown' hgrow hat)
  case s1_18 =>
    intro L9 u9 t9 w9 hT9 hL9 hD9 hV9 hO9 hM9 K9 hK9
    obtain ⟨x9_0, p9_0, q9_0⟩ := hV9 0 31 rfl rfl (of_decide_eq_true (by kernel_rfl))
    obtain ⟨q9_0, e9_0⟩ := q9_0
    obtain rfl : x9_0 = ?v1_0 := q9_0
    clear e9_0
    clear hV9 hO9
    clear hL9 hD9
    go_simp
    (refine hK9 _ _ ((fun _ => trivial) w9) ?_ hM9; exact rfl)
  case s1_19 =>
    intro L9 u9 t9 w9 hT9 hL9 hD9 hV9 hO9 hM9 K9 hK9
    obtain ⟨x9_18, p9_18, q9_18⟩ := hV9 18 49 rfl rfl (of_decide_eq_true (by kernel_rfl))
    obtain ⟨q9_18, e9_18⟩ := q9_18
    obtain rfl : x9_18 = ?v1_18 := q9_18
    clear e9_18
    clear hV9 hO9
    clear hL9 hD9
    go_simp
    (refine hK9 _ _ ((fun _ => trivial) w9) ?_ hM9; exact rfl)
  case s1_20 =>
    intro L9 u9 t9 w9 hT9 hL9 hD9 hV9 hO9 hM9 K9 hK9
    obtain ⟨x9_17, p9_17, q9_17⟩ := hV9 17 48 rfl rfl (of_decide_eq_true (by kernel_rfl))
    obtain ⟨q9_17, e9_17⟩ := q9_17
    replace q9_17 : ((fun _ _ => True)) x9_17 w9 := q9_17
    obtain ⟨x9_19, p9_19, q9_19⟩ := hV9 19 50 rfl rfl (of_decide_eq_true (by kernel_rfl))
    obtain ⟨q9_19, e9_19⟩ := q9_19
    obtain rfl : x9_19 = ?v1_19 := q9_19
    clear e9_19
    clear hV9 hO9
    obtain ⟨gq, capq, hq, -, -⟩ := (hM9.yes (hD9 17 rfl)).1.form (by omega)
    have e9 := e9_17
    rw [hq] at e9
    subst e9
    clear e9_17
    have hm9 := hM9.s4 hL9 (hD9 17 rfl) HGR.out HG0.out
    have d9 : w9.cell? ⟨g, 7, none⟩ = some (.slice AO no cO) := by have := hM9.own.cell 7; rw [hL9] at this; exact this
    have f9 := hM9.own.frozen 7
    have HM : Hid (GM wm g 93 [A, .slice AT nt cT, X, .slice AR nr cR, .slice none 0 0, .slice none 0 0, .slice none 0 0, .slice AO no cO, .bool true] 7 (.slice AO no cO) B 69 4 no (os) ([.string nm, .int .i64 (nt : Int), .int .i64 0, .slice none 0 0]) (L9 4) (L9 16) (L9 17) true (u9 16) (u9 17) (w9.setCell ⟨g, 7, none⟩ (.slice (some ⟨gq, 0, none⟩) (no + 1) capq))) := by
      rw [← hq]
      exact hm9
    clear hM9 hD9 hL9 hq hm9
    go_simp
    exact hK9 undef _ trivial trivial HM.out
  case n1 =>
    intro L9 u9 h9
    have h0 := h9 4 (by decide)
    have h1 := h9 16 (by decide)
    have h2 := h9 17 (by decide)
    have h3 := h9 20 (by decide)
    show GM wm g 93 [A, .slice AT nt cT, X, .slice AR nr cR, .slice none 0 0, .slice none 0 0, .slice none 0 0, .slice AO no cO, .bool true] 7 (.slice AO no cO) B 69 4 no (os) ([.string nm, .int .i64 (nt : Int), .int .i64 0, .slice none 0 0]) (L9 4) (L9 16) (L9 17) (L9 20) _ _ _
    rw [h0, h1, h2, h3]
    exact GM.start HH.out.own HH.out.o
  case k1 =>
    intro i9 v9 w9 x9 h9 g9
    match i9, h9 with
    | 0, h9 => exact h9
    | 1, h9 => exact h9
    | 2, h9 => exact h9
    | 3, h9 => exact h9
    | 4, h9 => exact h9
    | 5, h9 => exact h9
    | 6, h9 => exact h9
    | 7, h9 => exact h9
    | 8, h9 => exact h9
    | 9, h9 => exact h9
    | 10, h9 => exact h9
    | 11, h9 => exact h9
    | 12, h9 => exact h9
    | 13, h9 => exact h9
    | 14, h9 => exact h9
    | 15, h9 => exact h9
    | 16, h9 => (replace h9 : (fun _ _ => True) v9 w9 := h9); exact trivial
    | 17, h9 => (replace h9 : (fun _ _ => True) v9 w9 := h9); exact trivial
    | 18, h9 => exact h9
    | 19, h9 => exact h9
    | 20, h9 => exact h9
    | _ + 21, h9 => exact trivial
  intro u9 w9 hE9 hM9 hu9
  have r9_0 : u9 0 = ?v1_0 := hu9 0 (by decide)
  have r9_1 : u9 1 = ?v1_1 := hu9 1 (by decide)
  have r9_2 : u9 2 = ?v1_2 := hu9 2 (by decide)
  have r9_3 : u9 3 = ?v1_3 := hu9 3 (by decide)
  have r9_4 : u9 4 = (.slice AO no cO) := hu9 4 (by decide)
  have r9_5 : u9 5 = ?v1_5 := hu9 5 (by decide)
  have r9_6 : u9 6 = (.string nm) := hu9 6 (by decide)
  have r9_7 : u9 7 = ?v1_7 := hu9 7 (by decide)
  have r9_8 : u9 8 = ?v1_8 := hu9 8 (by decide)
  have r9_9 : u9 9 = ?v1_9 := hu9 9 (by decide)
  have r9_10 : u9 10 = ?v1_10 := hu9 10 (by decide)
  have r9_11 : u9 11 = (.slice AT nt cT) := hu9 11 (by decide)
  have r9_12 : u9 12 = ?v1_12 := hu9 12 (by decide)
  have r9_13 : u9 13 = ?v1_13 := hu9 13 (by decide)
  have r9_14 : u9 14 = (.slice none 0 0) := hu9 14 (by decide)
  have r9_15 : u9 15 = ?v1_15 := hu9 15 (by decide)
  have r9_16 : (fun _ _ => True) (u9 16) w9 := hu9 16 (by decide)
  have r9_17 : (fun _ _ => True) (u9 17) w9 := hu9 17 (by decide)
  have r9_18 : u9 18 = ?v1_18 := hu9 18 (by decide)
  have r9_19 : u9 19 = ?v1_19 := hu9 19 (by decide)
  clear hu9
  simp only [putAll, Act.put, List.setIfInBounds_toArray, List.set_cons_succ, List.set_cons_zero, List.getD_cons_succ, List.getD_cons_zero, Nat.reduceAdd, Nat.zero_add]
  simp only [r9_0, r9_1, r9_2, r9_3, r9_4, r9_5, r9_6, r9_7, r9_8, r9_9, r9_10, r9_11, r9_12, r9_13, r9_14, r9_15, r9_18, r9_19]
  clear r9_0 r9_1 r9_2 r9_3 r9_4 r9_5 r9_6 r9_7 r9_8 r9_9 r9_10 r9_11 r9_12 r9_13 r9_14 r9_15 r9_18 r9_19
  have hR := HH.out.appO hM9
  have hbf : Below B w w9 := hbB.trans (hM9.fr.bel HH.out.gB (fun k hk => (HH.out.o.lt k hk).1) HB0.out)
  clear hM9 hE9 r9_16 r9_17
  generalize u9 16 = y16
  generalize u9 17 = y17 at hR ⊢
  clear u9
  go_wp2
  go_ret
  exact ⟨rfl, ⟨_, hR⟩, hbf⟩
section
variable {B g : Nat} {kb : Option Nat} {A T X R O : Value} {nt nx nr no : Nat} {ts xs rs os : List Value} {b : Bool} {w w' : World}
theorem none_or {v : Value} {k : Nat} (h : v.ownBlock = none ∨ v.ownBlock ≠ some k) : v.ownBlock ≠ some k := by
  rcases h with h | h
  · rw [h]; intro x; cases x
  · exact h
/-- A cell of the lists of texts is stored. -/
theorem RS.setX {gx cx : Nat} (h : RS kb B g A T (.slice (some ⟨gx, 0, none⟩) nx cx) R O nt nx nr no ts xs rs os b w) (i : Nat) (v : Value) : RS kb B g A T (.slice (some ⟨gx, 0, none⟩) nx cx) R O nt nx nr no ts (xs.set i v) rs os b (w.setCell ⟨gx, i, none⟩ v) := by
  have hgx : gx ≠ g := fun x => h.ne h.x (by decide) (by subst x; rfl)
  refine ⟨h.gB, h.own.far (p := ⟨gx, i, none⟩) (Ne.symm hgx) v, ownsRow_setCell_other (a := ⟨gx, i, none⟩) h.a (none_or (row_ne h.a h.x (by decide))) v, ownsRow_setCell_other (a := ⟨gx, i, none⟩) h.t (none_or (row_ne h.t h.x (by decide))) v, (h.x.stored i v).1, ownsRow_setCell_other (a := ⟨gx, i, none⟩) h.r (none_or (row_ne h.r h.x (by decide))) v, ownsRow_setCell_other (a := ⟨gx, i, none⟩) h.o (none_or (row_ne h.o h.x (by decide))) v, h.ro, fun k9 e9 => (h.bx k9 e9).far (p := ⟨gx, i, none⟩) (fun x => own_blk_ne h.x (h.bx k9 e9) (by decide) (by rw [x]; rfl)) v, fun y hy => ?_⟩
  obtain ⟨s, h1, h2⟩ := h.tk y hy
  exact ⟨s, h1, ownsRow_setCell_other (a := ⟨gx, i, none⟩) h2 (none_or (row_ne h2 h.x (by decide))) v⟩
/-- A cell of another variable is stored. -/
theorem RS.setF (h : RS kb B g A T X R O nt nx nr no ts xs rs os b w) {k : Nat} {cs : List Value} (ho : Own w k 71 cs) (hk : k ≠ g) (hx : X.ownBlock ≠ some k) (i : Nat) (v : Value) : RS kb B g A T X R O nt nx nr no ts xs rs os b (w.setCell ⟨k, i, none⟩ v) := by
  refine ⟨h.gB, h.own.far (p := ⟨k, i, none⟩) (Ne.symm hk) v, ownsRow_setCell_other (a := ⟨k, i, none⟩) h.a (own_blk_ne h.a ho (by decide)) v, ownsRow_setCell_other (a := ⟨k, i, none⟩) h.t (own_blk_ne h.t ho (by decide)) v, ownsRow_setCell_other (a := ⟨k, i, none⟩) h.x hx v, ownsRow_setCell_other (a := ⟨k, i, none⟩) h.r (own_blk_ne h.r ho (by decide)) v, ownsRow_setCell_other (a := ⟨k, i, none⟩) h.o (own_blk_ne h.o ho (by decide)) v, h.ro, fun k9 e9 => (h.bx k9 e9).far (p := ⟨k, i, none⟩) (own_ne9 (h.bx k9 e9) ho (by decide)) v, fun y hy => ?_⟩
  obtain ⟨s, h1, h2⟩ := h.tk y hy
  exact ⟨s, h1, ownsRow_setCell_other (a := ⟨k, i, none⟩) h2 (own_blk_ne h2 ho (by decide)) v⟩
/-- The reader's last cell is stored. -/
theorem RS.setB (h : RS kb B g A T X R O nt nx nr no ts xs rs os b w) (b' : Bool) : RS kb B g A T X R O nt nx nr no ts xs rs os b' (w.setCell ⟨g, 8, none⟩ (.bool b')) := by
  refine ⟨h.gB, h.own.set_ 8 (.bool b'), ownsRow_setCell_other (a := ⟨g, 8, none⟩) h.a (h.ne h.a (by decide)) _, ownsRow_setCell_other (a := ⟨g, 8, none⟩) h.t (h.ne h.t (by decide)) _, ownsRow_setCell_other (a := ⟨g, 8, none⟩) h.x (h.ne h.x (by decide)) _, ownsRow_setCell_other (a := ⟨g, 8, none⟩) h.r (h.ne h.r (by decide)) _, ownsRow_setCell_other (a := ⟨g, 8, none⟩) h.o (h.ne h.o (by decide)) _, h.ro, fun k9 e9 => (h.bx k9 e9).far (p := ⟨g, 8, none⟩) (own_ne9 (h.bx k9 e9) h.own (by decide)) _, fun y hy => ?_⟩
  obtain ⟨s, h1, h2⟩ := h.tk y hy
  exact ⟨s, h1, ownsRow_setCell_other (a := ⟨g, 8, none⟩) h2 (h.ne h2 (by decide)) _⟩
end
set_option maxRecDepth 100000 in
set_option maxHeartbeats 1000000 in
theorem endText_yes {B g : Nat} {kb : Option Nat} {A T X R O : Value} {nt nr : Nat} {ts rs : List Value} (c : Bool) (nm tn : ByteArray) (w : World) (h : RS kb B g A T X R O nt 1 nr 0 ts [.string tn, .int .i64 0, .int .i64 (-1), .slice none 0 0] rs [] true w) (hn : 0 < nt) :
    Calls Tryz.prog 78 #[.pointer (some ⟨g, 0, none⟩), .agg #[.bool c, .string nm, .slice none 0 0]] w fun e w' => e = .returned (.int .i64 0) ∧ RS kb B g A T X R O nt 1 nr 0 ts [.string tn, .int .i64 0, .int .i64 (nt : Int), .slice none 0 0] rs [] false w' ∧ Below B w w' := by
  obtain ⟨AT, cT, rfl, -, -, -⟩ := Sl.of_own h.t
  obtain ⟨gx, cx, rfl, hgx, -⟩ := h.x.form (by decide)
  obtain ⟨AO, cO, rfl, -, -, -⟩ := Sl.of_own h.o
  have hB0 := h.size
  obtain ⟨o_c, hbw⟩ := new1 w [.bool c, .string nm, .slice none 0 0] 126
  replace h := h.below hbw
  have hlt := h.own.lt
  go_enter Tryz.func78, Tryz.ntmps78
  go_upto_region 1 with (fail)
  generalize hwb : (w.alloc (.cells #[.bool c, .string nm, .slice none 0 0] 126)) = wb at o_c hbw h hlt ⊢
  clear hwb o_c
  have p2 : wb.cell? ⟨g, 2, none⟩ = some (.slice (some ⟨gx, 0, none⟩) 1 cx) := h.own.cell 2
  have p7 : wb.cell? ⟨g, 7, none⟩ = some (.slice AO 0 cO) := h.own.cell 7
  have p8 : wb.cell? ⟨g, 8, none⟩ = some (.bool true) := h.own.cell 8
  have hw0 : IntKind.i64.wrap 0 = 0 := by decide
  go_upto_region 5 with (fail)
  refine wp_reg_f [some 19, some 20, some 21, some 22, some 23, some 24, some 25, some 26, some 27, some 28, some 29, some 30, some 31, some 5] [?v6_0, ?v6_1, ?v6_2, ?v6_3, ?v6_4, ?v6_5, ?v6_6, ?v6_7, ?v6_8, ?v6_9, ?v6_10, ?v6_11, ?v6_12, ?v6_13] [[], [0], [1], [2], [3], [], [5], [6], [7], [8], [9], [10], [4, 11], [12]] [(0, _)] ⟨rfl, trivial⟩ rfl (by kernel_rfl) rfl rfl (by kernel_rfl) (by kernel_rfl) ⟨?s6_0, ?s6_1, ?s6_2, ?s6_3, ?s6_4, ?s6_5, ?s6_6, ?s6_7, ?s6_8, ?s6_9, ?s6_10, ?s6_11, ?s6_12, ?s6_13, trivial⟩ ?p6
  all_goals try (intro t9 w9 hT9 K9 hK9; simp only [OV, FV, List.getD_cons_succ, List.getD_cons_zero, Option.getD_some]; intros)
  case s6_0 | s6_1 | s6_2 | s6_3 | s6_4 | s6_5 | s6_6 | s6_7 | s6_8 | s6_9 | s6_10 | s6_11 | s6_12 | s6_13 =>
    have d9_0 := grow_cell hT9 p2; have d9_1 := grow_cell hT9 p7; have d9_2 := grow_cell hT9 p8
    go_simp
    exact hK9 _ (Grow.refl _)
  intro w9 hb9
  simp only [putL, Act.put, List.setIfInBounds_toArray, List.set_cons_succ, List.set_cons_zero]
  replace h := h.below hb9
  have hbB : Below B w w9 := (hbw.mono hB0).trans (hb9.mono (by have := hbw.size; omega))
  obtain ⟨wm, hwm⟩ : ∃ x : World, x = w9 := ⟨_, rfl⟩
  rw [← hwm] at h hbB ⊢
  clear hwm hb9 w9 p2 p7 p8 hlt hbw
  have p1 : wm.cell? ⟨g, 1, none⟩ = some (.slice AT nt cT) := h.own.cell 1
  have c1 : wm.cell? ⟨gx, 1, none⟩ = some (.int .i64 0) := h.x.cellAt 1 (by decide)
  have t1 : ((0 : Int) == (nt : Int)) = false := beq_eq_false_iff_ne.2 (by omega)
  have t2 : decide ((0 : Int) = (nt : Int)) = false := decide_eq_false (by omega)
  have t3 : decide (0 = nt) = false := decide_eq_false (by omega)
  have t4 : (0 == nt) = false := beq_eq_false_iff_ne.2 (by omega)
  have t5 : ((nt : Int) == 0) = false := beq_eq_false_iff_ne.2 (by omega)
  go_upto_region 6 with (fail)
  refine wp_reg_f [some 32, some 33, some 34, some 35, some 36, some 37, some 38, some 39, some 40, some 41, some 42] [?v7_0, ?v7_1, ?v7_2, ?v7_3, ?v7_4, ?v7_5, ?v7_6, ?v7_7, ?v7_8, ?v7_9, ?v7_10] [[], [0], [1], [2], [], [4], [5], [6], [7], [8], [3, 9]] [(0, _), (5, _)] ⟨rfl, rfl, trivial⟩ rfl (by kernel_rfl) rfl rfl (by kernel_rfl) (by kernel_rfl) ⟨?s7_0, ?s7_1, ?s7_2, ?s7_3, ?s7_4, ?s7_5, ?s7_6, ?s7_7, ?s7_8, ?s7_9, ?s7_10, trivial⟩ ?p7
  all_goals try (intro t9 w9 hT9 K9 hK9; simp only [OV, FV, List.getD_cons_succ, List.getD_cons_zero, Option.getD_some]; intros)
  case s7_0 | s7_1 | s7_2 | s7_3 | s7_4 | s7_5 | s7_6 | s7_7 | s7_8 | s7_9 | s7_10 =>
    have d9_0 := grow_cell hT9 p1; have d9_1 := grow_cell hT9 c1
    go_simp
    exact hK9 _ (Grow.refl _)
  intro w9 hb9
  simp only [putL, Act.put, List.setIfInBounds_toArray, List.set_cons_succ, List.set_cons_zero]
  have hwm9 := h.own.lt
  replace hbB := hbB.trans (hb9.mono (by have := h.gB; omega))
  replace h := h.below hb9
  clear hb9 p1 c1 hwm9
  have p1 : w9.cell? ⟨g, 1, none⟩ = some (.slice AT nt cT) := h.own.cell 1
  have c2 : w9.cell? ⟨gx, 2, none⟩ = some (.int .i64 (-1)) := h.x.cellAt 2 (by decide)
  have f2 := h.x.frozenAt 2
  have h2 := h.setX 2 (.int .i64 (nt : Int))
  have hbB2 := hbB.setCell (p := ⟨gx, 2, none⟩) hgx (.int .i64 (nt : Int))
  have q8 : (w9.setCell ⟨gx, 2, none⟩ (.int .i64 (nt : Int))).cell? ⟨g, 8, none⟩ = some (.bool true) := h2.own.cell 8
  have f8 := h2.own.frozen 8
  have h3 := h2.setB false
  have hbB3 := hbB2.setCell (p := ⟨g, 8, none⟩) h.gB (.bool false)
  clear h h2 hbB hbB2
  go_wp2
  go_ret
  exact ⟨rfl, h3, hbB3⟩
theorem findText_none (v0 v1 v3 v4 v5 v6 : Value) (AX : Option Addr) (cX : Nat) (nm : ByteArray) : RetV 83 #[.agg #[v0, v1, .slice AX 0 cX, v3, v4, v5, v6], .string nm] (.int .i64 (-1)) := by
  intro w
  obtain ⟨o_c, hbw⟩ := new1 w [v0, v1, .slice AX 0 cX, v3, v4, v5, v6] 30
  go_enter Tryz.func83, Tryz.ntmps83
  go_upto_region 1 with (fail)
  generalize (w.alloc (.cells #[v0, v1, .slice AX 0 cX, v3, v4, v5, v6] 30)) = wb at o_c hbw ⊢
  have p2 : wb.cell? ⟨w.heap.size, 2, none⟩ = some (.slice AX 0 cX) := o_c.cell 2
  go_wp2_with fail
  refine wp_loop_rounds 1 ?_
  rw [rounds_succ]
  go_wp2
  go_ret
  exact ⟨rfl, hbw⟩
theorem text_info : (Tryz.prog.info? 71).map (fun i => (i.zero, i.size, i.bytes)) = some (some (.agg #[.string ⟨#[]⟩, .int .i64 0, .int .i64 0, .slice none 0 0]), 4, 56) := by kernel_rfl
set_option maxRecDepth 100000 in
set_option maxHeartbeats 1000000 in
theorem beginText_yes {B g : Nat} {kb : Option Nat} {A T X R O : Value} {ts xs rs os : List Value} {nr no : Nat} (nm tn : ByteArray) (gk ck : Nat) (w : World) (h : RS kb B g A T X R O 0 0 nr no ts xs rs os false w) (hk : Rd w (some ⟨gk, 0, none⟩) [.string ⟨#[105, 100]⟩, .string tn]) (hn1 : 1 ≤ tn.size) (hn2 : tn.size ≤ 32) (hn3 : Low tn 0 tn.size) :
    Calls Tryz.prog 77 #[.pointer (some ⟨g, 0, none⟩), .agg #[.bool false, .string nm, .slice (some ⟨gk, 0, none⟩) 1 ck]] w fun e w' => e = .returned (.int .i64 0) ∧ (∃ X', RS kb B g A T X' R O 0 1 nr no ts (xs ++ [.string tn, .int .i64 0, .int .i64 (-1), .slice none 0 0]) rs os true w') ∧ Below B w w' := by
  obtain ⟨i0, hi0, hz0, hz1, hz2⟩ := info_parts text_info
  obtain ⟨AX, cX, rfl, -, -, -⟩ := Sl.of_own h.x
  obtain ⟨AT, cT, rfl, -, -, -⟩ := Sl.of_own h.t
  have hB0 := h.size
  have HV := Lib.hid (validName_low tn hn1 hn2 hn3)
  clear hn1 hn2 hn3
  obtain ⟨o_c, hbw⟩ := new1 w [.bool false, .string nm, .slice (some ⟨gk, 0, none⟩) 1 ck] 126
  replace h := h.below hbw
  replace hk := hk.below hbw
  go_enter Tryz.func77, Tryz.ntmps77
  go_upto_region 1 with (fail)
  generalize hwb : (w.alloc (.cells #[.bool false, .string nm, .slice (some ⟨gk, 0, none⟩) 1 ck] 126)) = wb at o_c hbw h hk ⊢
  clear hwb
  have p1 : wb.cell? ⟨g, 1, none⟩ = some (.slice AT 0 cT) := h.own.cell 1
  have p2 : wb.cell? ⟨g, 2, none⟩ = some (.slice AX 0 cX) := h.own.cell 2
  have p8 : wb.cell? ⟨g, 8, none⟩ = some (.bool false) := h.own.cell 8
  go_upto_region 6 with (fail)
  have hxt : (Value.slice AX 0 cX).ownBlock ≠ some wb.heap.size := fun x => by have := (h.x.lt _ x).2; omega
  obtain ⟨o_t, hbt⟩ := new1 wb [.string ⟨#[]⟩, .int .i64 0, .int .i64 (-1), .slice none 0 0] 71
  have hbB : Below B w (wb.alloc (.cells #[.string ⟨#[]⟩, .int .i64 0, .int .i64 (-1), .slice none 0 0] 71)) := (hbw.mono hB0).trans (hbt.mono (by have := hbw.size; omega))
  replace h := h.below hbt
  replace hk := hk.below hbt
  replace o_c := o_c.below hbt o_c.lt
  have htg : wb.heap.size ≠ g := by have := p1; intro x; have h1 := h.own; unfold Own at h1 o_t; rw [← x, o_t] at h1; injection h1 with h1; injection h1 with _ h1; exact absurd h1 (by decide)
  have htB : B ≤ wb.heap.size := by have := hbw.size; omega
  clear p1 p2 p8 hbt
  generalize hgt : wb.heap.size = gt at o_t htg htB hxt ⊢
  generalize (wb.alloc (.cells #[.string ⟨#[]⟩, .int .i64 0, .int .i64 (-1), .slice none 0 0] 71)) = wc at o_t o_c h hk hbB ⊢
  clear hgt hbw
  have pc2 : wc.cell? ⟨w.heap.size, 2, none⟩ = some (.slice (some ⟨gk, 0, none⟩) 1 ck) := o_c.cell 2
  have pk0 : wc.cell? ⟨gk, 0, none⟩ = some (.string ⟨#[105, 100]⟩) := by
    obtain ⟨b9, off9, e9, h9⟩ := hk 0 _ rfl
    injection e9 with e9; injection e9 with e1 e2; subst e1 e2; exact h9
  have pk1 : wc.cell? ⟨gk, 1, none⟩ = some (.string tn) := by
    obtain ⟨b9, off9, e9, h9⟩ := hk 1 _ rfl
    injection e9 with e9; injection e9 with e1 e2; subst e1 e2; exact h9
  go_wp2_with fail
  refine wp_loop_rounds 2 ?_
  rw [rounds_succ]
  go_upto_region 10 with (fail)
  obtain ⟨o_p, hbp⟩ := new1 wc [.string ⟨#[105, 100]⟩, .string tn] 105
  replace h := h.below hbp
  replace o_t := o_t.below hbp o_t.lt
  replace hbB := hbB.trans (hbp.mono (by have := o_t.lt; have := h.size; have := hbB.size; omega))
  have hpt : wc.heap.size ≠ gt := by have := o_t.lt; intro x; subst x; have h1 := o_t; unfold Own at h1 o_p; rw [o_p] at h1; injection h1 with h1; injection h1 with _ h1; exact absurd h1 (by decide)
  clear pc2 pk0 pk1 o_c hk hbp
  generalize hgp : wc.heap.size = gp at o_p hpt ⊢
  generalize (wc.alloc (.cells #[.string ⟨#[105, 100]⟩, .string tn] 105)) = wd at o_t o_p h hbB ⊢
  clear hgp
  have qp0 : wd.cell? ⟨gp, 0, none⟩ = some (.string ⟨#[105, 100]⟩) := o_p.cell 0
  have qp1 : wd.cell? ⟨gp, 1, none⟩ = some (.string tn) := o_p.cell 1
  have qt0 : wd.cell? ⟨gt, 0, none⟩ = some (.string ⟨#[]⟩) := o_t.cell 0
  have ft0 := o_t.frozen 0
  have o_u : Own (wd.setCell ⟨gt, 0, none⟩ (.string tn)) gt 71 [.string tn, .int .i64 0, .int .i64 (-1), .slice none 0 0] := o_t.set_ 0 (.string tn)
  have h2 := h.setF o_t htg hxt 0 (.string tn)
  have hb2 := hbB.setCell (p := ⟨gt, 0, none⟩) htB (.string tn)
  go_wp2_with fail
  clear qp0 qp1 qt0 ft0 o_p hpt h o_t hbB
  generalize (wd.setCell ⟨gt, 0, none⟩ (.string tn)) = we at o_u h2 hb2 ⊢
  have qu0 : we.cell? ⟨gt, 0, none⟩ = some (.string tn) := o_u.cell 0
  rw [rounds_succ]
  go_wp2_with fail
  refine (HV.out _).mono ?_
  rintro e wf ⟨rfl, hbf⟩
  replace h2 := h2.below hbf
  replace o_u := o_u.below hbf o_u.lt
  replace hb2 := hb2.trans (hbf.mono (by have := hb2.size; omega))
  clear qu0 hbf
  have qu0 : wf.cell? ⟨gt, 0, none⟩ = some (.string tn) := o_u.cell 0
  have c0 : wf.cell? ⟨g, 0, none⟩ = some A := h2.own.cell 0
  have c1 : wf.cell? ⟨g, 1, none⟩ = some (.slice AT 0 cT) := h2.own.cell 1
  have c2 : wf.cell? ⟨g, 2, none⟩ = some (.slice AX 0 cX) := h2.own.cell 2
  have c3 : wf.cell? ⟨g, 3, none⟩ = some R := h2.own.cell 3
  have c4 : wf.cell? ⟨g, 4, none⟩ = some (.slice none 0 0) := h2.own.cell 4
  have c5 : wf.cell? ⟨g, 5, none⟩ = some (.slice none 0 0) := h2.own.cell 5
  have c6 : wf.cell? ⟨g, 6, none⟩ = some (.slice none 0 0) := h2.own.cell 6
  go_upto_region 18 with (fail)
  refine wp_reg_f [some 58, some 59, some 60, some 61, some 62, some 63, some 64, some 65, some 57] [?v8_0, ?v8_1, ?v8_2, ?v8_3, ?v8_4, ?v8_5, ?v8_6, ?v8_7, ?v8_8] [[], [0], [1], [2], [], [4], [3, 5], [6], [7]] [(0, _), (5, _)] ⟨rfl, rfl, trivial⟩ rfl (by kernel_rfl) rfl rfl (by kernel_rfl) (by kernel_rfl) ⟨?s8_0, ?s8_1, ?s8_2, ?s8_3, ?s8_4, ?s8_5, ?s8_6, ?s8_7, ?s8_8, trivial⟩ ?p8
  all_goals try (intro t9 w9 hT9 K9 hK9; simp only [OV, FV, List.getD_cons_succ, List.getD_cons_zero, Option.getD_some]; intros)
  case s8_0 | s8_1 | s8_2 | s8_3 | s8_4 | s8_5 =>
    have d9_0 := grow_cell hT9 qu0; have d9_1 := grow_cell hT9 c0; have d9_2 := grow_cell hT9 c1; have d9_3 := grow_cell hT9 c2; have d9_4 := grow_cell hT9 c3; have d9_5 := grow_cell hT9 c4; have d9_6 := grow_cell hT9 c5; have d9_7 := grow_cell hT9 c6
    go_simp
    exact hK9 _ (Grow.refl _)
  case s8_6 =>
    go_simp
    first | exact hK9 _ (Grow.refl _) | (refine (findText_none _ _ _ _ _ _ _ _ _ _).mono ?_; rintro _ w8 ⟨rfl, hb8⟩; exact hK9 _ hb8)
  case s8_7 | s8_8 =>
    have d9_0 := grow_cell hT9 qu0; have d9_1 := grow_cell hT9 c0; have d9_2 := grow_cell hT9 c1; have d9_3 := grow_cell hT9 c2; have d9_4 := grow_cell hT9 c3; have d9_5 := grow_cell hT9 c4; have d9_6 := grow_cell hT9 c5; have d9_7 := grow_cell hT9 c6
    go_simp
    exact hK9 _ (Grow.refl _)
  intro w9 hb9
  simp only [putL, Act.put, List.setIfInBounds_toArray, List.set_cons_succ, List.set_cons_zero]
  replace h2 := h2.below hb9
  replace o_u := o_u.below hb9 o_u.lt
  replace hb2 := hb2.trans (hb9.mono (by have := hb2.size; omega))
  obtain ⟨wm, hwm⟩ : ∃ x : World, x = w9 := ⟨_, rfl⟩
  rw [← hwm] at h2 o_u hb2 ⊢
  clear hwm hb9 w9 qu0 c0 c1 c2 c3 c4 c5 c6
  have HGR := Lib.hid (h2.ne h2.x (by decide))
  have HLT := Lib.hid (fun k hk => (h2.x.lt k hk).2)
  have HG0 := Lib.hid h2.own.lt
  have HB0 := Lib.hid h2.size
  have HH := Lib.hid h2
  have h63 : 0 + 1 ≤ maxLen := by unfold maxLen; omega
  have hby9 : (0 + 1) * 56 ≤ 140737488355328 := by omega
  have HCC : Hid (∀ w', Fr wm g (Value.slice AX 0 cX).ownBlock w' → Own w' gt 71 [.string tn, .int .i64 0, .int .i64 (-1), .slice none 0 0]) := fun w' hf => hf.own o_u htg hxt
  clear h2 o_u htg htB
  go_upto_region 20 with (fail)
  refine wp_reg_m (fun _ _ => True) (fun L u w8 => GM wm g 93 [A, .slice AT 0 cT, .slice AX 0 cX, R, .slice none 0 0, .slice none 0 0, .slice none 0 0, O, .bool false] 2 (.slice AX 0 cX) B 71 4 0 (xs) ([.string tn, .int .i64 0, .int .i64 (-1), .slice none 0 0]) (L 5) (L 7) (L 8) (L 12) (u 7) (u 8) w8) ((fun _ => trivial)) ((fun _ _ _ _ _ => trivial)) [some 66, some 67, some 68, some 69, some 70, some 71, some 72, some 73, some 74, some 75, some 76, some 77, none] [isV ?v2_0, isV ?v2_1, isV ?v2_2, isV ?v2_3, isV ?v2_4, isV (.slice AX 0 cX), isV (.agg #[.string tn, .int .i64 0, .int .i64 (-1), .slice none 0 0]), (fun _ _ => True), (fun _ _ => True), isV ?v2_9, isV ?v2_10, isV ?v2_11, anyV] rfl (by kernel_rfl) rfl rfl ?n2 ?k2 ⟨?s2_0, ?s2_1, ?s2_2, ?s2_3, ?s2_4, ?s2_5, ?s2_6, ?s2_7, ?s2_8, ?s2_9, ?s2_10, ?s2_11, ?s2_12, trivial⟩ ?p2
  case s2_0 =>
    intro L9 u9 t9 w9 hT9 hL9 hD9 hV9 hO9 hM9 K9 hK9
    have o9_0 := hO9 0 _ (show List.contains _ _ = false from by kernel_rfl) rfl
    clear hV9 hO9
    clear hL9 hD9
    go_simp
    (refine hK9 _ _ ((fun _ => trivial) w9) ?_ hM9; exact rfl)
  case s2_1 =>
    intro L9 u9 t9 w9 hT9 hL9 hD9 hV9 hO9 hM9 K9 hK9
    have o9_0 := hO9 0 _ (show List.contains _ _ = false from by kernel_rfl) rfl
    clear hV9 hO9
    clear hL9 hD9
    go_simp
    (refine hK9 _ _ ((fun _ => trivial) w9) ?_ hM9; exact rfl)
  case s2_2 =>
    intro L9 u9 t9 w9 hT9 hL9 hD9 hV9 hO9 hM9 K9 hK9
    obtain ⟨x9_1, p9_1, q9_1⟩ := hV9 1 67 rfl rfl (of_decide_eq_true (by kernel_rfl))
    obtain ⟨q9_1, e9_1⟩ := q9_1
    obtain rfl : x9_1 = ?v2_1 := q9_1
    clear e9_1
    clear hV9 hO9
    clear hL9 hD9
    go_simp
    (refine hK9 _ _ ((fun _ => trivial) w9) ?_ hM9; exact rfl)
  case s2_3 =>
    intro L9 u9 t9 w9 hT9 hL9 hD9 hV9 hO9 hM9 K9 hK9
    obtain ⟨x9_2, p9_2, q9_2⟩ := hV9 2 68 rfl rfl (of_decide_eq_true (by kernel_rfl))
    obtain ⟨q9_2, e9_2⟩ := q9_2
    obtain rfl : x9_2 = ?v2_2 := q9_2
    clear e9_2
    clear hV9 hO9
    clear hL9 hD9
    go_simp
    (refine hK9 _ _ ((fun _ => trivial) w9) ?_ hM9; exact rfl)
  case s2_4 =>
    intro L9 u9 t9 w9 hT9 hL9 hD9 hV9 hO9 hM9 K9 hK9
    obtain ⟨x9_3, p9_3, q9_3⟩ := hV9 3 69 rfl rfl (of_decide_eq_true (by kernel_rfl))
    obtain ⟨q9_3, e9_3⟩ := q9_3
    obtain rfl : x9_3 = ?v2_3 := q9_3
    clear e9_3
    clear hV9 hO9
    clear hL9 hD9
    go_simp
    (refine hK9 _ _ ((fun _ => trivial) w9) ?_ hM9; exact rfl)
  case s2_5 =>
    intro L9 u9 t9 w9 hT9 hL9 hD9 hV9 hO9 hM9 K9 hK9
    obtain ⟨x9_4, p9_4, q9_4⟩ := hV9 4 70 rfl rfl (of_decide_eq_true (by kernel_rfl))
    obtain ⟨q9_4, e9_4⟩ := q9_4
    obtain rfl : x9_4 = ?v2_4 := q9_4
    clear e9_4
    clear hV9 hO9
    have d9 : w9.cell? ⟨g, 2, none⟩ = some (.slice AX 0 cX) := hM9.cellf hL9
    go_simp
    exact hK9 _ _ trivial rfl hM9.s1
  case s2_6 =>
    intro L9 u9 t9 w9 hT9 hL9 hD9 hV9 hO9 hM9 K9 hK9
    have o9_5 := hO9 5 _ (show List.contains _ _ = false from by kernel_rfl) rfl
    clear hV9 hO9
    have dd := HCC.out _ hM9.fr
    have d0 : w9.cell? ⟨gt, 0, none⟩ = some (.string tn) := dd.cell 0
    have d1 : w9.cell? ⟨gt, 1, none⟩ = some (.int .i64 0) := dd.cell 1
    have d2 : w9.cell? ⟨gt, 2, none⟩ = some (.int .i64 (-1)) := dd.cell 2
    have d3 : w9.cell? ⟨gt, 3, none⟩ = some (.slice none 0 0) := dd.cell 3
    go_simp
    exact hK9 _ _ trivial rfl hM9
  case s2_7 =>
    intro L9 u9 t9 w9 hT9 hL9 hD9 hV9 hO9 hM9 K9 hK9
    obtain ⟨x9_6, p9_6, q9_6⟩ := hV9 6 72 rfl rfl (of_decide_eq_true (by kernel_rfl))
    obtain ⟨q9_6, e9_6⟩ := q9_6
    obtain rfl : x9_6 = (.agg #[.string tn, .int .i64 0, .int .i64 (-1), .slice none 0 0]) := q9_6
    clear e9_6
    clear hV9 hO9
    go_simp
    exact hK9 _ _ trivial trivial (hM9.s2 hL9)
  case s2_8 =>
    intro L9 u9 t9 w9 hT9 hL9 hD9 hV9 hO9 hM9 K9 hK9
    obtain ⟨x9_5, p9_5, q9_5⟩ := hV9 5 71 rfl rfl (of_decide_eq_true (by kernel_rfl))
    obtain ⟨q9_5, e9_5⟩ := q9_5
    obtain rfl : x9_5 = (.slice AX 0 cX) := q9_5
    clear e9_5
    obtain ⟨x9_7, p9_7, q9_7⟩ := hV9 7 73 rfl rfl (of_decide_eq_true (by kernel_rfl))
    obtain ⟨q9_7, e9_7⟩ := q9_7
    replace q9_7 : ((fun _ _ => True)) x9_7 w9 := q9_7
    clear hV9 hO9
    obtain ⟨gb, hg, hgb, ho⟩ := hM9.bu (hD9 7 rfl)
    have e9 := e9_7
    rw [hg] at e9
    subst e9
    clear e9_7
    rw [if_pos (wanted_of rfl)]
    refine wp_append_at (.tmp 71) (.tmp 73) 24 rfl B 71 i0 _ 4 56 Tryz.underlying24 hi0 hz0 hz1 hz2 rfl (by decide) _ 0 (xs) (eval_tmp p9_5) (hM9.no hL9) ⟨gb, 0, none⟩ 1 1 ([.string tn, .int .i64 0, .int .i64 (-1), .slice none 0 0]) (eval_tmp p9_7) rfl (own_cells ho) (by simp [Value.oneCell']) h63 hby9 (by have := hM9.fr.size; have := HB0.out; omega) ?_
    intro v' w' hown' hgrow _ hat
    exact hK9 _ _ trivial trivial (hM9.s3 hL9 (hD9 7 rfl) (hD9 5 rfl) HGR.out HLT.out hown' hgrow hat)
  case s2_9 =>
    intro L9 u9 t9 w9 hT9 hL9 hD9 hV9 hO9 hM9 K9 hK9
    obtain ⟨x9_0, p9_0, q9_0⟩ := hV9 0 66 rfl rfl (of_decide_eq_true (by kernel_rfl))
    obtain ⟨q9_0, e9_0⟩ := q9_0
    obtain rfl : x9_0 = ?v2_0 := q9_0
    clear e9_0
    clear hV9 hO9
    clear hL9 hD9
    go_simp
    (refine hK9 _ _ ((fun _ => trivial) w9) ?_ hM9; exact rfl)
  case s2_10 =>
    intro L9 u9 t9 w9 hT9 hL9 hD9 hV9 hO9 hM9 K9 hK9
    obtain ⟨x9_9, p9_9, q9_9⟩ := hV9 9 75 rfl rfl (of_decide_eq_true (by kernel_rfl))
    obtain ⟨q9_9, e9_9⟩ := q9_9
    obtain rfl : x9_9 = ?v2_9 := q9_9
    clear e9_9
    clear hV9 hO9
    clear hL9 hD9
    go_simp
    (refine hK9 _ _ ((fun _ => trivial) w9) ?_ hM9; exact rfl)
  case s2_11 =>
    intro L9 u9 t9 w9 hT9 hL9 hD9 hV9 hO9 hM9 K9 hK9
    obtain ⟨x9_10, p9_10, q9_10⟩ := hV9 10 76 rfl rfl (of_decide_eq_true (by kernel_rfl))
    obtain ⟨q9_10, e9_10⟩ := q9_10
    obtain rfl : x9_10 = ?v2_10 := q9_10
    clear e9_10
    clear hV9 hO9
    clear hL9 hD9
    go_simp
    (refine hK9 _ _ ((fun _ => trivial) w9) ?_ hM9; exact rfl)
  case s2_12 =>
    intro L9 u9 t9 w9 hT9 hL9 hD9 hV9 hO9 hM9 K9 hK9
    obtain ⟨x9_8, p9_8, q9_8⟩ := hV9 8 74 rfl rfl (of_decide_eq_true (by kernel_rfl))
    obtain ⟨q9_8, e9_8⟩ := q9_8
    replace q9_8 : ((fun _ _ => True)) x9_8 w9 := q9_8
    obtain ⟨x9_11, p9_11, q9_11⟩ := hV9 11 77 rfl rfl (of_decide_eq_true (by kernel_rfl))
    obtain ⟨q9_11, e9_11⟩ := q9_11
    obtain rfl : x9_11 = ?v2_11 := q9_11
    clear e9_11
    clear hV9 hO9
    obtain ⟨gq, capq, hq, -, -⟩ := (hM9.yes (hD9 8 rfl)).1.form (by omega)
    have e9 := e9_8
    rw [hq] at e9
    subst e9
    clear e9_8
    have hm9 := hM9.s4 hL9 (hD9 8 rfl) HGR.out HG0.out
    have d9 : w9.cell? ⟨g, 2, none⟩ = some (.slice AX 0 cX) := by have := hM9.own.cell 2; rw [hL9] at this; exact this
    have f9 := hM9.own.frozen 2
    have HM : Hid (GM wm g 93 [A, .slice AT 0 cT, .slice AX 0 cX, R, .slice none 0 0, .slice none 0 0, .slice none 0 0, O, .bool false] 2 (.slice AX 0 cX) B 71 4 0 (xs) ([.string tn, .int .i64 0, .int .i64 (-1), .slice none 0 0]) (L9 5) (L9 7) (L9 8) true (u9 7) (u9 8) (w9.setCell ⟨g, 2, none⟩ (.slice (some ⟨gq, 0, none⟩) (0 + 1) capq))) := by
      rw [← hq]
      exact hm9
    clear hM9 hD9 hL9 hq hm9
    go_simp
    exact hK9 undef _ trivial trivial HM.out
  case n2 =>
    intro L9 u9 h9
    have h0 := h9 5 (by decide)
    have h1 := h9 7 (by decide)
    have h2 := h9 8 (by decide)
    have h3 := h9 12 (by decide)
    show GM wm g 93 [A, .slice AT 0 cT, .slice AX 0 cX, R, .slice none 0 0, .slice none 0 0, .slice none 0 0, O, .bool false] 2 (.slice AX 0 cX) B 71 4 0 (xs) ([.string tn, .int .i64 0, .int .i64 (-1), .slice none 0 0]) (L9 5) (L9 7) (L9 8) (L9 12) _ _ _
    rw [h0, h1, h2, h3]
    exact GM.start HH.out.own HH.out.x
  case k2 =>
    intro i9 v9 w9 x9 h9 g9
    match i9, h9 with
    | 0, h9 => exact h9
    | 1, h9 => exact h9
    | 2, h9 => exact h9
    | 3, h9 => exact h9
    | 4, h9 => exact h9
    | 5, h9 => exact h9
    | 6, h9 => exact h9
    | 7, h9 => (replace h9 : (fun _ _ => True) v9 w9 := h9); exact trivial
    | 8, h9 => (replace h9 : (fun _ _ => True) v9 w9 := h9); exact trivial
    | 9, h9 => exact h9
    | 10, h9 => exact h9
    | 11, h9 => exact h9
    | 12, h9 => exact h9
    | _ + 13, h9 => exact trivial
  intro u9 w9 hE9 hM9 hu9
  have r9_0 : u9 0 = ?v2_0 := hu9 0 (by decide)
  have r9_1 : u9 1 = ?v2_1 := hu9 1 (by decide)
  have r9_2 : u9 2 = ?v2_2 := hu9 2 (by decide)
  have r9_3 : u9 3 = ?v2_3 := hu9 3 (by decide)
  have r9_4 : u9 4 = ?v2_4 := hu9 4 (by decide)
  have r9_5 : u9 5 = (.slice AX 0 cX) := hu9 5 (by decide)
  have r9_6 : u9 6 = (.agg #[.string tn, .int .i64 0, .int .i64 (-1), .slice none 0 0]) := hu9 6 (by decide)
  have r9_7 : (fun _ _ => True) (u9 7) w9 := hu9 7 (by decide)
  have r9_8 : (fun _ _ => True) (u9 8) w9 := hu9 8 (by decide)
  have r9_9 : u9 9 = ?v2_9 := hu9 9 (by decide)
  have r9_10 : u9 10 = ?v2_10 := hu9 10 (by decide)
  have r9_11 : u9 11 = ?v2_11 := hu9 11 (by decide)
  clear hu9
  simp only [putAll, Act.put, List.setIfInBounds_toArray, List.set_cons_succ, List.set_cons_zero, List.getD_cons_succ, List.getD_cons_zero, Nat.reduceAdd, Nat.zero_add]
  simp only [r9_0, r9_1, r9_2, r9_3, r9_4, r9_5, r9_6, r9_9, r9_10, r9_11]
  clear r9_0 r9_1 r9_2 r9_3 r9_4 r9_5 r9_6 r9_9 r9_10 r9_11
  have hR := HH.out.appX hM9
  have hbf := hb2.trans (hM9.fr.bel HH.out.gB (fun k hk => (HH.out.x.lt k hk).1) HB0.out)
  clear hM9 hE9 r9_7 r9_8
  generalize u9 7 = y7
  generalize u9 8 = y8 at hR ⊢
  clear u9
  have q8 : w9.cell? ⟨g, 8, none⟩ = some (.bool false) := hR.own.cell 8
  have f8 := hR.own.frozen 8
  have h3 := hR.setB true
  have hb3 := hbf.setCell (p := ⟨g, 8, none⟩) HH.out.gB (.bool true)
  clear hR hbf
  go_wp2
  go_ret
  exact ⟨rfl, ⟨_, h3⟩, hb3⟩
theorem ownsRow_cut {w : World} {base gq cap n size : Nat} {e : TypeId} {xs : List Value} (h : w.ownsRow base e size (.slice (some ⟨gq, 0, none⟩) n cap) n xs) : w.ownsRow base e size (.slice (some ⟨gq, 0, none⟩) 0 cap) 0 [] := by
  obtain ⟨h1, h2⟩ := h
  refine ⟨by simp, ?_⟩
  rcases h2 with ⟨h2, -⟩ | ⟨g, cap', cur, e1, e2, e3, e4, e5, e6, e7⟩
  · cases h2
  · injection e1 with e1 _ e1'
    injection e1 with e1
    injection e1 with e1
    subst e1 e1'
    exact .inr ⟨gq, cap, cur, rfl, e2, e3, Nat.zero_le _, e5, e6, by simp⟩
section
variable {B g : Nat} {kb : Option Nat} {A T X R O : Value} {nt nx nr no : Nat} {ts xs rs os : List Value} {b : Bool} {w w' : World}
/-- A cell of a region is stored that is no part of the lists. -/
theorem RS.setG (h : RS kb B g A T X R O nt nx nr no ts xs rs os b w) {k : Nat} {cs : List Value} (ho : Own w k 69 cs) (hk : k ≠ g) (h1 : R.ownBlock ≠ some k) (h2 : O.ownBlock ≠ some k) (i : Nat) (v : Value) : RS kb B g A T X R O nt nx nr no ts xs rs os b (w.setCell ⟨k, i, none⟩ v) := by
  refine ⟨h.gB, h.own.far (p := ⟨k, i, none⟩) (Ne.symm hk) v, ownsRow_setCell_other (a := ⟨k, i, none⟩) h.a (own_blk_ne h.a ho (by decide)) v, ownsRow_setCell_other (a := ⟨k, i, none⟩) h.t (own_blk_ne h.t ho (by decide)) v, ownsRow_setCell_other (a := ⟨k, i, none⟩) h.x (own_blk_ne h.x ho (by decide)) v, ownsRow_setCell_other (a := ⟨k, i, none⟩) h.r h1 v, ownsRow_setCell_other (a := ⟨k, i, none⟩) h.o h2 v, h.ro, fun k9 e9 => (h.bx k9 e9).far (p := ⟨k, i, none⟩) (own_ne9 (h.bx k9 e9) ho (by decide)) v, fun y hy => ?_⟩
  obtain ⟨s, e1, e2⟩ := h.tk y hy
  exact ⟨s, e1, ownsRow_setCell_other (a := ⟨k, i, none⟩) e2 (own_blk_ne e2 ho (by decide)) v⟩
/-- The open regions are cut off. -/
theorem RS.cutO {go co : Nat} (h : RS kb B g A T X R (.slice (some ⟨go, 0, none⟩) no co) nt nx nr no ts xs rs os b w) : RS kb B g A T X R (.slice (some ⟨go, 0, none⟩) 0 co) nt nx nr 0 ts xs rs [] b (w.setCell ⟨g, 7, none⟩ (.slice (some ⟨go, 0, none⟩) 0 co)) := by
  refine ⟨h.gB, h.own.set_ 7 _, ownsRow_setCell_other (a := ⟨g, 7, none⟩) h.a (h.ne h.a (by decide)) _, ownsRow_setCell_other (a := ⟨g, 7, none⟩) h.t (h.ne h.t (by decide)) _, ownsRow_setCell_other (a := ⟨g, 7, none⟩) h.x (h.ne h.x (by decide)) _, ownsRow_setCell_other (a := ⟨g, 7, none⟩) h.r (h.ne h.r (by decide)) _, ownsRow_cut (ownsRow_setCell_other (a := ⟨g, 7, none⟩) h.o (h.ne h.o (by decide)) _), h.ro, fun k9 e9 => (h.bx k9 e9).far (p := ⟨g, 7, none⟩) (own_ne9 (h.bx k9 e9) h.own (by decide)) _, fun y hy => ?_⟩
  obtain ⟨s, h1, h2⟩ := h.tk y hy
  exact ⟨s, h1, ownsRow_setCell_other (a := ⟨g, 7, none⟩) h2 (h.ne h2 (by decide)) _⟩
end
set_option maxRecDepth 100000 in
set_option maxHeartbeats 1000000 in
theorem endRegion_yes {B g : Nat} {kb : Option Nat} {A T X R O : Value} {nt nx nr : Nat} {ts xs rs : List Value} (c : Bool) (nm : ByteArray) (w : World) (h : RS kb B g A T X R O nt nx nr 1 ts xs rs [.string nm, .int .i64 0, .int .i64 0, .slice none 0 0] true w) (hn : 0 < nt) (hn1 : nt ≤ 100) (hn2 : nr ≤ 100) :
    Calls Tryz.prog 76 #[.pointer (some ⟨g, 0, none⟩), .agg #[.bool c, .string nm, .slice none 0 0]] w fun e w' => e = .returned (.int .i64 0) ∧ (∃ R' O', RS kb B g A T X R' O' nt nx (nr + 1) 0 ts xs (rs ++ [.string nm, .int .i64 0, .int .i64 (nt : Int), .slice none 0 0]) [] true w') ∧ Below B w w' := by
  obtain ⟨i0, hi0, hz0, hz1, hz2⟩ := info_parts region_info
  obtain ⟨AT, cT, rfl, -, -, -⟩ := Sl.of_own h.t
  obtain ⟨AR, cR, rfl, -, -, -⟩ := Sl.of_own h.r
  obtain ⟨go, co, rfl, hgo, -⟩ := h.o.form (by decide)
  have hco : 1 ≤ co := by
    obtain ⟨A9, c9, e9, h9, -⟩ := own_form h.o
    injection e9 with _ _ e9
    subst e9
    exact h9
  have hB0 := h.size
  obtain ⟨o_c, hbw⟩ := new1 w [.bool c, .string nm, .slice none 0 0] 126
  replace h := h.below hbw
  go_enter Tryz.func76, Tryz.ntmps76
  go_upto_region 1 with (fail)
  generalize hwb : (w.alloc (.cells #[.bool c, .string nm, .slice none 0 0] 126)) = wb at o_c hbw h ⊢
  clear hwb
  have p7 : wb.cell? ⟨g, 7, none⟩ = some (.slice (some ⟨go, 0, none⟩) 1 co) := h.own.cell 7
  have p8 : wb.cell? ⟨g, 8, none⟩ = some (.bool true) := h.own.cell 8
  have q0 : wb.cell? ⟨go, 0, none⟩ = some (.string nm) := h.o.cellAt 0 (by decide)
  have qc : wb.cell? ⟨w.heap.size, 1, none⟩ = some (.string nm) := o_c.cell 1
  have hw0 : IntKind.i64.wrap 0 = 0 := by decide
  go_wp2_with fail
  refine wp_loop_rounds 1 ?_
  rw [rounds_succ]
  go_upto_region 4 with (fail)
  refine wp_reg_f [some 18, some 19, some 20, some 21, some 22, some 23, some 24, some 25, some 26, some 27, some 28, some 29, some 30, some 31, some 32] [?v9_0, ?v9_1, ?v9_2, ?v9_3, ?v9_4, ?v9_5, ?v9_6, ?v9_7, ?v9_8, ?v9_9, ?v9_10, ?v9_11, ?v9_12, ?v9_13, ?v9_14] [[], [0], [1], [2], [2, 3], [2, 4], [2, 5], [2], [2, 6, 7], [2, 8], [2, 9], [2], [2, 11], [2, 10, 12], [2, 13]] [(0, _), (3, _), (5, _)] ⟨rfl, rfl, rfl, trivial⟩ rfl (by kernel_rfl) rfl rfl (by kernel_rfl) (by kernel_rfl) ⟨?s9_0, ?s9_1, ?s9_2, ?s9_3, ?s9_4, ?s9_5, ?s9_6, ?s9_7, ?s9_8, ?s9_9, ?s9_10, ?s9_11, ?s9_12, ?s9_13, ?s9_14, trivial⟩ ?p9
  all_goals try (intro t9 w9 hT9 K9 hK9; simp only [OV, FV, List.getD_cons_succ, List.getD_cons_zero, Option.getD_some]; intros)
  case s9_0 | s9_1 | s9_2 | s9_3 | s9_4 | s9_5 | s9_6 | s9_7 | s9_8 | s9_9 | s9_10 | s9_11 | s9_12 | s9_13 | s9_14 =>
    have d9_0 := grow_cell hT9 p7; have d9_1 := grow_cell hT9 q0; have d9_2 := grow_cell hT9 qc
    go_simp
    exact hK9 _ (Grow.refl _)
  intro w9 hb9
  simp only [putL, Act.put, List.setIfInBounds_toArray, List.set_cons_succ, List.set_cons_zero]
  replace h := h.below hb9
  have hbB : Below B w w9 := (hbw.mono hB0).trans (hb9.mono (by have := hbw.size; omega))
  obtain ⟨wc, hwc⟩ : ∃ x : World, x = w9 := ⟨_, rfl⟩
  rw [← hwc] at h hbB ⊢
  clear hwc hb9 w9 p7 p8 q0 qc o_c hbw
  have p7 : wc.cell? ⟨g, 7, none⟩ = some (.slice (some ⟨go, 0, none⟩) 1 co) := h.own.cell 7
  have q0 : wc.cell? ⟨go, 0, none⟩ = some (.string nm) := h.o.cellAt 0 (by decide)
  have q1 : wc.cell? ⟨go, 1, none⟩ = some (.int .i64 0) := h.o.cellAt 1 (by decide)
  have q2 : wc.cell? ⟨go, 2, none⟩ = some (.int .i64 0) := h.o.cellAt 2 (by decide)
  have q3 : wc.cell? ⟨go, 3, none⟩ = some (.slice none 0 0) := h.o.cellAt 3 (by decide)
  go_upto_region 9 with (fail)
  have hrq : (Value.slice AR nr cR).ownBlock ≠ some wc.heap.size := fun x => by have := (h.r.lt _ x).2; omega
  have hoq : (Value.slice (some ⟨go, 0, none⟩) 1 co).ownBlock ≠ some wc.heap.size := fun x => by have := (h.o.lt _ x).2; omega
  have hgq : wc.heap.size ≠ g := by have := h.own.lt; omega
  have hBq : B ≤ wc.heap.size := h.size
  obtain ⟨o_q, hbq⟩ := new1 wc [.string nm, .int .i64 0, .int .i64 0, .slice none 0 0] 69
  replace hbB := hbB.trans (hbq.mono hBq)
  replace h := h.below hbq
  clear hbq p7 q0 q1 q2 q3
  generalize hgd : wc.heap.size = gq at o_q hrq hoq hgq hBq ⊢
  generalize (wc.alloc (.cells #[.string nm, .int .i64 0, .int .i64 0, .slice none 0 0] 69)) = wd at o_q h hbB ⊢
  clear hgd
  have p1 : wd.cell? ⟨g, 1, none⟩ = some (.slice AT nt cT) := h.own.cell 1
  have q1 : wd.cell? ⟨gq, 1, none⟩ = some (.int .i64 0) := o_q.cell 1
  have t1 : ((0 : Int) == (nt : Int)) = false := beq_eq_false_iff_ne.2 (by omega)
  have t2 : decide ((0 : Int) = (nt : Int)) = false := decide_eq_false (by omega)
  have t5 : ((nt : Int) == 0) = false := beq_eq_false_iff_ne.2 (by omega)
  refine wp_reg_f [some 44, some 45, some 46, some 47, some 48, some 49, some 50, some 51, some 52] [?v10_0, ?v10_1, ?v10_2, ?v10_3, ?v10_4, ?v10_5, ?v10_6, ?v10_7, ?v10_8] [[], [0], [], [2], [3], [4], [5], [6], [1, 7]] [(0, _), (6, _)] ⟨rfl, rfl, trivial⟩ rfl (by kernel_rfl) rfl rfl (by kernel_rfl) (by kernel_rfl) ⟨?s10_0, ?s10_1, ?s10_2, ?s10_3, ?s10_4, ?s10_5, ?s10_6, ?s10_7, ?s10_8, trivial⟩ ?p10
  all_goals try (intro t9 w9 hT9 K9 hK9; simp only [OV, FV, List.getD_cons_succ, List.getD_cons_zero, Option.getD_some]; intros)
  case s10_0 | s10_1 | s10_2 | s10_3 | s10_4 | s10_5 | s10_6 | s10_7 | s10_8 =>
    have d9_0 := grow_cell hT9 p1; have d9_1 := grow_cell hT9 q1
    go_simp
    exact hK9 _ (Grow.refl _)
  intro w9 hb9
  simp only [putL, Act.put, List.setIfInBounds_toArray, List.set_cons_succ, List.set_cons_zero]
  replace h := h.below hb9
  replace o_q := o_q.below hb9 o_q.lt
  replace hbB := hbB.trans (hb9.mono (by have := hbB.size; have := o_q.lt; omega))
  have p1 : w9.cell? ⟨g, 1, none⟩ = some (.slice AT nt cT) := h.own.cell 1
  have q2 : w9.cell? ⟨gq, 2, none⟩ = some (.int .i64 0) := o_q.cell 2
  have f2 := o_q.frozen 2
  have h2 := h.setG o_q hgq hrq hoq 2 (.int .i64 (nt : Int))
  have o_q2 : Own (w9.setCell ⟨gq, 2, none⟩ (.int .i64 (nt : Int))) gq 69 [.string nm, .int .i64 0, .int .i64 (nt : Int), .slice none 0 0] := o_q.set_ 2 (.int .i64 (nt : Int))
  have hb2 := hbB.setCell (p := ⟨gq, 2, none⟩) hBq (.int .i64 (nt : Int))
  clear hb9 h o_q hbB q1
  go_upto_region 12 with (fail)
  clear p1 q2 f2 t1 t2 t5
  generalize (w9.setCell ⟨gq, 2, none⟩ (.int .i64 (nt : Int))) = wm at h2 o_q2 hb2 ⊢
  have HGR := Lib.hid (h2.ne h2.r (by decide))
  have HLT := Lib.hid (fun k hk => (h2.r.lt k hk).2)
  have HG0 := Lib.hid h2.own.lt
  have HB0 := Lib.hid h2.size
  have HH := Lib.hid h2
  have h63 : nr + 1 ≤ maxLen := by unfold maxLen; omega
  have hby9 : (nr + 1) * 56 ≤ 140737488355328 := by omega
  have HCC : Hid (∀ w', Fr wm g (Value.slice AR nr cR).ownBlock w' → Own w' gq 69 [.string nm, .int .i64 0, .int .i64 (nt : Int), .slice none 0 0]) := fun w' hf => hf.own o_q2 hgq hrq
  clear h2 o_q2 hgq hrq hoq hBq
  refine wp_reg_m (fun _ _ => True) (fun L u w8 => GM wm g 93 [A, .slice AT nt cT, X, .slice AR nr cR, .slice none 0 0, .slice none 0 0, .slice none 0 0, .slice (some ⟨go, 0, none⟩) 1 co, .bool true] 3 (.slice AR nr cR) B 69 4 nr (rs) ([.string nm, .int .i64 0, .int .i64 (nt : Int), .slice none 0 0]) (L 5) (L 7) (L 8) (L 12) (u 7) (u 8) w8) ((fun _ => trivial)) ((fun _ _ _ _ _ => trivial)) [some 60, some 61, some 62, some 63, some 64, some 65, some 66, some 67, some 68, some 69, some 70, some 71, none] [isV ?v3_0, isV ?v3_1, isV ?v3_2, isV ?v3_3, isV ?v3_4, isV (.slice AR nr cR), isV (.agg #[.string nm, .int .i64 0, .int .i64 (nt : Int), .slice none 0 0]), (fun _ _ => True), (fun _ _ => True), isV ?v3_9, isV ?v3_10, isV ?v3_11, anyV] rfl (by kernel_rfl) rfl rfl ?n3 ?k3 ⟨?s3_0, ?s3_1, ?s3_2, ?s3_3, ?s3_4, ?s3_5, ?s3_6, ?s3_7, ?s3_8, ?s3_9, ?s3_10, ?s3_11, ?s3_12, trivial⟩ ?p3
  case s3_0 =>
    intro L9 u9 t9 w9 hT9 hL9 hD9 hV9 hO9 hM9 K9 hK9
    have o9_0 := hO9 0 _ (show List.contains _ _ = false from by kernel_rfl) rfl
    clear hV9 hO9
    clear hL9 hD9
    go_simp
    (refine hK9 _ _ ((fun _ => trivial) w9) ?_ hM9; exact rfl)
  case s3_1 =>
    intro L9 u9 t9 w9 hT9 hL9 hD9 hV9 hO9 hM9 K9 hK9
    have o9_0 := hO9 0 _ (show List.contains _ _ = false from by kernel_rfl) rfl
    clear hV9 hO9
    clear hL9 hD9
    go_simp
    (refine hK9 _ _ ((fun _ => trivial) w9) ?_ hM9; exact rfl)
  case s3_2 =>
    intro L9 u9 t9 w9 hT9 hL9 hD9 hV9 hO9 hM9 K9 hK9
    obtain ⟨x9_1, p9_1, q9_1⟩ := hV9 1 61 rfl rfl (of_decide_eq_true (by kernel_rfl))
    obtain ⟨q9_1, e9_1⟩ := q9_1
    obtain rfl : x9_1 = ?v3_1 := q9_1
    clear e9_1
    clear hV9 hO9
    clear hL9 hD9
    go_simp
    (refine hK9 _ _ ((fun _ => trivial) w9) ?_ hM9; exact rfl)
  case s3_3 =>
    intro L9 u9 t9 w9 hT9 hL9 hD9 hV9 hO9 hM9 K9 hK9
    obtain ⟨x9_2, p9_2, q9_2⟩ := hV9 2 62 rfl rfl (of_decide_eq_true (by kernel_rfl))
    obtain ⟨q9_2, e9_2⟩ := q9_2
    obtain rfl : x9_2 = ?v3_2 := q9_2
    clear e9_2
    clear hV9 hO9
    clear hL9 hD9
    go_simp
    (refine hK9 _ _ ((fun _ => trivial) w9) ?_ hM9; exact rfl)
  case s3_4 =>
    intro L9 u9 t9 w9 hT9 hL9 hD9 hV9 hO9 hM9 K9 hK9
    obtain ⟨x9_3, p9_3, q9_3⟩ := hV9 3 63 rfl rfl (of_decide_eq_true (by kernel_rfl))
    obtain ⟨q9_3, e9_3⟩ := q9_3
    obtain rfl : x9_3 = ?v3_3 := q9_3
    clear e9_3
    clear hV9 hO9
    clear hL9 hD9
    go_simp
    (refine hK9 _ _ ((fun _ => trivial) w9) ?_ hM9; exact rfl)
  case s3_5 =>
    intro L9 u9 t9 w9 hT9 hL9 hD9 hV9 hO9 hM9 K9 hK9
    obtain ⟨x9_4, p9_4, q9_4⟩ := hV9 4 64 rfl rfl (of_decide_eq_true (by kernel_rfl))
    obtain ⟨q9_4, e9_4⟩ := q9_4
    obtain rfl : x9_4 = ?v3_4 := q9_4
    clear e9_4
    clear hV9 hO9
    have d9 : w9.cell? ⟨g, 3, none⟩ = some (.slice AR nr cR) := hM9.cellf hL9
    go_simp
    exact hK9 _ _ trivial rfl hM9.s1
  case s3_6 =>
    intro L9 u9 t9 w9 hT9 hL9 hD9 hV9 hO9 hM9 K9 hK9
    have o9_6 := hO9 6 _ (show List.contains _ _ = false from by kernel_rfl) rfl
    clear hV9 hO9
    have dd := HCC.out _ hM9.fr
    have d0 : w9.cell? ⟨gq, 0, none⟩ = some (.string nm) := dd.cell 0
    have d1 : w9.cell? ⟨gq, 1, none⟩ = some (.int .i64 0) := dd.cell 1
    have d2 : w9.cell? ⟨gq, 2, none⟩ = some (.int .i64 (nt : Int)) := dd.cell 2
    have d3 : w9.cell? ⟨gq, 3, none⟩ = some (.slice none 0 0) := dd.cell 3
    go_simp
    exact hK9 _ _ trivial rfl hM9
  case s3_7 =>
    intro L9 u9 t9 w9 hT9 hL9 hD9 hV9 hO9 hM9 K9 hK9
    obtain ⟨x9_6, p9_6, q9_6⟩ := hV9 6 66 rfl rfl (of_decide_eq_true (by kernel_rfl))
    obtain ⟨q9_6, e9_6⟩ := q9_6
    obtain rfl : x9_6 = (.agg #[.string nm, .int .i64 0, .int .i64 (nt : Int), .slice none 0 0]) := q9_6
    clear e9_6
    clear hV9 hO9
    go_simp
    exact hK9 _ _ trivial trivial (hM9.s2 hL9)
  case s3_8 =>
    intro L9 u9 t9 w9 hT9 hL9 hD9 hV9 hO9 hM9 K9 hK9
    obtain ⟨x9_5, p9_5, q9_5⟩ := hV9 5 65 rfl rfl (of_decide_eq_true (by kernel_rfl))
    obtain ⟨q9_5, e9_5⟩ := q9_5
    obtain rfl : x9_5 = (.slice AR nr cR) := q9_5
    clear e9_5
    obtain ⟨x9_7, p9_7, q9_7⟩ := hV9 7 67 rfl rfl (of_decide_eq_true (by kernel_rfl))
    obtain ⟨q9_7, e9_7⟩ := q9_7
    replace q9_7 : ((fun _ _ => True)) x9_7 w9 := q9_7
    clear hV9 hO9
    obtain ⟨gb, hg, hgb, ho⟩ := hM9.bu (hD9 7 rfl)
    have e9 := e9_7
    rw [hg] at e9
    subst e9
    clear e9_7
    rw [if_pos (wanted_of rfl)]
    refine wp_append_at (.tmp 65) (.tmp 67) 25 rfl B 69 i0 _ 4 56 Tryz.underlying25 hi0 hz0 hz1 hz2 rfl (by decide) _ nr (rs) (eval_tmp p9_5) (hM9.no hL9) ⟨gb, 0, none⟩ 1 1 ([.string nm, .int .i64 0, .int .i64 (nt : Int), .slice none 0 0]) (eval_tmp p9_7) rfl (own_cells ho) (by simp [Value.oneCell']) h63 hby9 (by have := hM9.fr.size; have := HB0.out; omega) ?_
    intro v' w' hown' hgrow _ hat
    exact hK9 _ _ trivial trivial (hM9.s3 hL9 (hD9 7 rfl) (hD9 5 rfl) HGR.out HLT.out hown' hgrow hat)
  case s3_9 =>
    intro L9 u9 t9 w9 hT9 hL9 hD9 hV9 hO9 hM9 K9 hK9
    obtain ⟨x9_0, p9_0, q9_0⟩ := hV9 0 60 rfl rfl (of_decide_eq_true (by kernel_rfl))
    obtain ⟨q9_0, e9_0⟩ := q9_0
    obtain rfl : x9_0 = ?v3_0 := q9_0
    clear e9_0
    clear hV9 hO9
    clear hL9 hD9
    go_simp
    (refine hK9 _ _ ((fun _ => trivial) w9) ?_ hM9; exact rfl)
  case s3_10 =>
    intro L9 u9 t9 w9 hT9 hL9 hD9 hV9 hO9 hM9 K9 hK9
    obtain ⟨x9_9, p9_9, q9_9⟩ := hV9 9 69 rfl rfl (of_decide_eq_true (by kernel_rfl))
    obtain ⟨q9_9, e9_9⟩ := q9_9
    obtain rfl : x9_9 = ?v3_9 := q9_9
    clear e9_9
    clear hV9 hO9
    clear hL9 hD9
    go_simp
    (refine hK9 _ _ ((fun _ => trivial) w9) ?_ hM9; exact rfl)
  case s3_11 =>
    intro L9 u9 t9 w9 hT9 hL9 hD9 hV9 hO9 hM9 K9 hK9
    obtain ⟨x9_10, p9_10, q9_10⟩ := hV9 10 70 rfl rfl (of_decide_eq_true (by kernel_rfl))
    obtain ⟨q9_10, e9_10⟩ := q9_10
    obtain rfl : x9_10 = ?v3_10 := q9_10
    clear e9_10
    clear hV9 hO9
    clear hL9 hD9
    go_simp
    (refine hK9 _ _ ((fun _ => trivial) w9) ?_ hM9; exact rfl)
  case s3_12 =>
    intro L9 u9 t9 w9 hT9 hL9 hD9 hV9 hO9 hM9 K9 hK9
    obtain ⟨x9_8, p9_8, q9_8⟩ := hV9 8 68 rfl rfl (of_decide_eq_true (by kernel_rfl))
    obtain ⟨q9_8, e9_8⟩ := q9_8
    replace q9_8 : ((fun _ _ => True)) x9_8 w9 := q9_8
    obtain ⟨x9_11, p9_11, q9_11⟩ := hV9 11 71 rfl rfl (of_decide_eq_true (by kernel_rfl))
    obtain ⟨q9_11, e9_11⟩ := q9_11
    obtain rfl : x9_11 = ?v3_11 := q9_11
    clear e9_11
    clear hV9 hO9
    obtain ⟨gq, capq, hq, -, -⟩ := (hM9.yes (hD9 8 rfl)).1.form (by omega)
    have e9 := e9_8
    rw [hq] at e9
    subst e9
    clear e9_8
    have hm9 := hM9.s4 hL9 (hD9 8 rfl) HGR.out HG0.out
    have d9 : w9.cell? ⟨g, 3, none⟩ = some (.slice AR nr cR) := by have := hM9.own.cell 3; rw [hL9] at this; exact this
    have f9 := hM9.own.frozen 3
    have HM : Hid (GM wm g 93 [A, .slice AT nt cT, X, .slice AR nr cR, .slice none 0 0, .slice none 0 0, .slice none 0 0, .slice (some ⟨go, 0, none⟩) 1 co, .bool true] 3 (.slice AR nr cR) B 69 4 nr (rs) ([.string nm, .int .i64 0, .int .i64 (nt : Int), .slice none 0 0]) (L9 5) (L9 7) (L9 8) true (u9 7) (u9 8) (w9.setCell ⟨g, 3, none⟩ (.slice (some ⟨gq, 0, none⟩) (nr + 1) capq))) := by
      rw [← hq]
      exact hm9
    clear hM9 hD9 hL9 hq hm9
    go_simp
    exact hK9 undef _ trivial trivial HM.out
  case n3 =>
    intro L9 u9 h9
    have h0 := h9 5 (by decide)
    have h1 := h9 7 (by decide)
    have h2 := h9 8 (by decide)
    have h3 := h9 12 (by decide)
    show GM wm g 93 [A, .slice AT nt cT, X, .slice AR nr cR, .slice none 0 0, .slice none 0 0, .slice none 0 0, .slice (some ⟨go, 0, none⟩) 1 co, .bool true] 3 (.slice AR nr cR) B 69 4 nr (rs) ([.string nm, .int .i64 0, .int .i64 (nt : Int), .slice none 0 0]) (L9 5) (L9 7) (L9 8) (L9 12) _ _ _
    rw [h0, h1, h2, h3]
    exact GM.start HH.out.own HH.out.r
  case k3 =>
    intro i9 v9 w9 x9 h9 g9
    match i9, h9 with
    | 0, h9 => exact h9
    | 1, h9 => exact h9
    | 2, h9 => exact h9
    | 3, h9 => exact h9
    | 4, h9 => exact h9
    | 5, h9 => exact h9
    | 6, h9 => exact h9
    | 7, h9 => (replace h9 : (fun _ _ => True) v9 w9 := h9); exact trivial
    | 8, h9 => (replace h9 : (fun _ _ => True) v9 w9 := h9); exact trivial
    | 9, h9 => exact h9
    | 10, h9 => exact h9
    | 11, h9 => exact h9
    | 12, h9 => exact h9
    | _ + 13, h9 => exact trivial
  intro u9 w9 hE9 hM9 hu9
  have r9_0 : u9 0 = ?v3_0 := hu9 0 (by decide)
  have r9_1 : u9 1 = ?v3_1 := hu9 1 (by decide)
  have r9_2 : u9 2 = ?v3_2 := hu9 2 (by decide)
  have r9_3 : u9 3 = ?v3_3 := hu9 3 (by decide)
  have r9_4 : u9 4 = ?v3_4 := hu9 4 (by decide)
  have r9_5 : u9 5 = (.slice AR nr cR) := hu9 5 (by decide)
  have r9_6 : u9 6 = (.agg #[.string nm, .int .i64 0, .int .i64 (nt : Int), .slice none 0 0]) := hu9 6 (by decide)
  have r9_7 : (fun _ _ => True) (u9 7) w9 := hu9 7 (by decide)
  have r9_8 : (fun _ _ => True) (u9 8) w9 := hu9 8 (by decide)
  have r9_9 : u9 9 = ?v3_9 := hu9 9 (by decide)
  have r9_10 : u9 10 = ?v3_10 := hu9 10 (by decide)
  have r9_11 : u9 11 = ?v3_11 := hu9 11 (by decide)
  clear hu9
  simp only [putAll, Act.put, List.setIfInBounds_toArray, List.set_cons_succ, List.set_cons_zero, List.getD_cons_succ, List.getD_cons_zero, Nat.reduceAdd, Nat.zero_add]
  simp only [r9_0, r9_1, r9_2, r9_3, r9_4, r9_5, r9_6, r9_9, r9_10, r9_11]
  clear r9_0 r9_1 r9_2 r9_3 r9_4 r9_5 r9_6 r9_9 r9_10 r9_11
  have hR := HH.out.appR hM9
  have hbf := hb2.trans (hM9.fr.bel HH.out.gB (fun k hk => (HH.out.r.lt k hk).1) HB0.out)
  clear hM9 hE9 r9_7 r9_8
  generalize u9 7 = y7
  generalize u9 8 = y8 at hR ⊢
  clear u9
  obtain ⟨wn, hwn⟩ : ∃ x : World, x = w9 := ⟨_, rfl⟩
  rw [← hwn] at hR hbf ⊢
  clear hwn w9
  have p7 : wn.cell? ⟨g, 7, none⟩ = some (.slice (some ⟨go, 0, none⟩) 1 co) := hR.own.cell 7
  have hz1' : IntKind.i64.wrap 1 = 1 := by decide
  have hst : ∀ (x : Addr) (W : World), (storeCells x []).run Tryz.prog W = .ok () W := fun _ _ => rfl
  have hgw := hR.own.lt
  have HRR := Lib.hid hR
  clear hR
  go_upto_region 13 with (fail)
  refine wp_reg_st [some 72, some 73, some 74, some 75, some 76, some 77, some 78, some 79, some 80, some 81, some 82, some 83, some 84, some 85, some 86, some 87, some 88, none] [isV ?v4_0, isV ?v4_1, isV ?v4_2, isV ?v4_3, isV ?v4_4, isV ?v4_5, isV ?v4_6, isV ?v4_7, isV ?v4_8, isV ?v4_9, isV ?v4_10, isV ?v4_11, isV ?v4_12, (fun v w' => (∃ d : Option Addr, v = .slice d 0 (co - 1)) ∧ World.heap w' = World.heap w'), isV (.slice (some ⟨go, 0, none⟩) 0 co), isV ?v4_15, isV ?v4_16, fun _ _ => False] [anyV, anyV, anyV, anyV, anyV, anyV, anyV, anyV, anyV, anyV, anyV, anyV, anyV, anyV, anyV, anyV, anyV, anyV] 17 [0, 1, 2, 3, 4, 5, 6, 7, 8, 9, 10, 11, 12, 13, 14, 15, 16] (fun _ => fun w' => RS kb B g A (.slice AT nt cT) X y8 (.slice (some ⟨go, 0, none⟩) 0 co) nt nx (nr + 1) 0 ts xs (rs ++ [.string nm, .int .i64 0, .int .i64 (nt : Int), .slice none 0 0]) [] true w' ∧ Below B w w') rfl (by kernel_rfl) rfl rfl (by decide) (by kernel_rfl) (by kernel_rfl) (fun _ _ _ _ h => h) ?k4 ?m4 ⟨?s4_0, ?s4_1, ?s4_2, ?s4_3, ?s4_4, ?s4_5, ?s4_6, ?s4_7, ?s4_8, ?s4_9, ?s4_10, ?s4_11, ?s4_12, ?s4_13, ?s4_14, ?s4_15, ?s4_16, ?s4_17, trivial⟩ ?p4
  case s4_0 =>
    rw [if_neg (by decide)]
    constructor
    · rw [if_neg (by decide)]
      intro t9 w9 hT9 hV9 hO9 K9 hK9
      have o9_0 := hO9 0 _ (.inl (show List.contains _ _ = false from by kernel_rfl)) rfl
      clear hV9 hO9
      go_simp
      (refine hK9 _ _ (Grow.refl _) ?_; exact rfl)
    · rw [if_pos (by decide)]; trivial
  case s4_1 =>
    rw [if_neg (by decide)]
    constructor
    · rw [if_neg (by decide)]
      intro t9 w9 hT9 hV9 hO9 K9 hK9
      have o9_0 := hO9 0 _ (.inl (show List.contains _ _ = false from by kernel_rfl)) rfl
      clear hV9 hO9
      go_simp
      (refine hK9 _ _ (Grow.refl _) ?_; exact rfl)
    · rw [if_pos (by decide)]; trivial
  case s4_2 =>
    rw [if_neg (by decide)]
    constructor
    · rw [if_neg (by decide)]
      intro t9 w9 hT9 hV9 hO9 K9 hK9
      obtain ⟨x9_1, p9_1, q9_1⟩ := hV9 1 73 rfl rfl (of_decide_eq_true (by kernel_rfl))
      obtain rfl : x9_1 = ?v4_1 := q9_1
      clear hV9 hO9
      go_simp
      (refine hK9 _ _ (Grow.refl _) ?_; exact rfl)
    · rw [if_pos (by decide)]; trivial
  case s4_3 =>
    rw [if_neg (by decide)]
    constructor
    · rw [if_neg (by decide)]
      intro t9 w9 hT9 hV9 hO9 K9 hK9
      obtain ⟨x9_2, p9_2, q9_2⟩ := hV9 2 74 rfl rfl (of_decide_eq_true (by kernel_rfl))
      obtain rfl : x9_2 = ?v4_2 := q9_2
      clear hV9 hO9
      go_simp
      (refine hK9 _ _ (Grow.refl _) ?_; exact rfl)
    · rw [if_pos (by decide)]; trivial
  case s4_4 =>
    rw [if_neg (by decide)]
    constructor
    · rw [if_neg (by decide)]
      intro t9 w9 hT9 hV9 hO9 K9 hK9
      obtain ⟨x9_3, p9_3, q9_3⟩ := hV9 3 75 rfl rfl (of_decide_eq_true (by kernel_rfl))
      obtain rfl : x9_3 = ?v4_3 := q9_3
      clear hV9 hO9
      have d9_0 := grow_cell hT9 p7
      go_simp
      (refine hK9 _ _ (Grow.refl _) ?_; exact rfl)
    · rw [if_pos (by decide)]; trivial
  case s4_5 =>
    rw [if_neg (by decide)]
    constructor
    · rw [if_neg (by decide)]
      intro t9 w9 hT9 hV9 hO9 K9 hK9
      have o9_5 := hO9 5 _ (.inl (show List.contains _ _ = false from by kernel_rfl)) rfl
      clear hV9 hO9
      go_simp
      (refine hK9 _ _ (Grow.refl _) ?_; exact rfl)
    · rw [if_pos (by decide)]; trivial
  case s4_6 =>
    rw [if_neg (by decide)]
    constructor
    · rw [if_neg (by decide)]
      intro t9 w9 hT9 hV9 hO9 K9 hK9
      obtain ⟨x9_4, p9_4, q9_4⟩ := hV9 4 76 rfl rfl (of_decide_eq_true (by kernel_rfl))
      obtain rfl : x9_4 = ?v4_4 := q9_4
      obtain ⟨x9_5, p9_5, q9_5⟩ := hV9 5 77 rfl rfl (of_decide_eq_true (by kernel_rfl))
      obtain rfl : x9_5 = ?v4_5 := q9_5
      clear hV9 hO9
      go_simp
      (refine hK9 _ _ (Grow.refl _) ?_; exact rfl)
    · rw [if_pos (by decide)]; trivial
  case s4_7 =>
    rw [if_neg (by decide)]
    constructor
    · rw [if_neg (by decide)]
      intro t9 w9 hT9 hV9 hO9 K9 hK9
      have o9_0 := hO9 0 _ (.inl (show List.contains _ _ = false from by kernel_rfl)) rfl
      clear hV9 hO9
      go_simp
      (refine hK9 _ _ (Grow.refl _) ?_; exact rfl)
    · rw [if_pos (by decide)]; trivial
  case s4_8 =>
    rw [if_neg (by decide)]
    constructor
    · rw [if_neg (by decide)]
      intro t9 w9 hT9 hV9 hO9 K9 hK9
      obtain ⟨x9_7, p9_7, q9_7⟩ := hV9 7 79 rfl rfl (of_decide_eq_true (by kernel_rfl))
      obtain rfl : x9_7 = ?v4_7 := q9_7
      clear hV9 hO9
      go_simp
      (refine hK9 _ _ (Grow.refl _) ?_; exact rfl)
    · rw [if_pos (by decide)]; trivial
  case s4_9 =>
    rw [if_neg (by decide)]
    constructor
    · rw [if_neg (by decide)]
      intro t9 w9 hT9 hV9 hO9 K9 hK9
      obtain ⟨x9_8, p9_8, q9_8⟩ := hV9 8 80 rfl rfl (of_decide_eq_true (by kernel_rfl))
      obtain rfl : x9_8 = ?v4_8 := q9_8
      clear hV9 hO9
      go_simp
      (refine hK9 _ _ (Grow.refl _) ?_; exact rfl)
    · rw [if_pos (by decide)]; trivial
  case s4_10 =>
    rw [if_neg (by decide)]
    constructor
    · rw [if_neg (by decide)]
      intro t9 w9 hT9 hV9 hO9 K9 hK9
      obtain ⟨x9_9, p9_9, q9_9⟩ := hV9 9 81 rfl rfl (of_decide_eq_true (by kernel_rfl))
      obtain rfl : x9_9 = ?v4_9 := q9_9
      clear hV9 hO9
      have d9_0 := grow_cell hT9 p7
      go_simp
      (refine hK9 _ _ (Grow.refl _) ?_; exact rfl)
    · rw [if_pos (by decide)]; trivial
  case s4_11 =>
    rw [if_neg (by decide)]
    constructor
    · rw [if_neg (by decide)]
      intro t9 w9 hT9 hV9 hO9 K9 hK9
      have o9_5 := hO9 5 _ (.inl (show List.contains _ _ = false from by kernel_rfl)) rfl
      clear hV9 hO9
      go_simp
      (refine hK9 _ _ (Grow.refl _) ?_; exact rfl)
    · rw [if_pos (by decide)]; trivial
  case s4_12 =>
    rw [if_neg (by decide)]
    constructor
    · rw [if_neg (by decide)]
      intro t9 w9 hT9 hV9 hO9 K9 hK9
      obtain ⟨x9_11, p9_11, q9_11⟩ := hV9 11 83 rfl rfl (of_decide_eq_true (by kernel_rfl))
      obtain rfl : x9_11 = ?v4_11 := q9_11
      clear hV9 hO9
      go_simp
      (refine hK9 _ _ (Grow.refl _) ?_; exact rfl)
    · rw [if_pos (by decide)]; trivial
  case s4_13 =>
    rw [if_neg (by decide)]
    constructor
    · rw [if_neg (by decide)]
      intro t9 w9 hT9 hV9 hO9 K9 hK9
      obtain ⟨x9_10, p9_10, q9_10⟩ := hV9 10 82 rfl rfl (of_decide_eq_true (by kernel_rfl))
      obtain rfl : x9_10 = ?v4_10 := q9_10
      obtain ⟨x9_12, p9_12, q9_12⟩ := hV9 12 84 rfl rfl (of_decide_eq_true (by kernel_rfl))
      obtain rfl : x9_12 = ?v4_12 := q9_12
      clear hV9 hO9
      go_simp
      exact hK9 _ _ (Grow.refl _) ⟨⟨_, rfl⟩, rfl⟩
    · rw [if_pos (by decide)]; trivial
  case s4_14 =>
    rw [if_neg (by decide)]
    constructor
    · rw [if_neg (by decide)]
      intro t9 w9 hT9 hV9 hO9 K9 hK9
      obtain ⟨x9_6, p9_6, q9_6⟩ := hV9 6 78 rfl rfl (of_decide_eq_true (by kernel_rfl))
      obtain rfl : x9_6 = ?v4_6 := q9_6
      obtain ⟨x9_13, p9_13, q9_13⟩ := hV9 13 85 rfl rfl (of_decide_eq_true (by kernel_rfl))
      replace q9_13 : ((fun v w' => (∃ d : Option Addr, v = .slice d 0 (co - 1)) ∧ World.heap w' = World.heap w')) x9_13 _ := q9_13
      obtain ⟨⟨d13, rfl⟩, -⟩ := q9_13
      clear hV9 hO9
      cases d13 <;> (go_simp; exact hK9 _ _ (Grow.refl _) rfl)
    · rw [if_pos (by decide)]; trivial
  case s4_15 =>
    rw [if_neg (by decide)]
    constructor
    · rw [if_neg (by decide)]
      intro t9 w9 hT9 hV9 hO9 K9 hK9
      obtain ⟨x9_0, p9_0, q9_0⟩ := hV9 0 72 rfl rfl (of_decide_eq_true (by kernel_rfl))
      obtain rfl : x9_0 = ?v4_0 := q9_0
      clear hV9 hO9
      go_simp
      (refine hK9 _ _ (Grow.refl _) ?_; exact rfl)
    · rw [if_pos (by decide)]; trivial
  case s4_16 =>
    rw [if_neg (by decide)]
    constructor
    · rw [if_neg (by decide)]
      intro t9 w9 hT9 hV9 hO9 K9 hK9
      obtain ⟨x9_15, p9_15, q9_15⟩ := hV9 15 87 rfl rfl (of_decide_eq_true (by kernel_rfl))
      obtain rfl : x9_15 = ?v4_15 := q9_15
      clear hV9 hO9
      go_simp
      (refine hK9 _ _ (Grow.refl _) ?_; exact rfl)
    · rw [if_pos (by decide)]; trivial
  case s4_17 =>
    rw [if_pos (by decide)]
    intro t9 w9 hT9 hV9 hO9 K9 hK9
    obtain ⟨x9_14, p9_14, q9_14⟩ := hV9 14 86 (by decide) rfl (of_decide_eq_true (by kernel_rfl))
    obtain rfl : x9_14 = (.slice (some ⟨go, 0, none⟩) 0 co) := q9_14
    obtain ⟨x9_16, p9_16, q9_16⟩ := hV9 16 88 (by decide) rfl (of_decide_eq_true (by kernel_rfl))
    obtain rfl : x9_16 = ?v4_16 := q9_16
    clear hV9 hO9
    have hr := HRR.out.below hT9.below
    have d7 : w9.cell? ⟨g, 7, none⟩ = some (.slice (some ⟨go, 0, none⟩) 1 co) := hr.own.cell 7
    have f7 := hr.own.frozen 7
    have HE : Hid ((fun w' => RS kb B g A (.slice AT nt cT) X y8 (.slice (some ⟨go, 0, none⟩) 0 co) nt nx (nr + 1) 0 ts xs (rs ++ [.string nm, .int .i64 0, .int .i64 (nt : Int), .slice none 0 0]) [] true w' ∧ Below B w w') (w9.setCell ⟨g, 7, none⟩ (.slice (some ⟨go, 0, none⟩) 0 co))) := ⟨hr.cutO, (hbf.trans (hT9.below.mono (by have := hbf.size; have := hr.gB; omega))).setCell (p := ⟨g, 7, none⟩) hr.gB _⟩
    clear hr
    go_simp
    exact hK9 undef _ HE.out trivial
  case k4 =>
    intro i9 v9 w9 x9 h9 g9
    match i9, h9 with
    | 0, h9 => exact h9
    | 1, h9 => exact h9
    | 2, h9 => exact h9
    | 3, h9 => exact h9
    | 4, h9 => exact h9
    | 5, h9 => exact h9
    | 6, h9 => exact h9
    | 7, h9 => exact h9
    | 8, h9 => exact h9
    | 9, h9 => exact h9
    | 10, h9 => exact h9
    | 11, h9 => exact h9
    | 12, h9 => exact h9
    | 13, h9 => (replace h9 : (fun v w' => (∃ d : Option Addr, v = .slice d 0 (co - 1)) ∧ World.heap w' = World.heap w') v9 w9 := h9); exact ⟨h9.1, rfl⟩
    | 14, h9 => exact h9
    | 15, h9 => exact h9
    | 16, h9 => exact h9
    | 17, h9 => exact h9
    | _ + 18, h9 => exact trivial
  case m4 =>
    intro i9 v9 w9 x9 ha9 hs9 h9
    match i9, ha9, hs9, h9 with
    | 0, ha9, hs9, h9 => exact absurd (by decide) ha9
    | 1, ha9, hs9, h9 => exact absurd (by decide) ha9
    | 2, ha9, hs9, h9 => exact absurd (by decide) ha9
    | 3, ha9, hs9, h9 => exact absurd (by decide) ha9
    | 4, ha9, hs9, h9 => exact absurd (by decide) ha9
    | 5, ha9, hs9, h9 => exact absurd (by decide) ha9
    | 6, ha9, hs9, h9 => exact absurd (by decide) ha9
    | 7, ha9, hs9, h9 => exact absurd (by decide) ha9
    | 8, ha9, hs9, h9 => exact absurd (by decide) ha9
    | 9, ha9, hs9, h9 => exact absurd (by decide) ha9
    | 10, ha9, hs9, h9 => exact absurd (by decide) ha9
    | 11, ha9, hs9, h9 => exact absurd (by decide) ha9
    | 12, ha9, hs9, h9 => exact absurd (by decide) ha9
    | 13, ha9, hs9, h9 => exact absurd (by decide) ha9
    | 14, ha9, hs9, h9 => exact absurd (by decide) ha9
    | 15, ha9, hs9, h9 => exact absurd (by decide) ha9
    | 16, ha9, hs9, h9 => exact absurd (by decide) ha9
    | 17, ha9, hs9, h9 => exact absurd rfl hs9
    | _ + 18, ha9, hs9, h9 => exact trivial
  intro u9 w9 hE9 hu9
  obtain ⟨_, r9_0⟩ := (hu9 0 (by decide)).pre (by decide)
  replace r9_0 : u9 0 = ?v4_0 := r9_0
  obtain ⟨_, r9_1⟩ := (hu9 1 (by decide)).pre (by decide)
  replace r9_1 : u9 1 = ?v4_1 := r9_1
  obtain ⟨_, r9_2⟩ := (hu9 2 (by decide)).pre (by decide)
  replace r9_2 : u9 2 = ?v4_2 := r9_2
  obtain ⟨_, r9_3⟩ := (hu9 3 (by decide)).pre (by decide)
  replace r9_3 : u9 3 = ?v4_3 := r9_3
  obtain ⟨_, r9_4⟩ := (hu9 4 (by decide)).pre (by decide)
  replace r9_4 : u9 4 = ?v4_4 := r9_4
  obtain ⟨_, r9_5⟩ := (hu9 5 (by decide)).pre (by decide)
  replace r9_5 : u9 5 = ?v4_5 := r9_5
  obtain ⟨_, r9_6⟩ := (hu9 6 (by decide)).pre (by decide)
  replace r9_6 : u9 6 = ?v4_6 := r9_6
  obtain ⟨_, r9_7⟩ := (hu9 7 (by decide)).pre (by decide)
  replace r9_7 : u9 7 = ?v4_7 := r9_7
  obtain ⟨_, r9_8⟩ := (hu9 8 (by decide)).pre (by decide)
  replace r9_8 : u9 8 = ?v4_8 := r9_8
  obtain ⟨_, r9_9⟩ := (hu9 9 (by decide)).pre (by decide)
  replace r9_9 : u9 9 = ?v4_9 := r9_9
  obtain ⟨_, r9_10⟩ := (hu9 10 (by decide)).pre (by decide)
  replace r9_10 : u9 10 = ?v4_10 := r9_10
  obtain ⟨_, r9_11⟩ := (hu9 11 (by decide)).pre (by decide)
  replace r9_11 : u9 11 = ?v4_11 := r9_11
  obtain ⟨_, r9_12⟩ := (hu9 12 (by decide)).pre (by decide)
  replace r9_12 : u9 12 = ?v4_12 := r9_12
  obtain ⟨_, r9_14⟩ := (hu9 14 (by decide)).pre (by decide)
  replace r9_14 : u9 14 = (.slice (some ⟨go, 0, none⟩) 0 co) := r9_14
  obtain ⟨_, r9_15⟩ := (hu9 15 (by decide)).pre (by decide)
  replace r9_15 : u9 15 = ?v4_15 := r9_15
  obtain ⟨_, r9_16⟩ := (hu9 16 (by decide)).pre (by decide)
  replace r9_16 : u9 16 = ?v4_16 := r9_16
  clear hu9
  obtain ⟨hfin, hbfin⟩ := hE9
  simp only [putAll, Act.put, List.setIfInBounds_toArray, List.set_cons_succ, List.set_cons_zero, List.getD_cons_succ, List.getD_cons_zero, Nat.reduceAdd, Nat.zero_add]
  simp only [r9_0, r9_1, r9_2, r9_3, r9_4, r9_5, r9_6, r9_7, r9_8, r9_9, r9_10, r9_11, r9_12, r9_14, r9_15, r9_16]
  clear r9_0 r9_1 r9_2 r9_3 r9_4 r9_5 r9_6 r9_7 r9_8 r9_9 r9_10 r9_11 r9_12 r9_14 r9_15 r9_16
  go_wp2
  go_ret
  exact ⟨rfl, ⟨_, _, hfin⟩, hbfin⟩
end Go.Proofs.YtfenjklilocjgaaGreatDoor
