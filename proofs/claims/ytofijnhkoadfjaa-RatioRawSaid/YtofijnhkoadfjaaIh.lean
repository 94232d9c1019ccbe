/- The program's Floor. -/
import Derived.Test.YtofijnhkoadfjaaIf
namespace Go.Proofs.Ytofijnhkoadfjaa
set_option linter.unusedSimpArgs false
set_option linter.unusedVariables false
set_option linter.unusedSectionVars false
open Go.RowKit Dg

/-- What read returns of one ratio. -/
def Read1 (n1 : Bool) (a b : Nat) (w : World) (e : Ending) (w' : World) : Prop :=
  ∃ r cap A1 k1 A2 k2 rest, e = .returned (.tuple #[.slice (some ⟨r, 0, none⟩) 1 cap, .bool true]) ∧ 1 ≤ cap ∧ cap ≤ maxLen ∧ w.heap.size ≤ r ∧
    Own w' r 74 (.bool n1 :: .slice A1 (dw a).length k1 :: .slice A2 (dw b).length k2 :: rest) ∧ NatV w' (.slice A1 (dw a).length k1) a ∧ NatV w' (.slice A2 (dw b).length k2) b ∧ Below w.heap.size w w'
theorem read1_yes {x : Rat} (hx : OkR x) (g : Nat) (w : World) (ho : Own w g 33 [.bool (decide (x.num < 0)), .string (S x.num.natAbs), .string (S x.den)]) :
    Calls Try.prog 68 #[.slice (some ⟨g, 0, none⟩) 1 1] w (Read1 (decide (x.num < 0)) x.num.natAbs x.den w) := by
  refine (read_gen (some ⟨g, 0, none⟩) 1 [trip x] w ho.rd0 (by simp) (Nat.le_refl _) (by unfold maxLen; omega) (by
    intro t ht
    simp at ht
    subst ht
    exact ⟨hx.1.size, hx.2.size⟩)).mono ?_
  rintro e w' (⟨xs, hxs, -, ⟨⟨v, cs, rfl, hrow, hnum⟩, hb⟩⟩ | ⟨⟨t, ht, hno⟩, -⟩)
  · have hxl : xs.length = 1 := by have := congrArg List.length hxs; simpa using this.symm
    obtain ⟨p, rfl⟩ : ∃ p, xs = [p] := by
      match xs, hxl with
      | [p], _ => exact ⟨p, rfl⟩
    simp only [List.map_cons, List.map_nil, List.cons.injEq, trip, Prod.mk.injEq] at hxs
    obtain ⟨⟨e1, e2, e3⟩, -⟩ := hxs
    have e2 := S_inj e2
    have e3 := S_inj e3
    obtain ⟨r, cap, rest, rfl, h1, h2, h3, hown⟩ := own_of_row hrow (by simp)
    match cs, hnum with
    | a :: b :: c :: [], hnum =>
      obtain ⟨g1, g2, g3, -⟩ := hnum
      subst g1
      rw [← e2] at g2
      rw [← e3] at g3
      rw [← e1] at hown
      have g2 := g2.nat
      have g3 := g3.nat
      have G2 := Lib.hid g2
      have G3 := Lib.hid g3
      obtain ⟨A1, k1, rfl, -⟩ := g2
      obtain ⟨A2, k2, rfl, -⟩ := g3
      exact ⟨r, cap, A1, k1, A2, k2, rest, rfl, h1, h2, h3, hown, G2.out, G3.out, hb⟩
  · exfalso
    simp at ht
    subst ht
    exact hno (isR_RV hx)
theorem read1_no (n1 : Bool) (s1 t1 : ByteArray) (hs1 : s1.size ≤ maxLen) (ht1 : t1.size ≤ maxLen) (h : ¬ IsR n1 s1 t1) (g : Nat) (w : World)
    (ho : Own w g 33 [.bool n1, .string s1, .string t1]) : Calls Try.prog 68 #[.slice (some ⟨g, 0, none⟩) 1 1] w fun e w' => e = .returned (.tuple #[.slice none 0 0, .bool false]) ∧ Below w.heap.size w w' := by
  refine (read_gen (some ⟨g, 0, none⟩) 1 [(n1, s1, t1)] w ho.rd0 (by simp) (Nat.le_refl _) (by unfold maxLen; omega) (by
    intro t ht
    simp at ht
    subst ht
    exact ⟨hs1, ht1⟩)).mono ?_
  rintro e w' (⟨xs, hxs, hok, -⟩ | ⟨-, h2, h3⟩)
  · exfalso
    have hall : ∀ t ∈ [(n1, s1, t1)], IsR t.1 t.2.1 t.2.2 := by
      rw [hxs]
      intro t ht
      obtain ⟨x, hx, rfl⟩ := List.mem_map.1 ht
      exact isR_RV (hok x hx)
    exact h (hall (n1, s1, t1) (by simp))
  · exact ⟨h2, h3⟩
set_option maxRecDepth 100000 in
set_option maxHeartbeats 4000000 in
theorem floor_bad (n1 : Bool) (s1 t1 : ByteArray) (hr : ∀ (g : Nat) (w : World), Own w g 33 [.bool n1, .string s1, .string t1] → Calls Try.prog 68 #[.slice (some ⟨g, 0, none⟩) 1 1] w fun e w' => e = .returned (.tuple #[.slice none 0 0, .bool false]) ∧ Below w.heap.size w w') (w : World) :
    Calls Try.prog 29 #[.agg #[.bool n1, .string s1, .string t1]] w fun e w' => e = .returned (.tuple #[Rat0, .int .i64 1]) ∧ Below w.heap.size w w' := by
  have HREAD := Lib.hid hr
  clear hr
  obtain ⟨o1, o3, hbw⟩ := new2 w [.bool n1, .string s1, .string t1] [.bool false, .string ⟨#[]⟩, .string ⟨#[]⟩] 33 33
  go_enter Try.func29, Try.ntmps29
  go_upto_region 1 with (fail)
  generalize ((w.alloc (.cells #[.bool n1, .string s1, .string t1] 33)).alloc (.cells #[.bool false, .string ⟨#[]⟩, .string ⟨#[]⟩] 33)) = wb at o1 o3 hbw ⊢
  have c10 : wb.cell? ⟨w.heap.size, 0, none⟩ = some (.bool n1) := o1.cell 0
  have c11 : wb.cell? ⟨w.heap.size, 1, none⟩ = some (.string s1) := o1.cell 1
  have c12 : wb.cell? ⟨w.heap.size, 2, none⟩ = some (.string t1) := o1.cell 2
  obtain ⟨o4, hb4⟩ := new1 wb [.bool n1, .string s1, .string t1] 33
  go_wp2_with fail
  generalize (wb.alloc (.cells #[.bool n1, .string s1, .string t1] 33)) = wc at o4 hb4 ⊢
  clear c10 c11 c12 o1
  replace o3 := o3.below hb4 o3.lt
  replace hbw := below6 hbw hb4
  clear hb4
  refine (HREAD.out _ _ o4).mono ?_
  rintro e wd ⟨rfl, hb5⟩
  replace o3 := o3.below hb5 o3.lt
  replace hbw := below6 hbw hb5
  clear hb5 o4 HREAD
  have hg0 : wd.cell? ⟨w.heap.size + 1, 0, none⟩ = some (.bool false) := o3.cell 0
  have hg1 : wd.cell? ⟨w.heap.size + 1, 1, none⟩ = some (.string ⟨#[]⟩) := o3.cell 1
  have hg2 : wd.cell? ⟨w.heap.size + 1, 2, none⟩ = some (.string ⟨#[]⟩) := o3.cell 2
  have hf0 := o3.frozen 0
  have hf1 := o3.frozen 1
  have hf2 := o3.frozen 2
  have oz := o3.set3 (.bool false) (.string ⟨#[]⟩) (.string ⟨#[]⟩)
  have sz9 := Below.set3 hbw (g := w.heap.size + 1) (by omega) (.bool false) (.string ⟨#[]⟩) (.string ⟨#[]⟩)
  go_wp2_with fail
  generalize (((wd.setCell ⟨w.heap.size + 1, 0, none⟩ (.bool false)).setCell ⟨w.heap.size + 1, 1, none⟩ (.string ⟨#[]⟩)).setCell ⟨w.heap.size + 1, 2, none⟩ (.string ⟨#[]⟩)) = wz at oz sz9 ⊢
  have z0 : wz.cell? ⟨w.heap.size + 1, 0, none⟩ = some (.bool false) := oz.cell 0
  have z1 : wz.cell? ⟨w.heap.size + 1, 1, none⟩ = some (.string ⟨#[]⟩) := oz.cell 1
  have z2 : wz.cell? ⟨w.heap.size + 1, 2, none⟩ = some (.string ⟨#[]⟩) := oz.cell 2
  exact bodyPost_ret (v := .tuple #[.agg #[.bool false, .string ⟨#[]⟩, .string ⟨#[]⟩], .int .i64 1]) (by simp [results, Try.results29, go_sem, z0, z1, z2]) rfl ⟨rfl, sz9⟩
set_option maxRecDepth 100000 in
set_option maxHeartbeats 4000000 in
theorem floor_core (n1 : Bool) (s1 t1 : ByteArray) (a b : Nat) (z : Rat) (hr : ∀ (g : Nat) (w : World), Own w g 33 [.bool n1, .string s1, .string t1] → Calls Try.prog 68 #[.slice (some ⟨g, 0, none⟩) 1 1] w (Read1 n1 a b w))
    (hq : (n1 = true ∧ 0 < a % b → z = rat n1 (a / b + 1) 1) ∧ (¬ (n1 = true ∧ 0 < a % b) → z = rat n1 (a / b) 1)) (hb : 0 < b) (l1 : (dw a).length ≤ 20000) (l2 : (dw b).length ≤ 20000) (w : World) :
    Calls Try.prog 29 #[.agg #[.bool n1, .string s1, .string t1]] w fun e w' => RatRes z e ∧ Below w.heap.size w w' := by
  have HREAD := Lib.hid hr
  have HZ := Lib.hid hq
  have HB := Lib.hid hb
  obtain ⟨nz, sz, tz, kz, hend, hres⟩ := ratRes_one z
  have HEND := Lib.hid hend
  have HRES := Lib.hid hres
  have hlq : (dw (a / b)).length ≤ (dw a).length := dg_mono b32 (Nat.div_le_self _ _)
  have hlq1 := dw_add (a / b) 1
  have hl1 : (dw 1).length = 1 := by decide
  clear hend hres hr hq hb
  obtain ⟨o1, o3, hbw⟩ := new2 w [.bool n1, .string s1, .string t1] [.bool false, .string ⟨#[]⟩, .string ⟨#[]⟩] 33 33
  go_enter Try.func29, Try.ntmps29
  go_upto_region 1 with (fail)
  generalize ((w.alloc (.cells #[.bool n1, .string s1, .string t1] 33)).alloc (.cells #[.bool false, .string ⟨#[]⟩, .string ⟨#[]⟩] 33)) = wb at o1 o3 hbw ⊢
  have c10 : wb.cell? ⟨w.heap.size, 0, none⟩ = some (.bool n1) := o1.cell 0
  have c11 : wb.cell? ⟨w.heap.size, 1, none⟩ = some (.string s1) := o1.cell 1
  have c12 : wb.cell? ⟨w.heap.size, 2, none⟩ = some (.string t1) := o1.cell 2
  obtain ⟨o4, hb4⟩ := new1 wb [.bool n1, .string s1, .string t1] 33
  go_wp2_with fail
  generalize (wb.alloc (.cells #[.bool n1, .string s1, .string t1] 33)) = wc at o4 hb4 ⊢
  clear c10 c11 c12 o1
  replace o3 := o3.below hb4 o3.lt
  replace hbw := below6 hbw hb4
  clear hb4
  have OLT := Lib.hid o3.lt
  refine (HREAD.out _ _ o4).mono ?_
  rintro e wd ⟨r, cap, A1, k1, A2, k2, rest, rfl, hcap, hcap2, hr, orow, v1, v2, hb5⟩
  unfold maxLen at hcap2
  replace o3 := o3.below hb5 o3.lt
  have hrw : w.heap.size + 1 < r := by have := OLT.out; omega
  replace hbw := below6 hbw hb5
  clear hb5 o4 HREAD
  have c0 : wd.cell? ⟨r, 0, none⟩ = some (.bool n1) := orow.cell 0
  have c1 : wd.cell? ⟨r, 1, none⟩ = some (.slice A1 (dw a).length k1) := orow.cell 1
  have c2 : wd.cell? ⟨r, 2, none⟩ = some (.slice A2 (dw b).length k2) := orow.cell 2
  have m1 := Lib.hid v1
  have m2 := Lib.hid v2
  clear v1 v2
  go_upto_region 4 with (fail)
  refine wp_reg_ra [some 18, some 19, some 20, some 21, some 22, some 23, some 24, some 25, some 26, some 17, some 27, some 28, some 6, some 7] [isV ?v1_0, isV ?v1_1, isV ?v1_2, isV ?v1_3, isV ?v1_4, isV ?v1_5, isV ?v1_6, isV ?v1_7, (fun v w' => ∃ v1 v2, v = .tuple #[v1, v2] ∧ NatV w' v1 (a / b) ∧ NatV w' v2 (a % b)), (fun v w' => ∃ v1 v2, v = .tuple #[v1, v2] ∧ NatV w' v1 (a / b) ∧ NatV w' v2 (a % b)), (fun v w' => NatV w' v (a / b)), (fun v w' => NatV w' v (a % b)), (fun v w' => NatV w' v (a / b)), (fun v w' => NatV w' v (a % b))] rfl (by kernel_rfl) rfl rfl ?k1 ⟨?s1_0, ?s1_1, ?s1_2, ?s1_3, ?s1_4, ?s1_5, ?s1_6, ?s1_7, ?s1_8, ?s1_9, ?s1_10, ?s1_11, ?s1_12, ?s1_13, trivial⟩ ?p1
  case s1_0 =>
    intro t9 w9 hT9 hV9 hO9 K9 hK9
    have o9_4 := hO9 4 _ (show List.contains _ _ = false from by kernel_rfl) rfl
    clear hV9 hO9
    go_simp
    (refine hK9 _ _ (Grow.refl _) ?_; exact rfl)
  case s1_1 =>
    intro t9 w9 hT9 hV9 hO9 K9 hK9
    obtain ⟨x9_0, p9_0, q9_0⟩ := hV9 0 18 rfl rfl (of_decide_eq_true (by kernel_rfl))
    obtain rfl : x9_0 = ?v1_0 := q9_0
    clear hV9 hO9
    go_simp
    (refine hK9 _ _ (Grow.refl _) ?_; exact rfl)
  case s1_2 =>
    intro t9 w9 hT9 hV9 hO9 K9 hK9
    obtain ⟨x9_1, p9_1, q9_1⟩ := hV9 1 19 rfl rfl (of_decide_eq_true (by kernel_rfl))
    obtain rfl : x9_1 = ?v1_1 := q9_1
    clear hV9 hO9
    go_simp
    (refine hK9 _ _ (Grow.refl _) ?_; exact rfl)
  case s1_3 =>
    intro t9 w9 hT9 hV9 hO9 K9 hK9
    obtain ⟨x9_2, p9_2, q9_2⟩ := hV9 2 20 rfl rfl (of_decide_eq_true (by kernel_rfl))
    obtain rfl : x9_2 = ?v1_2 := q9_2
    clear hV9 hO9
    have d9_0 := grow_cell hT9 c0
    have d9_1 := grow_cell hT9 c1
    have d9_2 := grow_cell hT9 c2
    go_simp
    (refine hK9 _ _ (Grow.refl _) ?_; exact rfl)
  case s1_4 =>
    intro t9 w9 hT9 hV9 hO9 K9 hK9
    have o9_4 := hO9 4 _ (show List.contains _ _ = false from by kernel_rfl) rfl
    clear hV9 hO9
    go_simp
    (refine hK9 _ _ (Grow.refl _) ?_; exact rfl)
  case s1_5 =>
    intro t9 w9 hT9 hV9 hO9 K9 hK9
    obtain ⟨x9_4, p9_4, q9_4⟩ := hV9 4 22 rfl rfl (of_decide_eq_true (by kernel_rfl))
    obtain rfl : x9_4 = ?v1_4 := q9_4
    clear hV9 hO9
    go_simp
    (refine hK9 _ _ (Grow.refl _) ?_; exact rfl)
  case s1_6 =>
    intro t9 w9 hT9 hV9 hO9 K9 hK9
    obtain ⟨x9_5, p9_5, q9_5⟩ := hV9 5 23 rfl rfl (of_decide_eq_true (by kernel_rfl))
    obtain rfl : x9_5 = ?v1_5 := q9_5
    clear hV9 hO9
    go_simp
    (refine hK9 _ _ (Grow.refl _) ?_; exact rfl)
  case s1_7 =>
    intro t9 w9 hT9 hV9 hO9 K9 hK9
    obtain ⟨x9_6, p9_6, q9_6⟩ := hV9 6 24 rfl rfl (of_decide_eq_true (by kernel_rfl))
    obtain rfl : x9_6 = ?v1_6 := q9_6
    clear hV9 hO9
    have d9_0 := grow_cell hT9 c0
    have d9_1 := grow_cell hT9 c1
    have d9_2 := grow_cell hT9 c2
    go_simp
    (refine hK9 _ _ (Grow.refl _) ?_; exact rfl)
  case s1_8 =>
    intro t9 w9 hT9 hV9 hO9 K9 hK9
    obtain ⟨x9_3, p9_3, q9_3⟩ := hV9 3 21 rfl rfl (of_decide_eq_true (by kernel_rfl))
    obtain rfl : x9_3 = ?v1_3 := q9_3
    obtain ⟨x9_7, p9_7, q9_7⟩ := hV9 7 25 rfl rfl (of_decide_eq_true (by kernel_rfl))
    obtain rfl : x9_7 = ?v1_7 := q9_7
    clear hV9 hO9
    go_simp
    refine (div_any _ (m1.out.below hT9.below) (m2.out.below hT9.below) (by omega) HB.out).mono ?_
    rintro _ w8 ⟨v8, v7, rfl, hv8, hv7, hb8⟩
    exact hK9 _ _ hb8 ⟨_, _, rfl, hv8, hv7⟩
  case s1_9 =>
    intro t9 w9 hT9 hV9 hO9 K9 hK9
    obtain ⟨x9_8, p9_8, q9_8⟩ := hV9 8 26 rfl rfl (of_decide_eq_true (by kernel_rfl))
    replace q9_8 : ((fun v w' => ∃ v1 v2, v = .tuple #[v1, v2] ∧ NatV w' v1 (a / b) ∧ NatV w' v2 (a % b))) x9_8 _ := q9_8
    clear hV9 hO9
    go_simp
    exact hK9 _ _ (Grow.refl _) q9_8
  case s1_10 =>
    intro t9 w9 hT9 hV9 hO9 K9 hK9
    obtain ⟨x9_9, p9_9, q9_9⟩ := hV9 9 17 rfl rfl (of_decide_eq_true (by kernel_rfl))
    replace q9_9 : ((fun v w' => ∃ v1 v2, v = .tuple #[v1, v2] ∧ NatV w' v1 (a / b) ∧ NatV w' v2 (a % b))) x9_9 _ := q9_9
    clear hV9 hO9
    obtain ⟨v1, v2, rfl, h7, h8⟩ := q9_9
    go_simp
    exact hK9 _ _ (Grow.refl _) h7
  case s1_11 =>
    intro t9 w9 hT9 hV9 hO9 K9 hK9
    obtain ⟨x9_9, p9_9, q9_9⟩ := hV9 9 17 rfl rfl (of_decide_eq_true (by kernel_rfl))
    replace q9_9 : ((fun v w' => ∃ v1 v2, v = .tuple #[v1, v2] ∧ NatV w' v1 (a / b) ∧ NatV w' v2 (a % b))) x9_9 _ := q9_9
    clear hV9 hO9
    obtain ⟨v1, v2, rfl, h7, h8⟩ := q9_9
    go_simp
    exact hK9 _ _ (Grow.refl _) h8
  case s1_12 =>
    intro t9 w9 hT9 hV9 hO9 K9 hK9
    obtain ⟨x9_10, p9_10, q9_10⟩ := hV9 10 27 rfl rfl (of_decide_eq_true (by kernel_rfl))
    replace q9_10 : ((fun v w' => NatV w' v (a / b))) x9_10 _ := q9_10
    clear hV9 hO9
    go_simp
    exact hK9 _ _ (Grow.refl _) q9_10
  case s1_13 =>
    intro t9 w9 hT9 hV9 hO9 K9 hK9
    obtain ⟨x9_11, p9_11, q9_11⟩ := hV9 11 28 rfl rfl (of_decide_eq_true (by kernel_rfl))
    replace q9_11 : ((fun v w' => NatV w' v (a % b))) x9_11 _ := q9_11
    clear hV9 hO9
    go_simp
    exact hK9 _ _ (Grow.refl _) q9_11
  case k1 =>
    intro i9 v9 w9 x9 h9 g9
    match i9, h9 with
    | 0, h9 => exact h9
    | 1, h9 => exact h9
    | 2, h9 => exact h9
    | 3, h9 => exact h9
    | 4, h9 => exact h9
    | 5, h9 => exact h9
    | 6, h9 => exact h9
    | 7, h9 => exact h9
    | 8, h9 => (replace h9 : (fun v w' => ∃ v1 v2, v = .tuple #[v1, v2] ∧ NatV w' v1 (a / b) ∧ NatV w' v2 (a % b)) v9 w9 := h9); obtain ⟨v1, v2, rfl, h7, h8⟩ := h9; exact ⟨v1, v2, rfl, NatV.below h7 g9, NatV.below h8 g9⟩
    | 9, h9 => (replace h9 : (fun v w' => ∃ v1 v2, v = .tuple #[v1, v2] ∧ NatV w' v1 (a / b) ∧ NatV w' v2 (a % b)) v9 w9 := h9); obtain ⟨v1, v2, rfl, h7, h8⟩ := h9; exact ⟨v1, v2, rfl, NatV.below h7 g9, NatV.below h8 g9⟩
    | 10, h9 => (replace h9 : (fun v w' => NatV w' v (a / b)) v9 w9 := h9); exact NatV.below h9 g9
    | 11, h9 => (replace h9 : (fun v w' => NatV w' v (a % b)) v9 w9 := h9); exact NatV.below h9 g9
    | 12, h9 => (replace h9 : (fun v w' => NatV w' v (a / b)) v9 w9 := h9); exact NatV.below h9 g9
    | 13, h9 => (replace h9 : (fun v w' => NatV w' v (a % b)) v9 w9 := h9); exact NatV.below h9 g9
    | _ + 14, h9 => exact trivial
  intro u9 w9 hE9 hu9
  have r9_0 : u9 0 = ?v1_0 := hu9 0 (by decide)
  have r9_1 : u9 1 = ?v1_1 := hu9 1 (by decide)
  have r9_2 : u9 2 = ?v1_2 := hu9 2 (by decide)
  have r9_3 : u9 3 = ?v1_3 := hu9 3 (by decide)
  have r9_4 : u9 4 = ?v1_4 := hu9 4 (by decide)
  have r9_5 : u9 5 = ?v1_5 := hu9 5 (by decide)
  have r9_6 : u9 6 = ?v1_6 := hu9 6 (by decide)
  have r9_7 : u9 7 = ?v1_7 := hu9 7 (by decide)
  have r9_8 : (fun v w' => ∃ v1 v2, v = .tuple #[v1, v2] ∧ NatV w' v1 (a / b) ∧ NatV w' v2 (a % b)) (u9 8) w9 := hu9 8 (by decide)
  have r9_9 : (fun v w' => ∃ v1 v2, v = .tuple #[v1, v2] ∧ NatV w' v1 (a / b) ∧ NatV w' v2 (a % b)) (u9 9) w9 := hu9 9 (by decide)
  have r9_10 : (fun v w' => NatV w' v (a / b)) (u9 10) w9 := hu9 10 (by decide)
  have r9_11 : (fun v w' => NatV w' v (a % b)) (u9 11) w9 := hu9 11 (by decide)
  have r9_12 : (fun v w' => NatV w' v (a / b)) (u9 12) w9 := hu9 12 (by decide)
  have r9_13 : (fun v w' => NatV w' v (a % b)) (u9 13) w9 := hu9 13 (by decide)
  clear hu9
  simp only [putAll, Act.put, List.setIfInBounds_toArray, List.set_cons_succ, List.set_cons_zero, List.getD_cons_succ, List.getD_cons_zero, Nat.reduceAdd, Nat.zero_add]
  simp only [r9_0, r9_1, r9_2, r9_3, r9_4, r9_5, r9_6, r9_7]
  clear r9_0 r9_1 r9_2 r9_3 r9_4 r9_5 r9_6 r9_7
  generalize u9 12 = z9_12 at r9_12 ⊢
  generalize u9 13 = z9_13 at r9_13 ⊢
  clear m1 m2 c0 c1 c2
  replace orow := orow.below hE9 orow.lt
  replace o3 := o3.below hE9 o3.lt
  replace hbw := below6 hbw hE9
  replace r9_12 : NatV w9 z9_12 (a / b) := r9_12
  replace r9_13 : NatV w9 z9_13 (a % b) := r9_13
  clear hE9 r9_8 r9_9 r9_10 r9_11
  obtain ⟨we, rfl⟩ : ∃ we : World, we = w9 := ⟨_, rfl⟩
  have NQ := Lib.hid r9_12
  obtain ⟨A5, k5, rfl, -⟩ := r9_12
  obtain ⟨A6, k6, rfl, hk6, hk6', -⟩ := r9_13
  unfold maxLen at hk6'
  by_cases hn : n1 = true ∧ 0 < a % b
  · have HQ := Lib.hid (HZ.out.1 hn)
    obtain ⟨rfl, hr0⟩ := hn
    have hcl := dw_len_pos hr0
    have d1 : decide ((0 : Int) < ((dw (a % b)).length : Int)) = true := decide_eq_true (by omega)
    have d2 : decide (0 < (dw (a % b)).length) = true := decide_eq_true hcl
    clear hr0 HZ
    have c0 : we.cell? ⟨r, 0, none⟩ = some (.bool true) := orow.cell 0
    go_wp2_with fail
    refine (of_any 1 _ (by decide)).mono ?_
    rintro e wf ⟨v8, rfl, hv8, hb8⟩
    replace NQ := Lib.hid (NQ.out.below hb8)
    replace orow := orow.below hb8 orow.lt
    replace o3 := o3.below hb8 o3.lt
    replace hbw := below6 hbw hb8
    clear c0 hb8
    go_wp2_with fail
    refine (add_any _ NQ.out hv8 (by omega) (by omega)).mono ?_
    rintro e wg ⟨v7, rfl, hv7, hb7⟩
    replace orow := orow.below hb7 orow.lt
    replace o3 := o3.below hb7 o3.lt
    replace hbw := below6 hbw hb7
    clear hb7 hv8 NQ
    have NQ := Lib.hid hv7
    obtain ⟨A7, k7, rfl, -⟩ := hv7
    obtain ⟨n1, hn1⟩ : ∃ n1 : Bool, n1 = true := ⟨_, rfl⟩
    rw [← hn1] at orow HQ
    clear hn1
    have c0 : wg.cell? ⟨r, 0, none⟩ = some (.bool n1) := orow.cell 0
    go_upto_region 7 with (fail)
    refine wp_reg_st [some 41, some 42, some 43, some 44, some 45, some 46, some 47, some 48, some 49, some 50, none, some 3] [isV ?v2_0, isV ?v2_1, isV ?v2_2, isV ?v2_3, isV ?v2_4, (fun v w' => NatV w' v 1), (fun v w' => NumOk 100000 z w' v), isV (.tuple #[.agg #[.bool nz, .string sz, .string tz], .int .i64 kz]), isV ?v2_8, isV ?v2_9, fun _ _ => False, fun _ _ => False] [anyV, anyV, anyV, anyV, anyV, anyV, anyV, anyV, anyV, anyV, anyV, isV ?w2_11] 10 [0, 1, 2, 3, 4, 5, 6, 7, 8, 9] (fun _ => fun w' => Below w.heap.size w w' ∧ Own w' (w.heap.size + 1) 33 [.bool nz, .string sz, .string tz]) rfl (by kernel_rfl) rfl rfl (by decide) (by kernel_rfl) (by kernel_rfl) (fun _ _ _ _ h => h) ?k2 ?m2 ⟨?s2_0, ?s2_1, ?s2_2, ?s2_3, ?s2_4, ?s2_5, ?s2_6, ?s2_7, ?s2_8, ?s2_9, ?s2_10, ?s2_11, trivial⟩ ?p2
    case s2_0 =>
      rw [if_neg (by decide)]
      constructor
      · rw [if_neg (by decide)]
        intro t9 w9 hT9 hV9 hO9 K9 hK9
        have o9_4 := hO9 4 _ (.inl (show List.contains _ _ = false from by kernel_rfl)) rfl
        clear hV9 hO9
        go_simp
        (refine hK9 _ _ (Grow.refl _) ?_; exact rfl)
      · rw [if_pos (by decide)]; trivial
    case s2_1 =>
      rw [if_neg (by decide)]
      constructor
      · rw [if_neg (by decide)]
        intro t9 w9 hT9 hV9 hO9 K9 hK9
        obtain ⟨x9_0, p9_0, q9_0⟩ := hV9 0 41 rfl rfl (of_decide_eq_true (by kernel_rfl))
        obtain rfl : x9_0 = ?v2_0 := q9_0
        clear hV9 hO9
        go_simp
        (refine hK9 _ _ (Grow.refl _) ?_; exact rfl)
      · rw [if_pos (by decide)]; trivial
    case s2_2 =>
      rw [if_neg (by decide)]
      constructor
      · rw [if_neg (by decide)]
        intro t9 w9 hT9 hV9 hO9 K9 hK9
        obtain ⟨x9_1, p9_1, q9_1⟩ := hV9 1 42 rfl rfl (of_decide_eq_true (by kernel_rfl))
        obtain rfl : x9_1 = ?v2_1 := q9_1
        clear hV9 hO9
        go_simp
        (refine hK9 _ _ (Grow.refl _) ?_; exact rfl)
      · rw [if_pos (by decide)]; trivial
    case s2_3 =>
      rw [if_neg (by decide)]
      constructor
      · rw [if_neg (by decide)]
        intro t9 w9 hT9 hV9 hO9 K9 hK9
        obtain ⟨x9_2, p9_2, q9_2⟩ := hV9 2 43 rfl rfl (of_decide_eq_true (by kernel_rfl))
        obtain rfl : x9_2 = ?v2_2 := q9_2
        clear hV9 hO9
        have d9_0 := grow_cell hT9 c0
        go_simp
        (refine hK9 _ _ (Grow.refl _) ?_; exact rfl)
      · rw [if_pos (by decide)]; trivial
    case s2_4 =>
      rw [if_neg (by decide)]
      constructor
      · rw [if_neg (by decide)]
        intro t9 w9 hT9 hV9 hO9 K9 hK9
        have o9_6 := hO9 6 _ (.inl (show List.contains _ _ = false from by kernel_rfl)) rfl
        clear hV9 hO9
        go_simp
        (refine hK9 _ _ (Grow.refl _) ?_; exact rfl)
      · rw [if_pos (by decide)]; trivial
    case s2_5 =>
      rw [if_neg (by decide)]
      constructor
      · rw [if_neg (by decide)]
        intro t9 w9 hT9 hV9 hO9 K9 hK9
        clear hV9 hO9
        go_simp
        refine (of_any 1 _ (by decide)).mono ?_
        rintro _ w8 ⟨v8, rfl, hv8, hb8⟩
        exact hK9 _ _ hb8 hv8
      · rw [if_pos (by decide)]; trivial
    case s2_6 =>
      rw [if_neg (by decide)]
      constructor
      · rw [if_neg (by decide)]
        intro t9 w9 hT9 hV9 hO9 K9 hK9
        obtain ⟨x9_3, p9_3, q9_3⟩ := hV9 3 44 rfl rfl (of_decide_eq_true (by kernel_rfl))
        obtain rfl : x9_3 = ?v2_3 := q9_3
        obtain ⟨x9_4, p9_4, q9_4⟩ := hV9 4 45 rfl rfl (of_decide_eq_true (by kernel_rfl))
        obtain rfl : x9_4 = ?v2_4 := q9_4
        obtain ⟨x9_5, p9_5, q9_5⟩ := hV9 5 46 rfl rfl (of_decide_eq_true (by kernel_rfl))
        replace q9_5 : ((fun v w' => NatV w' v 1)) x9_5 _ := q9_5
        clear hV9 hO9
        have q8 := q9_5
        obtain ⟨A8, k8, rfl, -⟩ := q9_5
        go_simp
        exact hK9 _ _ (Grow.refl _) ⟨_, _, _, _, _, rfl, NQ.out.below hT9.below, q8, by decide, by omega, by decide, HQ.out⟩
      · rw [if_pos (by decide)]; trivial
    case s2_7 =>
      rw [if_neg (by decide)]
      constructor
      · rw [if_neg (by decide)]
        intro t9 w9 hT9 hV9 hO9 K9 hK9
        obtain ⟨x9_6, p9_6, q9_6⟩ := hV9 6 47 rfl rfl (of_decide_eq_true (by kernel_rfl))
        replace q9_6 : ((fun v w' => NumOk 100000 z w' v)) x9_6 _ := q9_6
        clear hV9 hO9
        obtain ⟨neg, y1, y2, a9, b9, rfl, g1, g2, g3, g4, g5, g6⟩ := q9_6
        go_simp
        refine (lowest_any neg y1 y2 a9 b9 _ g1 g2 (by omega) (by omega) g3).mono ?_
        rintro e w8 ⟨hl, hb8⟩
        have he := HEND.out _ (by rw [g6]; exact hl.toRat g3)
        subst he
        exact hK9 _ _ hb8 rfl
      · rw [if_pos (by decide)]; trivial
    case s2_8 =>
      rw [if_neg (by decide)]
      constructor
      · rw [if_neg (by decide)]
        intro t9 w9 hT9 hV9 hO9 K9 hK9
        obtain ⟨x9_7, p9_7, q9_7⟩ := hV9 7 48 rfl rfl (of_decide_eq_true (by kernel_rfl))
        obtain rfl : x9_7 = (.tuple #[.agg #[.bool nz, .string sz, .string tz], .int .i64 kz]) := q9_7
        clear hV9 hO9
        go_simp
        (refine hK9 _ _ (Grow.refl _) ?_; exact rfl)
      · rw [if_pos (by decide)]; trivial
    case s2_9 =>
      rw [if_neg (by decide)]
      constructor
      · rw [if_neg (by decide)]
        intro t9 w9 hT9 hV9 hO9 K9 hK9
        obtain ⟨x9_7, p9_7, q9_7⟩ := hV9 7 48 rfl rfl (of_decide_eq_true (by kernel_rfl))
        obtain rfl : x9_7 = (.tuple #[.agg #[.bool nz, .string sz, .string tz], .int .i64 kz]) := q9_7
        clear hV9 hO9
        go_simp
        (refine hK9 _ _ (Grow.refl _) ?_; exact rfl)
      · rw [if_pos (by decide)]; trivial
    case s2_10 =>
      rw [if_pos (by decide)]
      intro t9 w9 hT9 hV9 hO9 K9 hK9
      obtain ⟨x9_8, p9_8, q9_8⟩ := hV9 8 49 (by decide) rfl (of_decide_eq_true (by kernel_rfl))
      obtain rfl : x9_8 = ?v2_8 := q9_8
      have o9_2 := hO9 2 _ (.inl (show List.contains _ _ = false from by kernel_rfl)) rfl
      clear hV9 hO9
      have og := o3.below hT9.below o3.lt
      have hg0 : w9.cell? ⟨w.heap.size + 1, 0, none⟩ = some (.bool false) := og.cell 0
      have hg1 : w9.cell? ⟨w.heap.size + 1, 1, none⟩ = some (.string ⟨#[]⟩) := og.cell 1
      have hg2 : w9.cell? ⟨w.heap.size + 1, 2, none⟩ = some (.string ⟨#[]⟩) := og.cell 2
      have hf0 := og.frozen 0
      have hf1 := og.frozen 1
      have hf2 := og.frozen 2
      have HE := Lib.hid (⟨Below.set3 (below6 hbw hT9.below) (by omega) _ _ _, og.set3 _ _ _⟩ : (fun w' => Below w.heap.size w w' ∧ Own w' (w.heap.size + 1) 33 [.bool nz, .string sz, .string tz]) ((((w9.setCell ⟨w.heap.size + 1, 0, none⟩ (.bool nz)).setCell ⟨w.heap.size + 1, 1, none⟩ (.string sz)).setCell ⟨w.heap.size + 1, 2, none⟩ (.string tz))))
      go_simp
      exact hK9 undef _ HE.out trivial
    case s2_11 =>
      rw [if_neg (by decide)]
      constructor
      · rw [if_pos (by rfl)]; trivial
      · rw [if_neg (by decide)]
        intro t9 w9 hV9 hO9 K9 hK9
        obtain ⟨x9_9, p9_9, q9_9⟩ := hV9 9 50 rfl rfl (of_decide_eq_true (by kernel_rfl))
        obtain ⟨_, q9_9⟩ := q9_9.pre (by decide)
        obtain rfl : x9_9 = ?v2_9 := q9_9
        clear hV9 hO9
        go_simp
        (refine hK9 _ ?_; exact rfl)
    case k2 =>
      intro i9 v9 w9 x9 h9 g9
      match i9, h9 with
      | 0, h9 => exact h9
      | 1, h9 => exact h9
      | 2, h9 => exact h9
      | 3, h9 => exact h9
      | 4, h9 => exact h9
      | 5, h9 => (replace h9 : (fun v w' => NatV w' v 1) v9 w9 := h9); exact NatV.below h9 g9
      | 6, h9 => (replace h9 : (fun v w' => NumOk 100000 z w' v) v9 w9 := h9); exact NumOk.below h9 g9
      | 7, h9 => exact h9
      | 8, h9 => exact h9
      | 9, h9 => exact h9
      | 10, h9 => exact h9
      | 11, h9 => exact h9
      | _ + 12, h9 => exact trivial
    case m2 =>
      intro i9 v9 w9 x9 ha9 hs9 h9
      match i9, ha9, hs9, h9 with
      | 0, ha9, hs9, h9 => exact absurd (by decide) ha9
      | 1, ha9, hs9, h9 => exact absurd (by decide) ha9
      | 2, ha9, hs9, h9 => exact absurd (by decide) ha9
      | 3, ha9, hs9, h9 => exact absurd (by decide) ha9
      | 4, ha9, hs9, h9 => exact absurd (by decide) ha9
      | 5, ha9, hs9, h9 => exact absurd (by decide) ha9
      | 6, ha9, hs9, h9 => exact absurd (by decide) ha9
      | 7, ha9, hs9, h9 => exact absurd (by decide) ha9
      | 8, ha9, hs9, h9 => exact absurd (by decide) ha9
      | 9, ha9, hs9, h9 => exact absurd (by decide) ha9
      | 10, ha9, hs9, h9 => exact absurd rfl hs9
      | 11, ha9, hs9, h9 => exact False.elim h9
      | _ + 12, ha9, hs9, h9 => exact trivial
    intro u9 w9 hE9 hu9
    obtain ⟨_, r9_0⟩ := (hu9 0 (by decide)).pre (by decide)
    replace r9_0 : u9 0 = ?v2_0 := r9_0
    obtain ⟨_, r9_1⟩ := (hu9 1 (by decide)).pre (by decide)
    replace r9_1 : u9 1 = ?v2_1 := r9_1
    obtain ⟨_, r9_2⟩ := (hu9 2 (by decide)).pre (by decide)
    replace r9_2 : u9 2 = ?v2_2 := r9_2
    obtain ⟨_, r9_3⟩ := (hu9 3 (by decide)).pre (by decide)
    replace r9_3 : u9 3 = ?v2_3 := r9_3
    obtain ⟨_, r9_4⟩ := (hu9 4 (by decide)).pre (by decide)
    replace r9_4 : u9 4 = ?v2_4 := r9_4
    obtain ⟨_, r9_7⟩ := (hu9 7 (by decide)).pre (by decide)
    replace r9_7 : u9 7 = (.tuple #[.agg #[.bool nz, .string sz, .string tz], .int .i64 kz]) := r9_7
    obtain ⟨_, r9_8⟩ := (hu9 8 (by decide)).pre (by decide)
    replace r9_8 : u9 8 = ?v2_8 := r9_8
    obtain ⟨_, r9_9⟩ := (hu9 9 (by decide)).pre (by decide)
    replace r9_9 : u9 9 = ?v2_9 := r9_9
    have r9_11 : u9 11 = ?w2_11 := (hu9 11 (by decide)).late (by decide)
    clear hu9
    obtain ⟨sz9, oz⟩ := hE9
    simp only [putAll, Act.put, List.setIfInBounds_toArray, List.set_cons_succ, List.set_cons_zero, List.getD_cons_succ, List.getD_cons_zero, Nat.reduceAdd, Nat.zero_add]
    simp only [r9_0, r9_1, r9_2, r9_3, r9_4, r9_7, r9_8, r9_9, r9_11]
    clear r9_0 r9_1 r9_2 r9_3 r9_4 r9_7 r9_8 r9_9 r9_11
    go_wp2_with fail
    have z0 : w9.cell? ⟨w.heap.size + 1, 0, none⟩ = some (.bool nz) := oz.cell 0
    have z1 : w9.cell? ⟨w.heap.size + 1, 1, none⟩ = some (.string sz) := oz.cell 1
    have z2 : w9.cell? ⟨w.heap.size + 1, 2, none⟩ = some (.string tz) := oz.cell 2
    exact bodyPost_ret (v := .tuple #[.agg #[.bool nz, .string sz, .string tz], .int .i64 kz]) (by simp [results, Try.results29, go_sem, z0, z1, z2]) rfl ⟨HRES.out, sz9⟩
  · have HQ := Lib.hid (HZ.out.2 hn)
    cases n1 with
    | false =>
      clear hn HZ
      obtain ⟨n1, hn1⟩ : ∃ n1 : Bool, n1 = false := ⟨_, rfl⟩
      have c9 : we.cell? ⟨r, 0, none⟩ = some (.bool false) := orow.cell 0
      have c0 := c9
      go_upto_region 7 with (fail)
      refine wp_reg_st [some 41, some 42, some 43, some 44, some 45, some 46, some 47, some 48, some 49, some 50, none, some 3] [isV ?v3_0, isV ?v3_1, isV ?v3_2, isV ?v3_3, isV ?v3_4, (fun v w' => NatV w' v 1), (fun v w' => NumOk 100000 z w' v), isV (.tuple #[.agg #[.bool nz, .string sz, .string tz], .int .i64 kz]), isV ?v3_8, isV ?v3_9, fun _ _ => False, fun _ _ => False] [anyV, anyV, anyV, anyV, anyV, anyV, anyV, anyV, anyV, anyV, anyV, isV ?w3_11] 10 [0, 1, 2, 3, 4, 5, 6, 7, 8, 9] (fun _ => fun w' => Below w.heap.size w w' ∧ Own w' (w.heap.size + 1) 33 [.bool nz, .string sz, .string tz]) rfl (by kernel_rfl) rfl rfl (by decide) (by kernel_rfl) (by kernel_rfl) (fun _ _ _ _ h => h) ?k3 ?m3 ⟨?s3_0, ?s3_1, ?s3_2, ?s3_3, ?s3_4, ?s3_5, ?s3_6, ?s3_7, ?s3_8, ?s3_9, ?s3_10, ?s3_11, trivial⟩ ?p3
      case s3_0 =>
        rw [if_neg (by decide)]
        constructor
        · rw [if_neg (by decide)]
          intro t9 w9 hT9 hV9 hO9 K9 hK9
          have o9_4 := hO9 4 _ (.inl (show List.contains _ _ = false from by kernel_rfl)) rfl
          clear hV9 hO9
          go_simp
          (refine hK9 _ _ (Grow.refl _) ?_; exact rfl)
        · rw [if_pos (by decide)]; trivial
      case s3_1 =>
        rw [if_neg (by decide)]
        constructor
        · rw [if_neg (by decide)]
          intro t9 w9 hT9 hV9 hO9 K9 hK9
          obtain ⟨x9_0, p9_0, q9_0⟩ := hV9 0 41 rfl rfl (of_decide_eq_true (by kernel_rfl))
          obtain rfl : x9_0 = ?v3_0 := q9_0
          clear hV9 hO9
          go_simp
          (refine hK9 _ _ (Grow.refl _) ?_; exact rfl)
        · rw [if_pos (by decide)]; trivial
      case s3_2 =>
        rw [if_neg (by decide)]
        constructor
        · rw [if_neg (by decide)]
          intro t9 w9 hT9 hV9 hO9 K9 hK9
          obtain ⟨x9_1, p9_1, q9_1⟩ := hV9 1 42 rfl rfl (of_decide_eq_true (by kernel_rfl))
          obtain rfl : x9_1 = ?v3_1 := q9_1
          clear hV9 hO9
          go_simp
          (refine hK9 _ _ (Grow.refl _) ?_; exact rfl)
        · rw [if_pos (by decide)]; trivial
      case s3_3 =>
        rw [if_neg (by decide)]
        constructor
        · rw [if_neg (by decide)]
          intro t9 w9 hT9 hV9 hO9 K9 hK9
          obtain ⟨x9_2, p9_2, q9_2⟩ := hV9 2 43 rfl rfl (of_decide_eq_true (by kernel_rfl))
          obtain rfl : x9_2 = ?v3_2 := q9_2
          clear hV9 hO9
          have d9_0 := grow_cell hT9 c0
          go_simp
          (refine hK9 _ _ (Grow.refl _) ?_; exact rfl)
        · rw [if_pos (by decide)]; trivial
      case s3_4 =>
        rw [if_neg (by decide)]
        constructor
        · rw [if_neg (by decide)]
          intro t9 w9 hT9 hV9 hO9 K9 hK9
          have o9_6 := hO9 6 _ (.inl (show List.contains _ _ = false from by kernel_rfl)) rfl
          clear hV9 hO9
          go_simp
          (refine hK9 _ _ (Grow.refl _) ?_; exact rfl)
        · rw [if_pos (by decide)]; trivial
      case s3_5 =>
        rw [if_neg (by decide)]
        constructor
        · rw [if_neg (by decide)]
          intro t9 w9 hT9 hV9 hO9 K9 hK9
          clear hV9 hO9
          go_simp
          refine (of_any 1 _ (by decide)).mono ?_
          rintro _ w8 ⟨v8, rfl, hv8, hb8⟩
          exact hK9 _ _ hb8 hv8
        · rw [if_pos (by decide)]; trivial
      case s3_6 =>
        rw [if_neg (by decide)]
        constructor
        · rw [if_neg (by decide)]
          intro t9 w9 hT9 hV9 hO9 K9 hK9
          obtain ⟨x9_3, p9_3, q9_3⟩ := hV9 3 44 rfl rfl (of_decide_eq_true (by kernel_rfl))
          obtain rfl : x9_3 = ?v3_3 := q9_3
          obtain ⟨x9_4, p9_4, q9_4⟩ := hV9 4 45 rfl rfl (of_decide_eq_true (by kernel_rfl))
          obtain rfl : x9_4 = ?v3_4 := q9_4
          obtain ⟨x9_5, p9_5, q9_5⟩ := hV9 5 46 rfl rfl (of_decide_eq_true (by kernel_rfl))
          replace q9_5 : ((fun v w' => NatV w' v 1)) x9_5 _ := q9_5
          clear hV9 hO9
          have q8 := q9_5
          obtain ⟨A8, k8, rfl, -⟩ := q9_5
          go_simp
          exact hK9 _ _ (Grow.refl _) ⟨_, _, _, _, _, rfl, NQ.out.below hT9.below, q8, by decide, by omega, by decide, HQ.out⟩
        · rw [if_pos (by decide)]; trivial
      case s3_7 =>
        rw [if_neg (by decide)]
        constructor
        · rw [if_neg (by decide)]
          intro t9 w9 hT9 hV9 hO9 K9 hK9
          obtain ⟨x9_6, p9_6, q9_6⟩ := hV9 6 47 rfl rfl (of_decide_eq_true (by kernel_rfl))
          replace q9_6 : ((fun v w' => NumOk 100000 z w' v)) x9_6 _ := q9_6
          clear hV9 hO9
          obtain ⟨neg, y1, y2, a9, b9, rfl, g1, g2, g3, g4, g5, g6⟩ := q9_6
          go_simp
          refine (lowest_any neg y1 y2 a9 b9 _ g1 g2 (by omega) (by omega) g3).mono ?_
          rintro e w8 ⟨hl, hb8⟩
          have he := HEND.out _ (by rw [g6]; exact hl.toRat g3)
          subst he
          exact hK9 _ _ hb8 rfl
        · rw [if_pos (by decide)]; trivial
      case s3_8 =>
        rw [if_neg (by decide)]
        constructor
        · rw [if_neg (by decide)]
          intro t9 w9 hT9 hV9 hO9 K9 hK9
          obtain ⟨x9_7, p9_7, q9_7⟩ := hV9 7 48 rfl rfl (of_decide_eq_true (by kernel_rfl))
          obtain rfl : x9_7 = (.tuple #[.agg #[.bool nz, .string sz, .string tz], .int .i64 kz]) := q9_7
          clear hV9 hO9
          go_simp
          (refine hK9 _ _ (Grow.refl _) ?_; exact rfl)
        · rw [if_pos (by decide)]; trivial
      case s3_9 =>
        rw [if_neg (by decide)]
        constructor
        · rw [if_neg (by decide)]
          intro t9 w9 hT9 hV9 hO9 K9 hK9
          obtain ⟨x9_7, p9_7, q9_7⟩ := hV9 7 48 rfl rfl (of_decide_eq_true (by kernel_rfl))
          obtain rfl : x9_7 = (.tuple #[.agg #[.bool nz, .string sz, .string tz], .int .i64 kz]) := q9_7
          clear hV9 hO9
          go_simp
          (refine hK9 _ _ (Grow.refl _) ?_; exact rfl)
        · rw [if_pos (by decide)]; trivial
      case s3_10 =>
        rw [if_pos (by decide)]
        intro t9 w9 hT9 hV9 hO9 K9 hK9
        obtain ⟨x9_8, p9_8, q9_8⟩ := hV9 8 49 (by decide) rfl (of_decide_eq_true (by kernel_rfl))
        obtain rfl : x9_8 = ?v3_8 := q9_8
        have o9_2 := hO9 2 _ (.inl (show List.contains _ _ = false from by kernel_rfl)) rfl
        clear hV9 hO9
        have og := o3.below hT9.below o3.lt
        have hg0 : w9.cell? ⟨w.heap.size + 1, 0, none⟩ = some (.bool false) := og.cell 0
        have hg1 : w9.cell? ⟨w.heap.size + 1, 1, none⟩ = some (.string ⟨#[]⟩) := og.cell 1
        have hg2 : w9.cell? ⟨w.heap.size + 1, 2, none⟩ = some (.string ⟨#[]⟩) := og.cell 2
        have hf0 := og.frozen 0
        have hf1 := og.frozen 1
        have hf2 := og.frozen 2
        have HE := Lib.hid (⟨Below.set3 (below6 hbw hT9.below) (by omega) _ _ _, og.set3 _ _ _⟩ : (fun w' => Below w.heap.size w w' ∧ Own w' (w.heap.size + 1) 33 [.bool nz, .string sz, .string tz]) ((((w9.setCell ⟨w.heap.size + 1, 0, none⟩ (.bool nz)).setCell ⟨w.heap.size + 1, 1, none⟩ (.string sz)).setCell ⟨w.heap.size + 1, 2, none⟩ (.string tz))))
        go_simp
        exact hK9 undef _ HE.out trivial
      case s3_11 =>
        rw [if_neg (by decide)]
        constructor
        · rw [if_pos (by rfl)]; trivial
        · rw [if_neg (by decide)]
          intro t9 w9 hV9 hO9 K9 hK9
          obtain ⟨x9_9, p9_9, q9_9⟩ := hV9 9 50 rfl rfl (of_decide_eq_true (by kernel_rfl))
          obtain ⟨_, q9_9⟩ := q9_9.pre (by decide)
          obtain rfl : x9_9 = ?v3_9 := q9_9
          clear hV9 hO9
          go_simp
          (refine hK9 _ ?_; exact rfl)
      case k3 =>
        intro i9 v9 w9 x9 h9 g9
        match i9, h9 with
        | 0, h9 => exact h9
        | 1, h9 => exact h9
        | 2, h9 => exact h9
        | 3, h9 => exact h9
        | 4, h9 => exact h9
        | 5, h9 => (replace h9 : (fun v w' => NatV w' v 1) v9 w9 := h9); exact NatV.below h9 g9
        | 6, h9 => (replace h9 : (fun v w' => NumOk 100000 z w' v) v9 w9 := h9); exact NumOk.below h9 g9
        | 7, h9 => exact h9
        | 8, h9 => exact h9
        | 9, h9 => exact h9
        | 10, h9 => exact h9
        | 11, h9 => exact h9
        | _ + 12, h9 => exact trivial
      case m3 =>
        intro i9 v9 w9 x9 ha9 hs9 h9
        match i9, ha9, hs9, h9 with
        | 0, ha9, hs9, h9 => exact absurd (by decide) ha9
        | 1, ha9, hs9, h9 => exact absurd (by decide) ha9
        | 2, ha9, hs9, h9 => exact absurd (by decide) ha9
        | 3, ha9, hs9, h9 => exact absurd (by decide) ha9
        | 4, ha9, hs9, h9 => exact absurd (by decide) ha9
        | 5, ha9, hs9, h9 => exact absurd (by decide) ha9
        | 6, ha9, hs9, h9 => exact absurd (by decide) ha9
        | 7, ha9, hs9, h9 => exact absurd (by decide) ha9
        | 8, ha9, hs9, h9 => exact absurd (by decide) ha9
        | 9, ha9, hs9, h9 => exact absurd (by decide) ha9
        | 10, ha9, hs9, h9 => exact absurd rfl hs9
        | 11, ha9, hs9, h9 => exact False.elim h9
        | _ + 12, ha9, hs9, h9 => exact trivial
      intro u9 w9 hE9 hu9
      obtain ⟨_, r9_0⟩ := (hu9 0 (by decide)).pre (by decide)
      replace r9_0 : u9 0 = ?v3_0 := r9_0
      obtain ⟨_, r9_1⟩ := (hu9 1 (by decide)).pre (by decide)
      replace r9_1 : u9 1 = ?v3_1 := r9_1
      obtain ⟨_, r9_2⟩ := (hu9 2 (by decide)).pre (by decide)
      replace r9_2 : u9 2 = ?v3_2 := r9_2
      obtain ⟨_, r9_3⟩ := (hu9 3 (by decide)).pre (by decide)
      replace r9_3 : u9 3 = ?v3_3 := r9_3
      obtain ⟨_, r9_4⟩ := (hu9 4 (by decide)).pre (by decide)
      replace r9_4 : u9 4 = ?v3_4 := r9_4
      obtain ⟨_, r9_7⟩ := (hu9 7 (by decide)).pre (by decide)
      replace r9_7 : u9 7 = (.tuple #[.agg #[.bool nz, .string sz, .string tz], .int .i64 kz]) := r9_7
      obtain ⟨_, r9_8⟩ := (hu9 8 (by decide)).pre (by decide)
      replace r9_8 : u9 8 = ?v3_8 := r9_8
      obtain ⟨_, r9_9⟩ := (hu9 9 (by decide)).pre (by decide)
      replace r9_9 : u9 9 = ?v3_9 := r9_9
      have r9_11 : u9 11 = ?w3_11 := (hu9 11 (by decide)).late (by decide)
      clear hu9
      obtain ⟨sz9, oz⟩ := hE9
      simp only [putAll, Act.put, List.setIfInBounds_toArray, List.set_cons_succ, List.set_cons_zero, List.getD_cons_succ, List.getD_cons_zero, Nat.reduceAdd, Nat.zero_add]
      simp only [r9_0, r9_1, r9_2, r9_3, r9_4, r9_7, r9_8, r9_9, r9_11]
      clear r9_0 r9_1 r9_2 r9_3 r9_4 r9_7 r9_8 r9_9 r9_11
      go_wp2_with fail
      have z0 : w9.cell? ⟨w.heap.size + 1, 0, none⟩ = some (.bool nz) := oz.cell 0
      have z1 : w9.cell? ⟨w.heap.size + 1, 1, none⟩ = some (.string sz) := oz.cell 1
      have z2 : w9.cell? ⟨w.heap.size + 1, 2, none⟩ = some (.string tz) := oz.cell 2
      exact bodyPost_ret (v := .tuple #[.agg #[.bool nz, .string sz, .string tz], .int .i64 kz]) (by simp [results, Try.results29, go_sem, z0, z1, z2]) rfl ⟨HRES.out, sz9⟩
    | true =>
      have hr0 : (dw (a % b)).length = 0 := by
        rcases Nat.eq_zero_or_pos (a % b) with e | e
        · rw [e]; rfl
        · exact absurd ⟨rfl, e⟩ hn
      rw [hr0]
      clear hn hr0 hk6 HZ
      have c0 : we.cell? ⟨r, 0, none⟩ = some (.bool true) := orow.cell 0
      go_upto_region 7 with (fail)
      refine wp_reg_st [some 41, some 42, some 43, some 44, some 45, some 46, some 47, some 48, some 49, some 50, none, some 3] [isV ?v4_0, isV ?v4_1, isV ?v4_2, isV ?v4_3, isV ?v4_4, (fun v w' => NatV w' v 1), (fun v w' => NumOk 100000 z w' v), isV (.tuple #[.agg #[.bool nz, .string sz, .string tz], .int .i64 kz]), isV ?v4_8, isV ?v4_9, fun _ _ => False, fun _ _ => False] [anyV, anyV, anyV, anyV, anyV, anyV, anyV, anyV, anyV, anyV, anyV, isV ?w4_11] 10 [0, 1, 2, 3, 4, 5, 6, 7, 8, 9] (fun _ => fun w' => Below w.heap.size w w' ∧ Own w' (w.heap.size + 1) 33 [.bool nz, .string sz, .string tz]) rfl (by kernel_rfl) rfl rfl (by decide) (by kernel_rfl) (by kernel_rfl) (fun _ _ _ _ h => h) ?k4 ?m4 ⟨?s4_0, ?s4_1, ?s4_2, ?s4_3, ?s4_4, ?s4_5, ?s4_6, ?s4_7, ?s4_8, ?s4_9, ?s4_10, ?s4_11, trivial⟩ ?p4
      case s4_0 =>
        rw [if_neg (by decide)]
        constructor
        · rw [if_neg (by decide)]
          intro t9 w9 hT9 hV9 hO9 K9 hK9
          have o9_4 := hO9 4 _ (.inl (show List.contains _ _ = false from by kernel_rfl)) rfl
          clear hV9 hO9
          go_simp
          (refine hK9 _ _ (Grow.refl _) ?_; exact rfl)
        · rw [if_pos (by decide)]; trivial
      case s4_1 =>
        rw [if_neg (by decide)]
        constructor
        · rw [if_neg (by decide)]
          intro t9 w9 hT9 hV9 hO9 K9 hK9
          obtain ⟨x9_0, p9_0, q9_0⟩ := hV9 0 41 rfl rfl (of_decide_eq_true (by kernel_rfl))
          obtain rfl : x9_0 = ?v4_0 := q9_0
          clear hV9 hO9
          go_simp
          (refine hK9 _ _ (Grow.refl _) ?_; exact rfl)
        · rw [if_pos (by decide)]; trivial
      case s4_2 =>
        rw [if_neg (by decide)]
        constructor
        · rw [if_neg (by decide)]
          intro t9 w9 hT9 hV9 hO9 K9 hK9
          obtain ⟨x9_1, p9_1, q9_1⟩ := hV9 1 42 rfl rfl (of_decide_eq_true (by kernel_rfl))
          obtain rfl : x9_1 = ?v4_1 := q9_1
          clear hV9 hO9
          go_simp
          (refine hK9 _ _ (Grow.refl _) ?_; exact rfl)
        · rw [if_pos (by decide)]; trivial
      case s4_3 =>
        rw [if_neg (by decide)]
        constructor
        · rw [if_neg (by decide)]
          intro t9 w9 hT9 hV9 hO9 K9 hK9
          obtain ⟨x9_2, p9_2, q9_2⟩ := hV9 2 43 rfl rfl (of_decide_eq_true (by kernel_rfl))
          obtain rfl : x9_2 = ?v4_2 := q9_2
          clear hV9 hO9
          have d9_0 := grow_cell hT9 c0
          go_simp
          (refine hK9 _ _ (Grow.refl _) ?_; exact rfl)
        · rw [if_pos (by decide)]; trivial
      case s4_4 =>
        rw [if_neg (by decide)]
        constructor
        · rw [if_neg (by decide)]
          intro t9 w9 hT9 hV9 hO9 K9 hK9
          have o9_6 := hO9 6 _ (.inl (show List.contains _ _ = false from by kernel_rfl)) rfl
          clear hV9 hO9
          go_simp
          (refine hK9 _ _ (Grow.refl _) ?_; exact rfl)
        · rw [if_pos (by decide)]; trivial
      case s4_5 =>
        rw [if_neg (by decide)]
        constructor
        · rw [if_neg (by decide)]
          intro t9 w9 hT9 hV9 hO9 K9 hK9
          clear hV9 hO9
          go_simp
          refine (of_any 1 _ (by decide)).mono ?_
          rintro _ w8 ⟨v8, rfl, hv8, hb8⟩
          exact hK9 _ _ hb8 hv8
        · rw [if_pos (by decide)]; trivial
      case s4_6 =>
        rw [if_neg (by decide)]
        constructor
        · rw [if_neg (by decide)]
          intro t9 w9 hT9 hV9 hO9 K9 hK9
          obtain ⟨x9_3, p9_3, q9_3⟩ := hV9 3 44 rfl rfl (of_decide_eq_true (by kernel_rfl))
          obtain rfl : x9_3 = ?v4_3 := q9_3
          obtain ⟨x9_4, p9_4, q9_4⟩ := hV9 4 45 rfl rfl (of_decide_eq_true (by kernel_rfl))
          obtain rfl : x9_4 = ?v4_4 := q9_4
          obtain ⟨x9_5, p9_5, q9_5⟩ := hV9 5 46 rfl rfl (of_decide_eq_true (by kernel_rfl))
          replace q9_5 : ((fun v w' => NatV w' v 1)) x9_5 _ := q9_5
          clear hV9 hO9
          have q8 := q9_5
          obtain ⟨A8, k8, rfl, -⟩ := q9_5
          go_simp
          exact hK9 _ _ (Grow.refl _) ⟨_, _, _, _, _, rfl, NQ.out.below hT9.below, q8, by decide, by omega, by decide, HQ.out⟩
        · rw [if_pos (by decide)]; trivial
      case s4_7 =>
        rw [if_neg (by decide)]
        constructor
        · rw [if_neg (by decide)]
          intro t9 w9 hT9 hV9 hO9 K9 hK9
          obtain ⟨x9_6, p9_6, q9_6⟩ := hV9 6 47 rfl rfl (of_decide_eq_true (by kernel_rfl))
          replace q9_6 : ((fun v w' => NumOk 100000 z w' v)) x9_6 _ := q9_6
          clear hV9 hO9
          obtain ⟨neg, y1, y2, a9, b9, rfl, g1, g2, g3, g4, g5, g6⟩ := q9_6
          go_simp
          refine (lowest_any neg y1 y2 a9 b9 _ g1 g2 (by omega) (by omega) g3).mono ?_
          rintro e w8 ⟨hl, hb8⟩
          have he := HEND.out _ (by rw [g6]; exact hl.toRat g3)
          subst he
          exact hK9 _ _ hb8 rfl
        · rw [if_pos (by decide)]; trivial
      case s4_8 =>
        rw [if_neg (by decide)]
        constructor
        · rw [if_neg (by decide)]
          intro t9 w9 hT9 hV9 hO9 K9 hK9
          obtain ⟨x9_7, p9_7, q9_7⟩ := hV9 7 48 rfl rfl (of_decide_eq_true (by kernel_rfl))
          obtain rfl : x9_7 = (.tuple #[.agg #[.bool nz, .string sz, .string tz], .int .i64 kz]) := q9_7
          clear hV9 hO9
          go_simp
          (refine hK9 _ _ (Grow.refl _) ?_; exact rfl)
        · rw [if_pos (by decide)]; trivial
      case s4_9 =>
        rw [if_neg (by decide)]
        constructor
        · rw [if_neg (by decide)]
          intro t9 w9 hT9 hV9 hO9 K9 hK9
          obtain ⟨x9_7, p9_7, q9_7⟩ := hV9 7 48 rfl rfl (of_decide_eq_true (by kernel_rfl))
          obtain rfl : x9_7 = (.tuple #[.agg #[.bool nz, .string sz, .string tz], .int .i64 kz]) := q9_7
          clear hV9 hO9
          go_simp
          (refine hK9 _ _ (Grow.refl _) ?_; exact rfl)
        · rw [if_pos (by decide)]; trivial
      case s4_10 =>
        rw [if_pos (by decide)]
        intro t9 w9 hT9 hV9 hO9 K9 hK9
        obtain ⟨x9_8, p9_8, q9_8⟩ := hV9 8 49 (by decide) rfl (of_decide_eq_true (by kernel_rfl))
        obtain rfl : x9_8 = ?v4_8 := q9_8
        have o9_2 := hO9 2 _ (.inl (show List.contains _ _ = false from by kernel_rfl)) rfl
        clear hV9 hO9
        have og := o3.below hT9.below o3.lt
        have hg0 : w9.cell? ⟨w.heap.size + 1, 0, none⟩ = some (.bool false) := og.cell 0
        have hg1 : w9.cell? ⟨w.heap.size + 1, 1, none⟩ = some (.string ⟨#[]⟩) := og.cell 1
        have hg2 : w9.cell? ⟨w.heap.size + 1, 2, none⟩ = some (.string ⟨#[]⟩) := og.cell 2
        have hf0 := og.frozen 0
        have hf1 := og.frozen 1
        have hf2 := og.frozen 2
        have HE := Lib.hid (⟨Below.set3 (below6 hbw hT9.below) (by omega) _ _ _, og.set3 _ _ _⟩ : (fun w' => Below w.heap.size w w' ∧ Own w' (w.heap.size + 1) 33 [.bool nz, .string sz, .string tz]) ((((w9.setCell ⟨w.heap.size + 1, 0, none⟩ (.bool nz)).setCell ⟨w.heap.size + 1, 1, none⟩ (.string sz)).setCell ⟨w.heap.size + 1, 2, none⟩ (.string tz))))
        go_simp
        exact hK9 undef _ HE.out trivial
      case s4_11 =>
        rw [if_neg (by decide)]
        constructor
        · rw [if_pos (by rfl)]; trivial
        · rw [if_neg (by decide)]
          intro t9 w9 hV9 hO9 K9 hK9
          obtain ⟨x9_9, p9_9, q9_9⟩ := hV9 9 50 rfl rfl (of_decide_eq_true (by kernel_rfl))
          obtain ⟨_, q9_9⟩ := q9_9.pre (by decide)
          obtain rfl : x9_9 = ?v4_9 := q9_9
          clear hV9 hO9
          go_simp
          (refine hK9 _ ?_; exact rfl)
      case k4 =>
        intro i9 v9 w9 x9 h9 g9
        match i9, h9 with
        | 0, h9 => exact h9
        | 1, h9 => exact h9
        | 2, h9 => exact h9
        | 3, h9 => exact h9
        | 4, h9 => exact h9
        | 5, h9 => (replace h9 : (fun v w' => NatV w' v 1) v9 w9 := h9); exact NatV.below h9 g9
        | 6, h9 => (replace h9 : (fun v w' => NumOk 100000 z w' v) v9 w9 := h9); exact NumOk.below h9 g9
        | 7, h9 => exact h9
        | 8, h9 => exact h9
        | 9, h9 => exact h9
        | 10, h9 => exact h9
        | 11, h9 => exact h9
        | _ + 12, h9 => exact trivial
      case m4 =>
        intro i9 v9 w9 x9 ha9 hs9 h9
        match i9, ha9, hs9, h9 with
        | 0, ha9, hs9, h9 => exact absurd (by decide) ha9
        | 1, ha9, hs9, h9 => exact absurd (by decide) ha9
        | 2, ha9, hs9, h9 => exact absurd (by decide) ha9
        | 3, ha9, hs9, h9 => exact absurd (by decide) ha9
        | 4, ha9, hs9, h9 => exact absurd (by decide) ha9
        | 5, ha9, hs9, h9 => exact absurd (by decide) ha9
        | 6, ha9, hs9, h9 => exact absurd (by decide) ha9
        | 7, ha9, hs9, h9 => exact absurd (by decide) ha9
        | 8, ha9, hs9, h9 => exact absurd (by decide) ha9
        | 9, ha9, hs9, h9 => exact absurd (by decide) ha9
        | 10, ha9, hs9, h9 => exact absurd rfl hs9
        | 11, ha9, hs9, h9 => exact False.elim h9
        | _ + 12, ha9, hs9, h9 => exact trivial
      intro u9 w9 hE9 hu9
      obtain ⟨_, r9_0⟩ := (hu9 0 (by decide)).pre (by decide)
      replace r9_0 : u9 0 = ?v4_0 := r9_0
      obtain ⟨_, r9_1⟩ := (hu9 1 (by decide)).pre (by decide)
      replace r9_1 : u9 1 = ?v4_1 := r9_1
      obtain ⟨_, r9_2⟩ := (hu9 2 (by decide)).pre (by decide)
      replace r9_2 : u9 2 = ?v4_2 := r9_2
      obtain ⟨_, r9_3⟩ := (hu9 3 (by decide)).pre (by decide)
      replace r9_3 : u9 3 = ?v4_3 := r9_3
      obtain ⟨_, r9_4⟩ := (hu9 4 (by decide)).pre (by decide)
      replace r9_4 : u9 4 = ?v4_4 := r9_4
      obtain ⟨_, r9_7⟩ := (hu9 7 (by decide)).pre (by decide)
      replace r9_7 : u9 7 = (.tuple #[.agg #[.bool nz, .string sz, .string tz], .int .i64 kz]) := r9_7
      obtain ⟨_, r9_8⟩ := (hu9 8 (by decide)).pre (by decide)
      replace r9_8 : u9 8 = ?v4_8 := r9_8
      obtain ⟨_, r9_9⟩ := (hu9 9 (by decide)).pre (by decide)
      replace r9_9 : u9 9 = ?v4_9 := r9_9
      have r9_11 : u9 11 = ?w4_11 := (hu9 11 (by decide)).late (by decide)
      clear hu9
      obtain ⟨sz9, oz⟩ := hE9
      simp only [putAll, Act.put, List.setIfInBounds_toArray, List.set_cons_succ, List.set_cons_zero, List.getD_cons_succ, List.getD_cons_zero, Nat.reduceAdd, Nat.zero_add]
      simp only [r9_0, r9_1, r9_2, r9_3, r9_4, r9_7, r9_8, r9_9, r9_11]
      clear r9_0 r9_1 r9_2 r9_3 r9_4 r9_7 r9_8 r9_9 r9_11
      go_wp2_with fail
      have z0 : w9.cell? ⟨w.heap.size + 1, 0, none⟩ = some (.bool nz) := oz.cell 0
      have z1 : w9.cell? ⟨w.heap.size + 1, 1, none⟩ = some (.string sz) := oz.cell 1
      have z2 : w9.cell? ⟨w.heap.size + 1, 2, none⟩ = some (.string tz) := oz.cell 2
      exact bodyPost_ret (v := .tuple #[.agg #[.bool nz, .string sz, .string tz], .int .i64 kz]) (by simp [results, Try.results29, go_sem, z0, z1, z2]) rfl ⟨HRES.out, sz9⟩
end Go.Proofs.Ytofijnhkoadfjaa
