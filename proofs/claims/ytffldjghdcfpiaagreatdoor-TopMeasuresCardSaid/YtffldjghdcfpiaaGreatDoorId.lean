/- Parts of the proof: Id. No condition of its own. -/
import Derived.Test.YtffldjghdcfpiaaGreatDoorIc
set_option linter.unusedSimpArgs false
set_option linter.unusedVariables false
set_option linter.unusedSectionVars false
set_option maxRecDepth 100000
set_option maxHeartbeats 4000000
namespace Go.Proofs.YtffldjghdcfpiaaGreatDoor
open Go.RowKit Dg

def Read2 (n1 : Bool) (a b : Nat) (n2 : Bool) (c d : Nat) (w : World) (e : Ending) (w' : World) : Prop :=
  ∃ r cap A1 k1 A2 k2 A3 k3 A4 k4 rest, e = .returned (.tuple #[.slice (some ⟨r, 0, none⟩) 2 cap, .bool true]) ∧ 2 ≤ cap ∧ cap ≤ maxLen ∧ w.heap.size ≤ r ∧
    Own w' r 47 (.bool n1 :: .slice A1 (dw a).length k1 :: .slice A2 (dw b).length k2 :: .bool n2 :: .slice A3 (dw c).length k3 :: .slice A4 (dw d).length k4 :: rest) ∧
    NatO (fun k => k = r) w' (.slice A1 (dw a).length k1) a ∧ NatO (fun k => k = r) w' (.slice A2 (dw b).length k2) b ∧ NatO (fun k => k = r) w' (.slice A3 (dw c).length k3) c ∧ NatO (fun k => k = r) w' (.slice A4 (dw d).length k4) d ∧ Below w.heap.size w w'
theorem own_of_row {w : World} {base size n : Nat} {e : TypeId} {v : Value} {xs : List Value} (h : w.ownsRow base e size v n xs) (h0 : 0 < n) : ∃ g cap rest, v = .slice (some ⟨g, 0, none⟩) n cap ∧ n ≤ cap ∧ cap ≤ maxLen ∧ base ≤ g ∧ Own w g e (xs ++ rest) := by
  rcases h.2 with ⟨_, h1⟩ | ⟨g, cap, cur, hv, hb, hg, h1, h2, _, h3⟩
  · omega
  · refine ⟨g, cap, cur.toList.drop (n * size), hv, h1, h2, hb, ?_⟩; unfold Own; rw [hg, ← h3, List.take_append_drop]
theorem natO_lit {S : Nat → Prop} {w : World} {v : Value} {n : Nat} (h : NatO S w v n) : ∃ A k, v = .slice A (dw n).length k := let ⟨A, k, e, _⟩ := h; ⟨A, k, e⟩
theorem read2_yes {x y : Rat} (hx : OkR x) (hy : OkR y) (g : Nat) (w : World) (ho : Own w g 26 [.bool (decide (x.num < 0)), .string (S x.num.natAbs), .string (S x.den), .bool (decide (y.num < 0)), .string (S y.num.natAbs), .string (S y.den)]) :
    Calls Tryz.prog 22 #[.slice (some ⟨g, 0, none⟩) 2 2] w (Read2 (decide (x.num < 0)) x.num.natAbs x.den (decide (y.num < 0)) y.num.natAbs y.den w) := by
  have hsz : ∀ {n : Nat}, OkN n → (S n).size ≤ maxLen := fun {n} h => by rw [S_size]; unfold OkN at h; unfold maxLen; omega
  refine (read_gen (some ⟨g, 0, none⟩) 2 [trip x, trip y] w ho.rd0 (by simp) (Nat.le_refl _) (by unfold maxLen; omega) (by
    intro t ht
    simp at ht
    rcases ht with rfl | rfl
    · exact ⟨hsz hx.1, hsz hx.2⟩
    · exact ⟨hsz hy.1, hsz hy.2⟩)).mono ?_
  rintro e w' (⟨xs, hxs, -, ⟨⟨v, cs, rfl, hrow, hnum⟩, hb⟩⟩ | ⟨⟨t, ht, hno⟩, -⟩)
  · have hxl : xs.length = 2 := by have := congrArg List.length hxs; simpa using this.symm
    obtain ⟨p, q, rfl⟩ : ∃ p q, xs = [p, q] := by
      match xs, hxl with
      | [p, q], _ => exact ⟨p, q, rfl⟩
    simp only [List.map_cons, List.map_nil, List.cons.injEq, trip, Prod.mk.injEq] at hxs
    obtain ⟨⟨e1, e2, e3⟩, ⟨e4, e5, e6⟩, -⟩ := hxs; have e2 := S_inj e2; have e3 := S_inj e3; have e5 := S_inj e5; have e6 := S_inj e6; obtain ⟨r, cap, rest, rfl, h1, h2, h3, hown⟩ := own_of_row hrow (by simp)
    match cs, hnum with
    | a :: b :: c :: d :: e :: f :: [], hnum =>
      obtain ⟨g1, g2, g3, g4, g5, g6, -⟩ := hnum; subst g1; subst g4; rw [← e2] at g2; rw [← e3] at g3; rw [← e5] at g5; rw [← e6] at g6; rw [← e1, ← e4] at hown; have hS : ∀ k, k = r → (Value.slice (some ⟨r, 0, none⟩) [p, q].length cap).ownBlock = some k := fun k hk => by rw [hk]; rfl
      have g2 := g2.to (T := fun k => k = r) (fun k _ hk => hS k hk); have g3 := g3.to (T := fun k => k = r) (fun k _ hk => hS k hk); have g5 := g5.to (T := fun k => k = r) (fun k _ hk => hS k hk); have g6 := g6.to (T := fun k => k = r) (fun k _ hk => hS k hk); obtain ⟨A1, k1, rfl⟩ := natO_lit g2; obtain ⟨A2, k2, rfl⟩ := natO_lit g3; obtain ⟨A3, k3, rfl⟩ := natO_lit g5; obtain ⟨A4, k4, rfl⟩ := natO_lit g6; exact ⟨r, cap, A1, k1, A2, k2, A3, k3, A4, k4, rest, rfl, h1, h2, h3, hown, g2, g3, g5, g6, hb⟩
  · exfalso
    simp at ht
    rcases ht with rfl | rfl
    · exact hno (isR_RV hx)
    · exact hno (isR_RV hy)
theorem ratRes_one (z : Rat) : ∃ n s t k, (∀ e, RatRes z e → e = .returned (.tuple #[.agg #[.bool n, .string s, .string t], .int .i64 k])) ∧ RatRes z (.returned (.tuple #[.agg #[.bool n, .string s, .string t], .int .i64 k])) := by
  by_cases h : OkR z
  · exact ⟨_, _, _, _, fun e he => he.ok h, .inl ⟨h, rfl⟩⟩
  · refine ⟨_, _, _, _, fun e he => ?_, .inr ⟨h, rfl⟩⟩
    rcases he with he | he
    · exact absurd he.1 h
    · exact he.2
theorem NumOk.below {L : Nat} {z : Rat} {w w' : World} {v : Value} (h : NumOk L z w v) (hb : Below w.heap.size w w') : NumOk L z w' v := by
  obtain ⟨neg, v1, v2, a, b, rfl, h1, h2, h3⟩ := h; exact ⟨neg, v1, v2, a, b, rfl, h1.below hb, h2.below hb, h3⟩
abbrev Rd2 (n1 n2 : Bool) (s1 t1 s2 t2 : ByteArray) (a b c d : Nat) : Prop := ∀ (g : Nat) (w : World), Own w g 26 [.bool n1, .string s1, .string t1, .bool n2, .string s2, .string t2] → Calls Tryz.prog 22 #[.slice (some ⟨g, 0, none⟩) 2 2] w (Read2 n1 a b n2 c d w)
theorem add_core (n1 n2 : Bool) (s1 t1 s2 t2 : ByteArray) (a b c d : Nat) (z : Rat) (hr : Rd2 n1 n2 s1 t1 s2 t2 a b c d) (hq : z = rat n1 a b + rat n2 c d) (hb : 0 < b) (hd : 0 < d) (l1 : (dw a).length ≤ 20000) (l2 : (dw b).length ≤ 20000) (l3 : (dw c).length ≤ 20000) (l4 : (dw d).length ≤ 20000) (w : World) :
    Calls Tryz.prog 51 #[.agg #[.bool n1, .string s1, .string t1], .agg #[.bool n2, .string s2, .string t2]] w fun e w' => RatRes z e ∧ Below w.heap.size w w' := by
  have HREAD := Lib.hid hr; have HQ := Lib.hid hq; have HB := Lib.hid hb; have HD := Lib.hid hd; obtain ⟨nz, sz, tz, kz, hend, hres⟩ := ratRes_one z; have HEND := Lib.hid hend; have HRES := Lib.hid hres; clear hend hres; clear hr hq hb hd; obtain ⟨o1, o2, o3, hbw⟩ := new3 w [.bool n1, .string s1, .string t1] [.bool n2, .string s2, .string t2] [.bool false, .string ⟨#[]⟩, .string ⟨#[]⟩] 26 26 26
  go_enter Tryz.func51, Tryz.ntmps51
  go_upto_region 1 with (fail)
  generalize (((w.alloc (.cells #[.bool n1, .string s1, .string t1] 26)).alloc (.cells #[.bool n2, .string s2, .string t2] 26)).alloc (.cells #[.bool false, .string ⟨#[]⟩, .string ⟨#[]⟩] 26)) = wb at o1 o2 o3 hbw ⊢; obtain ⟨c10, c11, c12⟩ := o1.cells3; obtain ⟨c20, c21, c22⟩ := o2.cells3; obtain ⟨o4, hb4⟩ := new1 wb [.bool n1, .string s1, .string t1, .bool n2, .string s2, .string t2] 26
  go_wp2_with fail
  generalize (wb.alloc (.cells #[.bool n1, .string s1, .string t1, .bool n2, .string s2, .string t2] 26)) = wc at o4 hb4 ⊢; clear c10 c11 c12 c20 c21 c22 o1 o2; replace o3 := o3.below hb4 o3.lt; replace hbw := below6 hbw hb4; clear hb4; have OLT := Lib.hid o3.lt; refine (HREAD.out _ _ o4).mono ?_; rintro e wd ⟨r, cap, A1, k1, A2, k2, A3, k3, A4, k4, rest, rfl, hcap, hcap2, hr, orow, v1, v2, v3, v4, hb5⟩; unfold maxLen at hcap2; replace o3 := o3.below hb5 o3.lt; have hrw : w.heap.size + 1 < r := by have := hbw.size; have := OLT.out; omega
  replace hbw := below6 hbw hb5; clear hb5 o4 HREAD; have c0 : wd.cell? ⟨r, 0, none⟩ = some (.bool n1) := orow.cell 0; have c1 : wd.cell? ⟨r, 1, none⟩ = some (.slice A1 (dw a).length k1) := orow.cell 1; have c2 : wd.cell? ⟨r, 2, none⟩ = some (.slice A2 (dw b).length k2) := orow.cell 2; have c3 : wd.cell? ⟨r, 3, none⟩ = some (.bool n2) := orow.cell 3; have c4 : wd.cell? ⟨r, 4, none⟩ = some (.slice A3 (dw c).length k3) := orow.cell 4; have c5 : wd.cell? ⟨r, 5, none⟩ = some (.slice A4 (dw d).length k4) := orow.cell 5; have m1 := Lib.hid v1.nat; have m2 := Lib.hid v2.nat; have m3 := Lib.hid v3.nat; have m4 := Lib.hid v4.nat
  go_upto_region 4 with (fail)
  refine wp_reg_st [some 18, some 19, some 20, some 21, some 22, some 23, some 24, some 25, some 26, some 27, none, some 5] [isV ?v1_0, isV ?v1_1, isV ?v1_2, isV ?v1_3, isV ?v1_4, isV ?v1_5, (fun v w' => NumOk 100000 z w' v), isV (.tuple #[.agg #[.bool nz, .string sz, .string tz], .int .i64 kz]), isV ?v1_8, isV ?v1_9, fun _ _ => False, fun _ _ => False] [anyV, anyV, anyV, anyV, anyV, anyV, anyV, anyV, anyV, anyV, anyV, isV ?w1_11] 10 [0, 1, 2, 3, 4, 5, 6, 7, 8, 9] (fun _ => fun w' => Below w.heap.size w w' ∧ Own w' (w.heap.size + 1 + 1) 26 [.bool nz, .string sz, .string tz]) rfl (by kernel_rfl) rfl rfl (by decide) (by kernel_rfl) (by kernel_rfl) (fun _ _ _ _ h => h) ?k1 ?m1 ⟨?s1_0, ?s1_1, ?s1_2, ?s1_3, ?s1_4, ?s1_5, ?s1_6, ?s1_7, ?s1_8, ?s1_9, ?s1_10, ?s1_11, trivial⟩ ?p1
  case s1_0 =>
    rw [if_neg (by decide)]
    constructor
    · rw [if_neg (by decide)]; intro t9 w9 hT9 hV9 hO9 K9 hK9; have o9_6 := hO9 6 _ (.inl (show List.contains _ _ = false from by kernel_rfl)) rfl; clear hV9 hO9; go_simp
      (refine hK9 _ _ (Grow.refl _) ?_; exact rfl)
    · rw [if_pos (by decide)]; trivial
  case s1_1 =>
    rw [if_neg (by decide)]
    constructor
    · rw [if_neg (by decide)]; intro t9 w9 hT9 hV9 hO9 K9 hK9; obtain ⟨x9_0, p9_0, q9_0⟩ := hV9.g 0 18 rfl rfl (by kernel_rfl); obtain rfl : x9_0 = ?v1_0 := q9_0; clear hV9 hO9; go_simp
      (refine hK9 _ _ (Grow.refl _) ?_; exact rfl)
    · rw [if_pos (by decide)]; trivial
  case s1_2 =>
    rw [if_neg (by decide)]
    constructor
    · rw [if_neg (by decide)]; intro t9 w9 hT9 hV9 hO9 K9 hK9; obtain ⟨x9_1, p9_1, q9_1⟩ := hV9.g 1 19 rfl rfl (by kernel_rfl); obtain rfl : x9_1 = ?v1_1 := q9_1; clear hV9 hO9; have d9_0 := grow_cell hT9 c0; have d9_1 := grow_cell hT9 c1; have d9_2 := grow_cell hT9 c2; have d9_3 := grow_cell hT9 c3; have d9_4 := grow_cell hT9 c4; have d9_5 := grow_cell hT9 c5; go_simp
      (refine hK9 _ _ (Grow.refl _) ?_; exact rfl)
    · rw [if_pos (by decide)]; trivial
  case s1_3 =>
    rw [if_neg (by decide)]
    constructor
    · rw [if_neg (by decide)]; intro t9 w9 hT9 hV9 hO9 K9 hK9; have o9_6 := hO9 6 _ (.inl (show List.contains _ _ = false from by kernel_rfl)) rfl; clear hV9 hO9; go_simp
      (refine hK9 _ _ (Grow.refl _) ?_; exact rfl)
    · rw [if_pos (by decide)]; trivial
  case s1_4 =>
    rw [if_neg (by decide)]
    constructor
    · rw [if_neg (by decide)]; intro t9 w9 hT9 hV9 hO9 K9 hK9; obtain ⟨x9_3, p9_3, q9_3⟩ := hV9.g 3 21 rfl rfl (by kernel_rfl); obtain rfl : x9_3 = ?v1_3 := q9_3; clear hV9 hO9; go_simp
      (refine hK9 _ _ (Grow.refl _) ?_; exact rfl)
    · rw [if_pos (by decide)]; trivial
  case s1_5 =>
    rw [if_neg (by decide)]
    constructor
    · rw [if_neg (by decide)]; intro t9 w9 hT9 hV9 hO9 K9 hK9; obtain ⟨x9_4, p9_4, q9_4⟩ := hV9.g 4 22 rfl rfl (by kernel_rfl); obtain rfl : x9_4 = ?v1_4 := q9_4; clear hV9 hO9; have d9_0 := grow_cell hT9 c0; have d9_1 := grow_cell hT9 c1; have d9_2 := grow_cell hT9 c2; have d9_3 := grow_cell hT9 c3; have d9_4 := grow_cell hT9 c4; have d9_5 := grow_cell hT9 c5; go_simp
      (refine hK9 _ _ (Grow.refl _) ?_; exact rfl)
    · rw [if_pos (by decide)]; trivial
  case s1_6 =>
    rw [if_neg (by decide)]
    constructor
    · rw [if_neg (by decide)]; intro t9 w9 hT9 hV9 hO9 K9 hK9; obtain ⟨x9_2, p9_2, q9_2⟩ := hV9.g 2 20 rfl rfl (by kernel_rfl); obtain rfl : x9_2 = ?v1_2 := q9_2; obtain ⟨x9_5, p9_5, q9_5⟩ := hV9.g 5 23 rfl rfl (by kernel_rfl); obtain rfl : x9_5 = ?v1_5 := q9_5; clear hV9 hO9; go_simp; refine (plus_any n1 n2 _ _ _ _ a b c d _ (m1.out.below hT9.below) (m2.out.below hT9.below) (m3.out.below hT9.below) (m4.out.below hT9.below) HB.out HD.out (by omega) (by omega) (by omega) (by omega)).mono ?_; rintro _ w8 ⟨⟨v8, rfl, hv8⟩, hb8⟩; exact hK9 _ _ hb8 (by rw [HQ.out]; exact hv8)
    · rw [if_pos (by decide)]; trivial
  case s1_7 =>
    rw [if_neg (by decide)]
    constructor
    · rw [if_neg (by decide)]; intro t9 w9 hT9 hV9 hO9 K9 hK9; obtain ⟨x9_6, p9_6, q9_6⟩ := hV9.g 6 24 rfl rfl (by kernel_rfl); replace q9_6 : ((fun v w' => NumOk 100000 z w' v)) x9_6 _ := q9_6; clear hV9 hO9; obtain ⟨neg, y1, y2, a9, b9, rfl, g1, g2, g3, g4, g5, g6⟩ := q9_6; go_simp; refine (lowest_any neg y1 y2 a9 b9 _ g1 g2 (by omega) (by omega) g3).mono ?_; rintro e w8 ⟨hl, hb8⟩; have he := HEND.out _ (by rw [g6]; exact hl.toRat g3); subst he; exact hK9 _ _ hb8 rfl
    · rw [if_pos (by decide)]; trivial
  case s1_8 =>
    rw [if_neg (by decide)]
    constructor
    · rw [if_neg (by decide)]; intro t9 w9 hT9 hV9 hO9 K9 hK9; obtain ⟨x9_7, p9_7, q9_7⟩ := hV9.g 7 25 rfl rfl (by kernel_rfl); obtain rfl : x9_7 = (.tuple #[.agg #[.bool nz, .string sz, .string tz], .int .i64 kz]) := q9_7; clear hV9 hO9; go_simp
      (refine hK9 _ _ (Grow.refl _) ?_; exact rfl)
    · rw [if_pos (by decide)]; trivial
  case s1_9 =>
    rw [if_neg (by decide)]
    constructor
    · rw [if_neg (by decide)]; intro t9 w9 hT9 hV9 hO9 K9 hK9; obtain ⟨x9_7, p9_7, q9_7⟩ := hV9.g 7 25 rfl rfl (by kernel_rfl); obtain rfl : x9_7 = (.tuple #[.agg #[.bool nz, .string sz, .string tz], .int .i64 kz]) := q9_7; clear hV9 hO9; go_simp
      (refine hK9 _ _ (Grow.refl _) ?_; exact rfl)
    · rw [if_pos (by decide)]; trivial
  case s1_10 =>
    rw [if_pos (by decide)]; intro t9 w9 hT9 hV9 hO9 K9 hK9; obtain ⟨x9_8, p9_8, q9_8⟩ := hV9.g 8 26 (by decide) rfl (by kernel_rfl); obtain rfl : x9_8 = ?v1_8 := q9_8; have o9_4 := hO9 4 _ (.inl (show List.contains _ _ = false from by kernel_rfl)) rfl; clear hV9 hO9; have og := o3.below hT9.below o3.lt; obtain ⟨hg0, hg1, hg2⟩ := og.cells3; obtain ⟨hf0, hf1, hf2⟩ := og.frozens3; have HE := Lib.hid (⟨Below.set3 (below6 hbw hT9.below) (by omega) _ _ _, og.set3 _ _ _⟩ : (fun w' => Below w.heap.size w w' ∧ Own w' (w.heap.size + 1 + 1) 26 [.bool nz, .string sz, .string tz]) ((((w9.setCell ⟨w.heap.size + 1 + 1, 0, none⟩ (.bool nz)).setCell ⟨w.heap.size + 1 + 1, 1, none⟩ (.string sz)).setCell ⟨w.heap.size + 1 + 1, 2, none⟩ (.string tz)))); go_simp; exact hK9 undef _ HE.out trivial
  case s1_11 =>
    rw [if_neg (by decide)]
    constructor
    · rw [if_pos (by rfl)]; trivial
    · rw [if_neg (by decide)]; intro t9 w9 hV9 hO9 K9 hK9; obtain ⟨x9_9, p9_9, q9_9⟩ := hV9.g 9 27 rfl rfl (by kernel_rfl); obtain ⟨_, q9_9⟩ := q9_9.pre (by decide); obtain rfl : x9_9 = ?v1_9 := q9_9; clear hV9 hO9; go_simp
      (refine hK9 _ ?_; exact rfl)
  case k1 =>
    intro i9 v9 w9 x9 h9 g9
    match i9, h9 with
    | 0, h9 => exact h9
    | 1, h9 => exact h9
    | 2, h9 => exact h9
    | 3, h9 => exact h9
    | 4, h9 => exact h9
    | 5, h9 => exact h9
    | 6, h9 => (replace h9 : (fun v w' => NumOk 100000 z w' v) v9 w9 := h9); exact NumOk.below h9 g9
    | 7, h9 => exact h9
    | 8, h9 => exact h9
    | 9, h9 => exact h9
    | 10, h9 => exact h9
    | 11, h9 => exact h9
    | _ + 12, h9 => exact trivial
  case m1 =>
    intro i9 v9 w9 x9 a s h
    match i9, a, s, h with
    | 0, a, _, _ => exact absurd (by decide) a
    | 1, a, _, _ => exact absurd (by decide) a
    | 2, a, _, _ => exact absurd (by decide) a
    | 3, a, _, _ => exact absurd (by decide) a
    | 4, a, _, _ => exact absurd (by decide) a
    | 5, a, _, _ => exact absurd (by decide) a
    | 6, a, _, _ => exact absurd (by decide) a
    | 7, a, _, _ => exact absurd (by decide) a
    | 8, a, _, _ => exact absurd (by decide) a
    | 9, a, _, _ => exact absurd (by decide) a
    | 10, _, s, _ => exact absurd rfl s
    | 11, _, _, h => exact False.elim h
    | _ + 12, _, _, _ => exact trivial
  intro u9 w9 hE9 hu9; obtain ⟨_, r9_0⟩ := (hu9 0 (by decide)).pre (by decide); replace r9_0 : u9 0 = ?v1_0 := r9_0; obtain ⟨_, r9_1⟩ := (hu9 1 (by decide)).pre (by decide); replace r9_1 : u9 1 = ?v1_1 := r9_1; obtain ⟨_, r9_2⟩ := (hu9 2 (by decide)).pre (by decide); replace r9_2 : u9 2 = ?v1_2 := r9_2; obtain ⟨_, r9_3⟩ := (hu9 3 (by decide)).pre (by decide); replace r9_3 : u9 3 = ?v1_3 := r9_3; obtain ⟨_, r9_4⟩ := (hu9 4 (by decide)).pre (by decide); replace r9_4 : u9 4 = ?v1_4 := r9_4; obtain ⟨_, r9_5⟩ := (hu9 5 (by decide)).pre (by decide); replace r9_5 : u9 5 = ?v1_5 := r9_5; obtain ⟨_, r9_7⟩ := (hu9 7 (by decide)).pre (by decide); replace r9_7 : u9 7 = (.tuple #[.agg #[.bool nz, .string sz, .string tz], .int .i64 kz]) := r9_7; obtain ⟨_, r9_8⟩ := (hu9 8 (by decide)).pre (by decide); replace r9_8 : u9 8 = ?v1_8 := r9_8; obtain ⟨_, r9_9⟩ := (hu9 9 (by decide)).pre (by decide); replace r9_9 : u9 9 = ?v1_9 := r9_9
  have r9_11 : u9 11 = ?w1_11 := (hu9 11 (by decide)).late (by decide); clear hu9; obtain ⟨sz9, oz⟩ := hE9
  simp only [putAll, Act.put, List.setIfInBounds_toArray, List.set_cons_succ, List.set_cons_zero, List.getD_cons_succ, List.getD_cons_zero, Nat.reduceAdd, Nat.zero_add]
  simp only [r9_0, r9_1, r9_2, r9_3, r9_4, r9_5, r9_7, r9_8, r9_9, r9_11]
  clear r9_0 r9_1 r9_2 r9_3 r9_4 r9_5 r9_7 r9_8 r9_9 r9_11
  go_wp2_with fail
  obtain ⟨z0, z1, z2⟩ := oz.cells3; exact bodyPost_ret (v := .tuple #[.agg #[.bool nz, .string sz, .string tz], .int .i64 kz]) (by simp [results, Tryz.results51, go_sem, z0, z1, z2]) rfl ⟨HRES.out, sz9⟩
theorem sub_core (n1 n2 : Bool) (s1 t1 s2 t2 : ByteArray) (a b c d : Nat) (z : Rat) (hr : Rd2 n1 n2 s1 t1 s2 t2 a b c d) (hq : z = rat n1 a b + rat (!n2) c d) (hb : 0 < b) (hd : 0 < d) (l1 : (dw a).length ≤ 20000) (l2 : (dw b).length ≤ 20000) (l3 : (dw c).length ≤ 20000) (l4 : (dw d).length ≤ 20000) (w : World) :
    Calls Tryz.prog 8 #[.agg #[.bool n1, .string s1, .string t1], .agg #[.bool n2, .string s2, .string t2]] w fun e w' => RatRes z e ∧ Below w.heap.size w w' := by
  have HREAD := Lib.hid hr; have HQ := Lib.hid hq; have HB := Lib.hid hb; have HD := Lib.hid hd; obtain ⟨nz, sz, tz, kz, hend, hres⟩ := ratRes_one z; have HEND := Lib.hid hend; have HRES := Lib.hid hres; clear hend hres; clear hr hq hb hd; obtain ⟨o1, o2, o3, hbw⟩ := new3 w [.bool n1, .string s1, .string t1] [.bool n2, .string s2, .string t2] [.bool false, .string ⟨#[]⟩, .string ⟨#[]⟩] 26 26 26
  go_enter Tryz.func8, Tryz.ntmps8
  go_upto_region 1 with (fail)
  generalize (((w.alloc (.cells #[.bool n1, .string s1, .string t1] 26)).alloc (.cells #[.bool n2, .string s2, .string t2] 26)).alloc (.cells #[.bool false, .string ⟨#[]⟩, .string ⟨#[]⟩] 26)) = wb at o1 o2 o3 hbw ⊢; obtain ⟨c10, c11, c12⟩ := o1.cells3; obtain ⟨c20, c21, c22⟩ := o2.cells3; obtain ⟨o4, hb4⟩ := new1 wb [.bool n1, .string s1, .string t1, .bool n2, .string s2, .string t2] 26
  go_wp2_with fail
  generalize (wb.alloc (.cells #[.bool n1, .string s1, .string t1, .bool n2, .string s2, .string t2] 26)) = wc at o4 hb4 ⊢; clear c10 c11 c12 c20 c21 c22 o1 o2; replace o3 := o3.below hb4 o3.lt; replace hbw := below6 hbw hb4; clear hb4; have OLT := Lib.hid o3.lt; refine (HREAD.out _ _ o4).mono ?_; rintro e wd ⟨r, cap, A1, k1, A2, k2, A3, k3, A4, k4, rest, rfl, hcap, hcap2, hr, orow, v1, v2, v3, v4, hb5⟩; unfold maxLen at hcap2; replace o3 := o3.below hb5 o3.lt; have hrw : w.heap.size + 1 < r := by have := hbw.size; have := OLT.out; omega
  have OLT2 : Hid (w.heap.size + 1 + 1 < r) := by show _ < _; have := OLT.out; omega
  replace hbw := below6 hbw hb5; clear hb5 o4 HREAD; have c3 : wd.cell? ⟨r, 3, none⟩ = some (.bool n2) := orow.cell 3; have f3 := orow.frozen 3; have orow2 := orow.set_ 3 (.bool !n2); have hcg : Chg (fun k => k = r) wd (wd.setCell ⟨r, 3, none⟩ (.bool !n2)) := Chg.setCell (S := fun k => k = r) (p := ⟨r, 3, none⟩) (Chg.refl _ _) rfl _; replace v1 := v1.chg hcg; replace v2 := v2.chg hcg; replace v3 := v3.chg hcg; replace v4 := v4.chg hcg; replace o3 := o3.far (p := ⟨r, 3, none⟩) (by intro e; have e2 : w.heap.size + 1 + 1 = r := e; have := OLT2.out; omega) (.bool !n2); replace hbw := hbw.setCell (p := ⟨r, 3, none⟩) (show w.heap.size ≤ r by omega) (.bool !n2); clear hcg
  go_upto_region 5 with (fail)
  generalize (wd.setCell ⟨r, 3, none⟩ (.bool !n2)) = we at orow2 v1 v2 v3 v4 hbw o3 ⊢; replace orow : Own we r 47 (.bool n1 :: .slice A1 (dw a).length k1 :: .slice A2 (dw b).length k2 :: .bool (!n2) :: .slice A3 (dw c).length k3 :: .slice A4 (dw d).length k4 :: rest) := orow2; clear c3 f3 orow2; have c0 : we.cell? ⟨r, 0, none⟩ = some (.bool n1) := orow.cell 0; have c1 : we.cell? ⟨r, 1, none⟩ = some (.slice A1 (dw a).length k1) := orow.cell 1; have c2 : we.cell? ⟨r, 2, none⟩ = some (.slice A2 (dw b).length k2) := orow.cell 2; have c3 : we.cell? ⟨r, 3, none⟩ = some (.bool (!n2)) := orow.cell 3; have c4 : we.cell? ⟨r, 4, none⟩ = some (.slice A3 (dw c).length k3) := orow.cell 4; have c5 : we.cell? ⟨r, 5, none⟩ = some (.slice A4 (dw d).length k4) := orow.cell 5; have m1 := Lib.hid v1.nat; have m2 := Lib.hid v2.nat; have m3 := Lib.hid v3.nat; have m4 := Lib.hid v4.nat; refine wp_reg_st [some 26, some 27, some 28, some 29, some 30, some 31, some 32, some 33, some 34, some 35, none, some 5] [isV ?v2_0, isV ?v2_1, isV ?v2_2, isV ?v2_3, isV ?v2_4, isV ?v2_5, (fun v w' => NumOk 100000 z w' v), isV (.tuple #[.agg #[.bool nz, .string sz, .string tz], .int .i64 kz]), isV ?v2_8, isV ?v2_9, fun _ _ => False, fun _ _ => False] [anyV, anyV, anyV, anyV, anyV, anyV, anyV, anyV, anyV, anyV, anyV, isV ?w2_11] 10 [0, 1, 2, 3, 4, 5, 6, 7, 8, 9] (fun _ => fun w' => Below w.heap.size w w' ∧ Own w' (w.heap.size + 1 + 1) 26 [.bool nz, .string sz, .string tz]) rfl (by kernel_rfl) rfl rfl (by decide) (by kernel_rfl) (by kernel_rfl) (fun _ _ _ _ h => h) ?k2 ?m2 ⟨?s2_0, ?s2_1, ?s2_2, ?s2_3, ?s2_4, ?s2_5, ?s2_6, ?s2_7, ?s2_8, ?s2_9, ?s2_10, ?s2_11, trivial⟩ ?p2
  case s2_0 =>
    rw [if_neg (by decide)]
    constructor
    · rw [if_neg (by decide)]; intro t9 w9 hT9 hV9 hO9 K9 hK9; have o9_6 := hO9 6 _ (.inl (show List.contains _ _ = false from by kernel_rfl)) rfl; clear hV9 hO9; go_simp
      (refine hK9 _ _ (Grow.refl _) ?_; exact rfl)
    · rw [if_pos (by decide)]; trivial
  case s2_1 =>
    rw [if_neg (by decide)]
    constructor
    · rw [if_neg (by decide)]; intro t9 w9 hT9 hV9 hO9 K9 hK9; obtain ⟨x9_0, p9_0, q9_0⟩ := hV9.g 0 26 rfl rfl (by kernel_rfl); obtain rfl : x9_0 = ?v2_0 := q9_0; clear hV9 hO9; go_simp
      (refine hK9 _ _ (Grow.refl _) ?_; exact rfl)
    · rw [if_pos (by decide)]; trivial
  case s2_2 =>
    rw [if_neg (by decide)]
    constructor
    · rw [if_neg (by decide)]; intro t9 w9 hT9 hV9 hO9 K9 hK9; obtain ⟨x9_1, p9_1, q9_1⟩ := hV9.g 1 27 rfl rfl (by kernel_rfl); obtain rfl : x9_1 = ?v2_1 := q9_1; clear hV9 hO9; have d9_0 := grow_cell hT9 c0; have d9_1 := grow_cell hT9 c1; have d9_2 := grow_cell hT9 c2; have d9_3 := grow_cell hT9 c3; have d9_4 := grow_cell hT9 c4; have d9_5 := grow_cell hT9 c5; go_simp
      (refine hK9 _ _ (Grow.refl _) ?_; exact rfl)
    · rw [if_pos (by decide)]; trivial
  case s2_3 =>
    rw [if_neg (by decide)]
    constructor
    · rw [if_neg (by decide)]; intro t9 w9 hT9 hV9 hO9 K9 hK9; have o9_6 := hO9 6 _ (.inl (show List.contains _ _ = false from by kernel_rfl)) rfl; clear hV9 hO9; go_simp
      (refine hK9 _ _ (Grow.refl _) ?_; exact rfl)
    · rw [if_pos (by decide)]; trivial
  case s2_4 =>
    rw [if_neg (by decide)]
    constructor
    · rw [if_neg (by decide)]; intro t9 w9 hT9 hV9 hO9 K9 hK9; obtain ⟨x9_3, p9_3, q9_3⟩ := hV9.g 3 29 rfl rfl (by kernel_rfl); obtain rfl : x9_3 = ?v2_3 := q9_3; clear hV9 hO9; go_simp
      (refine hK9 _ _ (Grow.refl _) ?_; exact rfl)
    · rw [if_pos (by decide)]; trivial
  case s2_5 =>
    rw [if_neg (by decide)]
    constructor
    · rw [if_neg (by decide)]; intro t9 w9 hT9 hV9 hO9 K9 hK9; obtain ⟨x9_4, p9_4, q9_4⟩ := hV9.g 4 30 rfl rfl (by kernel_rfl); obtain rfl : x9_4 = ?v2_4 := q9_4; clear hV9 hO9; have d9_0 := grow_cell hT9 c0; have d9_1 := grow_cell hT9 c1; have d9_2 := grow_cell hT9 c2; have d9_3 := grow_cell hT9 c3; have d9_4 := grow_cell hT9 c4; have d9_5 := grow_cell hT9 c5; go_simp
      (refine hK9 _ _ (Grow.refl _) ?_; exact rfl)
    · rw [if_pos (by decide)]; trivial
  case s2_6 =>
    rw [if_neg (by decide)]
    constructor
    · rw [if_neg (by decide)]; intro t9 w9 hT9 hV9 hO9 K9 hK9; obtain ⟨x9_2, p9_2, q9_2⟩ := hV9.g 2 28 rfl rfl (by kernel_rfl); obtain rfl : x9_2 = ?v2_2 := q9_2; obtain ⟨x9_5, p9_5, q9_5⟩ := hV9.g 5 31 rfl rfl (by kernel_rfl); obtain rfl : x9_5 = ?v2_5 := q9_5; clear hV9 hO9; go_simp; refine (plus_any n1 (!n2) _ _ _ _ a b c d _ (m1.out.below hT9.below) (m2.out.below hT9.below) (m3.out.below hT9.below) (m4.out.below hT9.below) HB.out HD.out (by omega) (by omega) (by omega) (by omega)).mono ?_; rintro _ w8 ⟨⟨v8, rfl, hv8⟩, hb8⟩; exact hK9 _ _ hb8 (by rw [HQ.out]; exact hv8)
    · rw [if_pos (by decide)]; trivial
  case s2_7 =>
    rw [if_neg (by decide)]
    constructor
    · rw [if_neg (by decide)]; intro t9 w9 hT9 hV9 hO9 K9 hK9; obtain ⟨x9_6, p9_6, q9_6⟩ := hV9.g 6 32 rfl rfl (by kernel_rfl); replace q9_6 : ((fun v w' => NumOk 100000 z w' v)) x9_6 _ := q9_6; clear hV9 hO9; obtain ⟨neg, y1, y2, a9, b9, rfl, g1, g2, g3, g4, g5, g6⟩ := q9_6; go_simp; refine (lowest_any neg y1 y2 a9 b9 _ g1 g2 (by omega) (by omega) g3).mono ?_; rintro e w8 ⟨hl, hb8⟩; have he := HEND.out _ (by rw [g6]; exact hl.toRat g3); subst he; exact hK9 _ _ hb8 rfl
    · rw [if_pos (by decide)]; trivial
  case s2_8 =>
    rw [if_neg (by decide)]
    constructor
    · rw [if_neg (by decide)]; intro t9 w9 hT9 hV9 hO9 K9 hK9; obtain ⟨x9_7, p9_7, q9_7⟩ := hV9.g 7 33 rfl rfl (by kernel_rfl); obtain rfl : x9_7 = (.tuple #[.agg #[.bool nz, .string sz, .string tz], .int .i64 kz]) := q9_7; clear hV9 hO9; go_simp
      (refine hK9 _ _ (Grow.refl _) ?_; exact rfl)
    · rw [if_pos (by decide)]; trivial
  case s2_9 =>
    rw [if_neg (by decide)]
    constructor
    · rw [if_neg (by decide)]; intro t9 w9 hT9 hV9 hO9 K9 hK9; obtain ⟨x9_7, p9_7, q9_7⟩ := hV9.g 7 33 rfl rfl (by kernel_rfl); obtain rfl : x9_7 = (.tuple #[.agg #[.bool nz, .string sz, .string tz], .int .i64 kz]) := q9_7; clear hV9 hO9; go_simp
      (refine hK9 _ _ (Grow.refl _) ?_; exact rfl)
    · rw [if_pos (by decide)]; trivial
  case s2_10 =>
    rw [if_pos (by decide)]; intro t9 w9 hT9 hV9 hO9 K9 hK9; obtain ⟨x9_8, p9_8, q9_8⟩ := hV9.g 8 34 (by decide) rfl (by kernel_rfl); obtain rfl : x9_8 = ?v2_8 := q9_8; have o9_4 := hO9 4 _ (.inl (show List.contains _ _ = false from by kernel_rfl)) rfl; clear hV9 hO9; have og := o3.below hT9.below o3.lt; obtain ⟨hg0, hg1, hg2⟩ := og.cells3; obtain ⟨hf0, hf1, hf2⟩ := og.frozens3; have HE := Lib.hid (⟨Below.set3 (below6 hbw hT9.below) (by omega) _ _ _, og.set3 _ _ _⟩ : (fun w' => Below w.heap.size w w' ∧ Own w' (w.heap.size + 1 + 1) 26 [.bool nz, .string sz, .string tz]) ((((w9.setCell ⟨w.heap.size + 1 + 1, 0, none⟩ (.bool nz)).setCell ⟨w.heap.size + 1 + 1, 1, none⟩ (.string sz)).setCell ⟨w.heap.size + 1 + 1, 2, none⟩ (.string tz)))); go_simp; exact hK9 undef _ HE.out trivial
  case s2_11 =>
    rw [if_neg (by decide)]
    constructor
    · rw [if_pos (by rfl)]; trivial
    · rw [if_neg (by decide)]; intro t9 w9 hV9 hO9 K9 hK9; obtain ⟨x9_9, p9_9, q9_9⟩ := hV9.g 9 35 rfl rfl (by kernel_rfl); obtain ⟨_, q9_9⟩ := q9_9.pre (by decide); obtain rfl : x9_9 = ?v2_9 := q9_9; clear hV9 hO9; go_simp
      (refine hK9 _ ?_; exact rfl)
  case k2 =>
    intro i9 v9 w9 x9 h9 g9
    match i9, h9 with
    | 0, h9 => exact h9
    | 1, h9 => exact h9
    | 2, h9 => exact h9
    | 3, h9 => exact h9
    | 4, h9 => exact h9
    | 5, h9 => exact h9
    | 6, h9 => (replace h9 : (fun v w' => NumOk 100000 z w' v) v9 w9 := h9); exact NumOk.below h9 g9
    | 7, h9 => exact h9
    | 8, h9 => exact h9
    | 9, h9 => exact h9
    | 10, h9 => exact h9
    | 11, h9 => exact h9
    | _ + 12, h9 => exact trivial
  case m2 =>
    intro i9 v9 w9 x9 a s h
    match i9, a, s, h with
    | 0, a, _, _ => exact absurd (by decide) a
    | 1, a, _, _ => exact absurd (by decide) a
    | 2, a, _, _ => exact absurd (by decide) a
    | 3, a, _, _ => exact absurd (by decide) a
    | 4, a, _, _ => exact absurd (by decide) a
    | 5, a, _, _ => exact absurd (by decide) a
    | 6, a, _, _ => exact absurd (by decide) a
    | 7, a, _, _ => exact absurd (by decide) a
    | 8, a, _, _ => exact absurd (by decide) a
    | 9, a, _, _ => exact absurd (by decide) a
    | 10, _, s, _ => exact absurd rfl s
    | 11, _, _, h => exact False.elim h
    | _ + 12, _, _, _ => exact trivial
  intro u9 w9 hE9 hu9; obtain ⟨_, r9_0⟩ := (hu9 0 (by decide)).pre (by decide); replace r9_0 : u9 0 = ?v2_0 := r9_0; obtain ⟨_, r9_1⟩ := (hu9 1 (by decide)).pre (by decide); replace r9_1 : u9 1 = ?v2_1 := r9_1; obtain ⟨_, r9_2⟩ := (hu9 2 (by decide)).pre (by decide); replace r9_2 : u9 2 = ?v2_2 := r9_2; obtain ⟨_, r9_3⟩ := (hu9 3 (by decide)).pre (by decide); replace r9_3 : u9 3 = ?v2_3 := r9_3; obtain ⟨_, r9_4⟩ := (hu9 4 (by decide)).pre (by decide); replace r9_4 : u9 4 = ?v2_4 := r9_4; obtain ⟨_, r9_5⟩ := (hu9 5 (by decide)).pre (by decide); replace r9_5 : u9 5 = ?v2_5 := r9_5; obtain ⟨_, r9_7⟩ := (hu9 7 (by decide)).pre (by decide); replace r9_7 : u9 7 = (.tuple #[.agg #[.bool nz, .string sz, .string tz], .int .i64 kz]) := r9_7; obtain ⟨_, r9_8⟩ := (hu9 8 (by decide)).pre (by decide); replace r9_8 : u9 8 = ?v2_8 := r9_8; obtain ⟨_, r9_9⟩ := (hu9 9 (by decide)).pre (by decide); replace r9_9 : u9 9 = ?v2_9 := r9_9
  have r9_11 : u9 11 = ?w2_11 := (hu9 11 (by decide)).late (by decide); clear hu9; obtain ⟨sz9, oz⟩ := hE9
  simp only [putAll, Act.put, List.setIfInBounds_toArray, List.set_cons_succ, List.set_cons_zero, List.getD_cons_succ, List.getD_cons_zero, Nat.reduceAdd, Nat.zero_add]
  simp only [r9_0, r9_1, r9_2, r9_3, r9_4, r9_5, r9_7, r9_8, r9_9, r9_11]
  clear r9_0 r9_1 r9_2 r9_3 r9_4 r9_5 r9_7 r9_8 r9_9 r9_11
  go_wp2_with fail
  obtain ⟨z0, z1, z2⟩ := oz.cells3; exact bodyPost_ret (v := .tuple #[.agg #[.bool nz, .string sz, .string tz], .int .i64 kz]) (by simp [results, Tryz.results8, go_sem, z0, z1, z2]) rfl ⟨HRES.out, sz9⟩
theorem mul_core (n1 n2 : Bool) (s1 t1 s2 t2 : ByteArray) (a b c d : Nat) (z : Rat) (hr : Rd2 n1 n2 s1 t1 s2 t2 a b c d) (hq : z = rat (n1 != n2) (a * c) (b * d)) (hb : 0 < b) (hd : 0 < d) (l1 : (dw a).length ≤ 20000) (l2 : (dw b).length ≤ 20000) (l3 : (dw c).length ≤ 20000) (l4 : (dw d).length ≤ 20000) (w : World) :
    Calls Tryz.prog 49 #[.agg #[.bool n1, .string s1, .string t1], .agg #[.bool n2, .string s2, .string t2]] w fun e w' => RatRes z e ∧ Below w.heap.size w w' := by
  have hm1 := dw_mul a c; have hm2 := dw_mul b d; have HREAD := Lib.hid hr; have HQ := Lib.hid hq; have HB := Lib.hid hb; have HD := Lib.hid hd; obtain ⟨nz, sz, tz, kz, hend, hres⟩ := ratRes_one z; have HEND := Lib.hid hend; have HRES := Lib.hid hres; clear hend hres; have HPOS := Lib.hid (Nat.mul_pos hb hd); clear hr hq hb hd; obtain ⟨o1, o2, o3, hbw⟩ := new3 w [.bool n1, .string s1, .string t1] [.bool n2, .string s2, .string t2] [.bool false, .string ⟨#[]⟩, .string ⟨#[]⟩] 26 26 26
  go_enter Tryz.func49, Tryz.ntmps49
  go_upto_region 1 with (fail)
  generalize (((w.alloc (.cells #[.bool n1, .string s1, .string t1] 26)).alloc (.cells #[.bool n2, .string s2, .string t2] 26)).alloc (.cells #[.bool false, .string ⟨#[]⟩, .string ⟨#[]⟩] 26)) = wb at o1 o2 o3 hbw ⊢; obtain ⟨c10, c11, c12⟩ := o1.cells3; obtain ⟨c20, c21, c22⟩ := o2.cells3; obtain ⟨o4, hb4⟩ := new1 wb [.bool n1, .string s1, .string t1, .bool n2, .string s2, .string t2] 26
  go_wp2_with fail
  generalize (wb.alloc (.cells #[.bool n1, .string s1, .string t1, .bool n2, .string s2, .string t2] 26)) = wc at o4 hb4 ⊢; clear c10 c11 c12 c20 c21 c22 o1 o2; replace o3 := o3.below hb4 o3.lt; replace hbw := below6 hbw hb4; clear hb4; have OLT := Lib.hid o3.lt; refine (HREAD.out _ _ o4).mono ?_; rintro e wd ⟨r, cap, A1, k1, A2, k2, A3, k3, A4, k4, rest, rfl, hcap, hcap2, hr, orow, v1, v2, v3, v4, hb5⟩; unfold maxLen at hcap2; replace o3 := o3.below hb5 o3.lt; have hrw : w.heap.size + 1 < r := by have := hbw.size; have := OLT.out; omega
  replace hbw := below6 hbw hb5; clear hb5 o4 HREAD; have c0 : wd.cell? ⟨r, 0, none⟩ = some (.bool n1) := orow.cell 0; have c1 : wd.cell? ⟨r, 1, none⟩ = some (.slice A1 (dw a).length k1) := orow.cell 1; have c2 : wd.cell? ⟨r, 2, none⟩ = some (.slice A2 (dw b).length k2) := orow.cell 2; have c3 : wd.cell? ⟨r, 3, none⟩ = some (.bool n2) := orow.cell 3; have c4 : wd.cell? ⟨r, 4, none⟩ = some (.slice A3 (dw c).length k3) := orow.cell 4; have c5 : wd.cell? ⟨r, 5, none⟩ = some (.slice A4 (dw d).length k4) := orow.cell 5; have m1 := Lib.hid v1.nat; have m2 := Lib.hid v2.nat; have m3 := Lib.hid v3.nat; have m4 := Lib.hid v4.nat
  go_upto_region 4 with (fail)
  refine wp_reg_st [some 18, some 19, some 20, some 21, some 22, some 23, some 24, some 25, some 26, some 27, some 28, some 29, some 30, some 31, some 32, some 33, some 34, some 35, some 36, some 37, some 38, some 39, some 40, some 41, some 42, some 43, some 44, some 45, some 46, some 47, some 48, none, some 5] [isV ?v3_0, isV ?v3_1, isV ?v3_2, isV ?v3_3, isV ?v3_4, isV ?v3_5, isV ?v3_6, isV ?v3_7, isV ?v3_8, isV ?v3_9, isV ?v3_10, isV ?v3_11, isV ?v3_12, isV ?v3_13, isV ?v3_14, isV ?v3_15, isV ?v3_16, (fun v w' => NatV w' v (a * c)), isV ?v3_18, isV ?v3_19, isV ?v3_20, isV ?v3_21, isV ?v3_22, isV ?v3_23, isV ?v3_24, isV ?v3_25, (fun v w' => NatV w' v (b * d)), (fun v w' => NumOk 100000 z w' v), isV (.tuple #[.agg #[.bool nz, .string sz, .string tz], .int .i64 kz]), isV ?v3_29, isV ?v3_30, fun _ _ => False, fun _ _ => False] [anyV, anyV, anyV, anyV, anyV, anyV, anyV, anyV, anyV, anyV, anyV, anyV, anyV, anyV, anyV, anyV, anyV, anyV, anyV, anyV, anyV, anyV, anyV, anyV, anyV, anyV, anyV, anyV, anyV, anyV, anyV, anyV, isV ?w3_32] 31 [0, 1, 2, 3, 4, 5, 6, 7, 8, 9, 10, 11, 12, 13, 14, 15, 16, 17, 18, 19, 20, 21, 22, 23, 24, 25, 26, 27, 28, 29, 30] (fun _ => fun w' => Below w.heap.size w w' ∧ Own w' (w.heap.size + 1 + 1) 26 [.bool nz, .string sz, .string tz]) rfl (by kernel_rfl) rfl rfl (by decide) (by kernel_rfl) (by kernel_rfl) (fun _ _ _ _ h => h) ?k3 ?m3 ⟨?s3_0, ?s3_1, ?s3_2, ?s3_3, ?s3_4, ?s3_5, ?s3_6, ?s3_7, ?s3_8, ?s3_9, ?s3_10, ?s3_11, ?s3_12, ?s3_13, ?s3_14, ?s3_15, ?s3_16, ?s3_17, ?s3_18, ?s3_19, ?s3_20, ?s3_21, ?s3_22, ?s3_23, ?s3_24, ?s3_25, ?s3_26, ?s3_27, ?s3_28, ?s3_29, ?s3_30, ?s3_31, ?s3_32, trivial⟩ ?p3
  case s3_0 =>
    rw [if_neg (by decide)]
    constructor
    · rw [if_neg (by decide)]; intro t9 w9 hT9 hV9 hO9 K9 hK9; have o9_6 := hO9 6 _ (.inl (show List.contains _ _ = false from by kernel_rfl)) rfl; clear hV9 hO9; go_simp
      (refine hK9 _ _ (Grow.refl _) ?_; exact rfl)
    · rw [if_pos (by decide)]; trivial
  case s3_1 =>
    rw [if_neg (by decide)]
    constructor
    · rw [if_neg (by decide)]; intro t9 w9 hT9 hV9 hO9 K9 hK9; obtain ⟨x9_0, p9_0, q9_0⟩ := hV9.g 0 18 rfl rfl (by kernel_rfl); obtain rfl : x9_0 = ?v3_0 := q9_0; clear hV9 hO9; go_simp
      (refine hK9 _ _ (Grow.refl _) ?_; exact rfl)
    · rw [if_pos (by decide)]; trivial
  case s3_2 =>
    rw [if_neg (by decide)]
    constructor
    · rw [if_neg (by decide)]; intro t9 w9 hT9 hV9 hO9 K9 hK9; obtain ⟨x9_1, p9_1, q9_1⟩ := hV9.g 1 19 rfl rfl (by kernel_rfl); obtain rfl : x9_1 = ?v3_1 := q9_1; clear hV9 hO9; go_simp
      (refine hK9 _ _ (Grow.refl _) ?_; exact rfl)
    · rw [if_pos (by decide)]; trivial
  case s3_3 =>
    rw [if_neg (by decide)]
    constructor
    · rw [if_neg (by decide)]; intro t9 w9 hT9 hV9 hO9 K9 hK9; obtain ⟨x9_2, p9_2, q9_2⟩ := hV9.g 2 20 rfl rfl (by kernel_rfl); obtain rfl : x9_2 = ?v3_2 := q9_2; clear hV9 hO9; have d9_0 := grow_cell hT9 c0; have d9_1 := grow_cell hT9 c1; have d9_2 := grow_cell hT9 c2; have d9_3 := grow_cell hT9 c3; have d9_4 := grow_cell hT9 c4; have d9_5 := grow_cell hT9 c5; go_simp
      (refine hK9 _ _ (Grow.refl _) ?_; exact rfl)
    · rw [if_pos (by decide)]; trivial
  case s3_4 =>
    rw [if_neg (by decide)]
    constructor
    · rw [if_neg (by decide)]; intro t9 w9 hT9 hV9 hO9 K9 hK9; have o9_6 := hO9 6 _ (.inl (show List.contains _ _ = false from by kernel_rfl)) rfl; clear hV9 hO9; go_simp
      (refine hK9 _ _ (Grow.refl _) ?_; exact rfl)
    · rw [if_pos (by decide)]; trivial
  case s3_5 =>
    rw [if_neg (by decide)]
    constructor
    · rw [if_neg (by decide)]; intro t9 w9 hT9 hV9 hO9 K9 hK9; obtain ⟨x9_4, p9_4, q9_4⟩ := hV9.g 4 22 rfl rfl (by kernel_rfl); obtain rfl : x9_4 = ?v3_4 := q9_4; clear hV9 hO9; go_simp
      (refine hK9 _ _ (Grow.refl _) ?_; exact rfl)
    · rw [if_pos (by decide)]; trivial
  case s3_6 =>
    rw [if_neg (by decide)]
    constructor
    · rw [if_neg (by decide)]; intro t9 w9 hT9 hV9 hO9 K9 hK9; obtain ⟨x9_5, p9_5, q9_5⟩ := hV9.g 5 23 rfl rfl (by kernel_rfl); obtain rfl : x9_5 = ?v3_5 := q9_5; clear hV9 hO9; go_simp
      (refine hK9 _ _ (Grow.refl _) ?_; exact rfl)
    · rw [if_pos (by decide)]; trivial
  case s3_7 =>
    rw [if_neg (by decide)]
    constructor
    · rw [if_neg (by decide)]; intro t9 w9 hT9 hV9 hO9 K9 hK9; obtain ⟨x9_6, p9_6, q9_6⟩ := hV9.g 6 24 rfl rfl (by kernel_rfl); obtain rfl : x9_6 = ?v3_6 := q9_6; clear hV9 hO9; have d9_0 := grow_cell hT9 c0; have d9_1 := grow_cell hT9 c1; have d9_2 := grow_cell hT9 c2; have d9_3 := grow_cell hT9 c3; have d9_4 := grow_cell hT9 c4; have d9_5 := grow_cell hT9 c5; go_simp
      (refine hK9 _ _ (Grow.refl _) ?_; exact rfl)
    · rw [if_pos (by decide)]; trivial
  case s3_8 =>
    rw [if_neg (by decide)]
    constructor
    · rw [if_neg (by decide)]; intro t9 w9 hT9 hV9 hO9 K9 hK9; obtain ⟨x9_3, p9_3, q9_3⟩ := hV9.g 3 21 rfl rfl (by kernel_rfl); obtain rfl : x9_3 = ?v3_3 := q9_3; obtain ⟨x9_7, p9_7, q9_7⟩ := hV9.g 7 25 rfl rfl (by kernel_rfl); obtain rfl : x9_7 = ?v3_7 := q9_7; clear hV9 hO9; go_simp
      (refine hK9 _ _ (Grow.refl _) ?_; exact rfl)
    · rw [if_pos (by decide)]; trivial
  case s3_9 =>
    rw [if_neg (by decide)]
    constructor
    · rw [if_neg (by decide)]; intro t9 w9 hT9 hV9 hO9 K9 hK9; have o9_6 := hO9 6 _ (.inl (show List.contains _ _ = false from by kernel_rfl)) rfl; clear hV9 hO9; go_simp
      (refine hK9 _ _ (Grow.refl _) ?_; exact rfl)
    · rw [if_pos (by decide)]; trivial
  case s3_10 =>
    rw [if_neg (by decide)]
    constructor
    · rw [if_neg (by decide)]; intro t9 w9 hT9 hV9 hO9 K9 hK9; obtain ⟨x9_9, p9_9, q9_9⟩ := hV9.g 9 27 rfl rfl (by kernel_rfl); obtain rfl : x9_9 = ?v3_9 := q9_9; clear hV9 hO9; go_simp
      (refine hK9 _ _ (Grow.refl _) ?_; exact rfl)
    · rw [if_pos (by decide)]; trivial
  case s3_11 =>
    rw [if_neg (by decide)]
    constructor
    · rw [if_neg (by decide)]; intro t9 w9 hT9 hV9 hO9 K9 hK9; obtain ⟨x9_10, p9_10, q9_10⟩ := hV9.g 10 28 rfl rfl (by kernel_rfl); obtain rfl : x9_10 = ?v3_10 := q9_10; clear hV9 hO9; go_simp
      (refine hK9 _ _ (Grow.refl _) ?_; exact rfl)
    · rw [if_pos (by decide)]; trivial
  case s3_12 =>
    rw [if_neg (by decide)]
    constructor
    · rw [if_neg (by decide)]; intro t9 w9 hT9 hV9 hO9 K9 hK9; obtain ⟨x9_11, p9_11, q9_11⟩ := hV9.g 11 29 rfl rfl (by kernel_rfl); obtain rfl : x9_11 = ?v3_11 := q9_11; clear hV9 hO9; have d9_0 := grow_cell hT9 c0; have d9_1 := grow_cell hT9 c1; have d9_2 := grow_cell hT9 c2; have d9_3 := grow_cell hT9 c3; have d9_4 := grow_cell hT9 c4; have d9_5 := grow_cell hT9 c5; go_simp
      (refine hK9 _ _ (Grow.refl _) ?_; exact rfl)
    · rw [if_pos (by decide)]; trivial
  case s3_13 =>
    rw [if_neg (by decide)]
    constructor
    · rw [if_neg (by decide)]; intro t9 w9 hT9 hV9 hO9 K9 hK9; have o9_6 := hO9 6 _ (.inl (show List.contains _ _ = false from by kernel_rfl)) rfl; clear hV9 hO9; go_simp
      (refine hK9 _ _ (Grow.refl _) ?_; exact rfl)
    · rw [if_pos (by decide)]; trivial
  case s3_14 =>
    rw [if_neg (by decide)]
    constructor
    · rw [if_neg (by decide)]; intro t9 w9 hT9 hV9 hO9 K9 hK9; obtain ⟨x9_13, p9_13, q9_13⟩ := hV9.g 13 31 rfl rfl (by kernel_rfl); obtain rfl : x9_13 = ?v3_13 := q9_13; clear hV9 hO9; go_simp
      (refine hK9 _ _ (Grow.refl _) ?_; exact rfl)
    · rw [if_pos (by decide)]; trivial
  case s3_15 =>
    rw [if_neg (by decide)]
    constructor
    · rw [if_neg (by decide)]; intro t9 w9 hT9 hV9 hO9 K9 hK9; obtain ⟨x9_14, p9_14, q9_14⟩ := hV9.g 14 32 rfl rfl (by kernel_rfl); obtain rfl : x9_14 = ?v3_14 := q9_14; clear hV9 hO9; go_simp
      (refine hK9 _ _ (Grow.refl _) ?_; exact rfl)
    · rw [if_pos (by decide)]; trivial
  case s3_16 =>
    rw [if_neg (by decide)]
    constructor
    · rw [if_neg (by decide)]; intro t9 w9 hT9 hV9 hO9 K9 hK9; obtain ⟨x9_15, p9_15, q9_15⟩ := hV9.g 15 33 rfl rfl (by kernel_rfl); obtain rfl : x9_15 = ?v3_15 := q9_15; clear hV9 hO9; have d9_0 := grow_cell hT9 c0; have d9_1 := grow_cell hT9 c1; have d9_2 := grow_cell hT9 c2; have d9_3 := grow_cell hT9 c3; have d9_4 := grow_cell hT9 c4; have d9_5 := grow_cell hT9 c5; go_simp
      (refine hK9 _ _ (Grow.refl _) ?_; exact rfl)
    · rw [if_pos (by decide)]; trivial
  case s3_17 =>
    rw [if_neg (by decide)]
    constructor
    · rw [if_neg (by decide)]; intro t9 w9 hT9 hV9 hO9 K9 hK9; obtain ⟨x9_12, p9_12, q9_12⟩ := hV9.g 12 30 rfl rfl (by kernel_rfl); obtain rfl : x9_12 = ?v3_12 := q9_12; obtain ⟨x9_16, p9_16, q9_16⟩ := hV9.g 16 34 rfl rfl (by kernel_rfl); obtain rfl : x9_16 = ?v3_16 := q9_16; clear hV9 hO9; go_simp; refine (mul_any _ (m1.out.below hT9.below) (m3.out.below hT9.below) (by omega) (by omega)).mono ?_; rintro _ w8 ⟨v8, rfl, hv8, hb8⟩; exact hK9 _ _ hb8 hv8
    · rw [if_pos (by decide)]; trivial
  case s3_18 =>
    rw [if_neg (by decide)]
    constructor
    · rw [if_neg (by decide)]; intro t9 w9 hT9 hV9 hO9 K9 hK9; have o9_6 := hO9 6 _ (.inl (show List.contains _ _ = false from by kernel_rfl)) rfl; clear hV9 hO9; go_simp
      (refine hK9 _ _ (Grow.refl _) ?_; exact rfl)
    · rw [if_pos (by decide)]; trivial
  case s3_19 =>
    rw [if_neg (by decide)]
    constructor
    · rw [if_neg (by decide)]; intro t9 w9 hT9 hV9 hO9 K9 hK9; obtain ⟨x9_18, p9_18, q9_18⟩ := hV9.g 18 36 rfl rfl (by kernel_rfl); obtain rfl : x9_18 = ?v3_18 := q9_18; clear hV9 hO9; go_simp
      (refine hK9 _ _ (Grow.refl _) ?_; exact rfl)
    · rw [if_pos (by decide)]; trivial
  case s3_20 =>
    rw [if_neg (by decide)]
    constructor
    · rw [if_neg (by decide)]; intro t9 w9 hT9 hV9 hO9 K9 hK9; obtain ⟨x9_19, p9_19, q9_19⟩ := hV9.g 19 37 rfl rfl (by kernel_rfl); obtain rfl : x9_19 = ?v3_19 := q9_19; clear hV9 hO9; go_simp
      (refine hK9 _ _ (Grow.refl _) ?_; exact rfl)
    · rw [if_pos (by decide)]; trivial
  case s3_21 =>
    rw [if_neg (by decide)]
    constructor
    · rw [if_neg (by decide)]; intro t9 w9 hT9 hV9 hO9 K9 hK9; obtain ⟨x9_20, p9_20, q9_20⟩ := hV9.g 20 38 rfl rfl (by kernel_rfl); obtain rfl : x9_20 = ?v3_20 := q9_20; clear hV9 hO9; have d9_0 := grow_cell hT9 c0; have d9_1 := grow_cell hT9 c1; have d9_2 := grow_cell hT9 c2; have d9_3 := grow_cell hT9 c3; have d9_4 := grow_cell hT9 c4; have d9_5 := grow_cell hT9 c5; go_simp
      (refine hK9 _ _ (Grow.refl _) ?_; exact rfl)
    · rw [if_pos (by decide)]; trivial
  case s3_22 =>
    rw [if_neg (by decide)]
    constructor
    · rw [if_neg (by decide)]; intro t9 w9 hT9 hV9 hO9 K9 hK9; have o9_6 := hO9 6 _ (.inl (show List.contains _ _ = false from by kernel_rfl)) rfl; clear hV9 hO9; go_simp
      (refine hK9 _ _ (Grow.refl _) ?_; exact rfl)
    · rw [if_pos (by decide)]; trivial
  case s3_23 =>
    rw [if_neg (by decide)]
    constructor
    · rw [if_neg (by decide)]; intro t9 w9 hT9 hV9 hO9 K9 hK9; obtain ⟨x9_22, p9_22, q9_22⟩ := hV9.g 22 40 rfl rfl (by kernel_rfl); obtain rfl : x9_22 = ?v3_22 := q9_22; clear hV9 hO9; go_simp
      (refine hK9 _ _ (Grow.refl _) ?_; exact rfl)
    · rw [if_pos (by decide)]; trivial
  case s3_24 =>
    rw [if_neg (by decide)]
    constructor
    · rw [if_neg (by decide)]; intro t9 w9 hT9 hV9 hO9 K9 hK9; obtain ⟨x9_23, p9_23, q9_23⟩ := hV9.g 23 41 rfl rfl (by kernel_rfl); obtain rfl : x9_23 = ?v3_23 := q9_23; clear hV9 hO9; go_simp
      (refine hK9 _ _ (Grow.refl _) ?_; exact rfl)
    · rw [if_pos (by decide)]; trivial
  case s3_25 =>
    rw [if_neg (by decide)]
    constructor
    · rw [if_neg (by decide)]; intro t9 w9 hT9 hV9 hO9 K9 hK9; obtain ⟨x9_24, p9_24, q9_24⟩ := hV9.g 24 42 rfl rfl (by kernel_rfl); obtain rfl : x9_24 = ?v3_24 := q9_24; clear hV9 hO9; have d9_0 := grow_cell hT9 c0; have d9_1 := grow_cell hT9 c1; have d9_2 := grow_cell hT9 c2; have d9_3 := grow_cell hT9 c3; have d9_4 := grow_cell hT9 c4; have d9_5 := grow_cell hT9 c5; go_simp
      (refine hK9 _ _ (Grow.refl _) ?_; exact rfl)
    · rw [if_pos (by decide)]; trivial
  case s3_26 =>
    rw [if_neg (by decide)]
    constructor
    · rw [if_neg (by decide)]; intro t9 w9 hT9 hV9 hO9 K9 hK9; obtain ⟨x9_21, p9_21, q9_21⟩ := hV9.g 21 39 rfl rfl (by kernel_rfl); obtain rfl : x9_21 = ?v3_21 := q9_21; obtain ⟨x9_25, p9_25, q9_25⟩ := hV9.g 25 43 rfl rfl (by kernel_rfl); obtain rfl : x9_25 = ?v3_25 := q9_25; clear hV9 hO9; go_simp; refine (mul_any _ (m2.out.below hT9.below) (m4.out.below hT9.below) (by omega) (by omega)).mono ?_; rintro _ w8 ⟨v8, rfl, hv8, hb8⟩; exact hK9 _ _ hb8 hv8
    · rw [if_pos (by decide)]; trivial
  case s3_27 =>
    rw [if_neg (by decide)]
    constructor
    · rw [if_neg (by decide)]; intro t9 w9 hT9 hV9 hO9 K9 hK9; obtain ⟨x9_8, p9_8, q9_8⟩ := hV9.g 8 26 rfl rfl (by kernel_rfl); obtain rfl : x9_8 = ?v3_8 := q9_8; obtain ⟨x9_17, p9_17, q9_17⟩ := hV9.g 17 35 rfl rfl (by kernel_rfl); replace q9_17 : ((fun v w' => NatV w' v (a * c))) x9_17 _ := q9_17; obtain ⟨x9_26, p9_26, q9_26⟩ := hV9.g 26 44 rfl rfl (by kernel_rfl); replace q9_26 : ((fun v w' => NatV w' v (b * d))) x9_26 _ := q9_26; clear hV9 hO9; have q7 := q9_17; have q8 := q9_26; obtain ⟨A7, k7, rfl, -⟩ := q9_17; obtain ⟨A8, k8, rfl, -⟩ := q9_26; go_simp; exact hK9 _ _ (Grow.refl _) ⟨_, _, _, _, _, rfl, q7, q8, HPOS.out, by omega, by omega, HQ.out⟩
    · rw [if_pos (by decide)]; trivial
  case s3_28 =>
    rw [if_neg (by decide)]
    constructor
    · rw [if_neg (by decide)]; intro t9 w9 hT9 hV9 hO9 K9 hK9; obtain ⟨x9_27, p9_27, q9_27⟩ := hV9.g 27 45 rfl rfl (by kernel_rfl); replace q9_27 : ((fun v w' => NumOk 100000 z w' v)) x9_27 _ := q9_27; clear hV9 hO9; obtain ⟨neg, y1, y2, a9, b9, rfl, g1, g2, g3, g4, g5, g6⟩ := q9_27; go_simp; refine (lowest_any neg y1 y2 a9 b9 _ g1 g2 (by omega) (by omega) g3).mono ?_; rintro e w8 ⟨hl, hb8⟩; have he := HEND.out _ (by rw [g6]; exact hl.toRat g3); subst he; exact hK9 _ _ hb8 rfl
    · rw [if_pos (by decide)]; trivial
  case s3_29 =>
    rw [if_neg (by decide)]
    constructor
    · rw [if_neg (by decide)]; intro t9 w9 hT9 hV9 hO9 K9 hK9; obtain ⟨x9_28, p9_28, q9_28⟩ := hV9.g 28 46 rfl rfl (by kernel_rfl); obtain rfl : x9_28 = (.tuple #[.agg #[.bool nz, .string sz, .string tz], .int .i64 kz]) := q9_28; clear hV9 hO9; go_simp
      (refine hK9 _ _ (Grow.refl _) ?_; exact rfl)
    · rw [if_pos (by decide)]; trivial
  case s3_30 =>
    rw [if_neg (by decide)]
    constructor
    · rw [if_neg (by decide)]; intro t9 w9 hT9 hV9 hO9 K9 hK9; obtain ⟨x9_28, p9_28, q9_28⟩ := hV9.g 28 46 rfl rfl (by kernel_rfl); obtain rfl : x9_28 = (.tuple #[.agg #[.bool nz, .string sz, .string tz], .int .i64 kz]) := q9_28; clear hV9 hO9; go_simp
      (refine hK9 _ _ (Grow.refl _) ?_; exact rfl)
    · rw [if_pos (by decide)]; trivial
  case s3_31 =>
    rw [if_pos (by decide)]; intro t9 w9 hT9 hV9 hO9 K9 hK9; obtain ⟨x9_29, p9_29, q9_29⟩ := hV9.g 29 47 (by decide) rfl (by kernel_rfl); obtain rfl : x9_29 = ?v3_29 := q9_29; have o9_4 := hO9 4 _ (.inl (show List.contains _ _ = false from by kernel_rfl)) rfl; clear hV9 hO9; have og := o3.below hT9.below o3.lt; obtain ⟨hg0, hg1, hg2⟩ := og.cells3; obtain ⟨hf0, hf1, hf2⟩ := og.frozens3; have HE := Lib.hid (⟨Below.set3 (below6 hbw hT9.below) (by omega) _ _ _, og.set3 _ _ _⟩ : (fun w' => Below w.heap.size w w' ∧ Own w' (w.heap.size + 1 + 1) 26 [.bool nz, .string sz, .string tz]) ((((w9.setCell ⟨w.heap.size + 1 + 1, 0, none⟩ (.bool nz)).setCell ⟨w.heap.size + 1 + 1, 1, none⟩ (.string sz)).setCell ⟨w.heap.size + 1 + 1, 2, none⟩ (.string tz)))); go_simp; exact hK9 undef _ HE.out trivial
  case s3_32 =>
    rw [if_neg (by decide)]
    constructor
    · rw [if_pos (by rfl)]; trivial
    · rw [if_neg (by decide)]; intro t9 w9 hV9 hO9 K9 hK9; obtain ⟨x9_30, p9_30, q9_30⟩ := hV9.g 30 48 rfl rfl (by kernel_rfl); obtain ⟨_, q9_30⟩ := q9_30.pre (by decide); obtain rfl : x9_30 = ?v3_30 := q9_30; clear hV9 hO9; go_simp
      (refine hK9 _ ?_; exact rfl)
  case k3 =>
    intro i9 v9 w9 x9 h9 g9
    match i9, h9 with
    | 0, h9 => exact h9
    | 1, h9 => exact h9
    | 2, h9 => exact h9
    | 3, h9 => exact h9
    | 4, h9 => exact h9
    | 5, h9 => exact h9
    | 6, h9 => exact h9
    | 7, h9 => exact h9
    | 8, h9 => exact h9
    | 9, h9 => exact h9
    | 10, h9 => exact h9
    | 11, h9 => exact h9
    | 12, h9 => exact h9
    | 13, h9 => exact h9
    | 14, h9 => exact h9
    | 15, h9 => exact h9
    | 16, h9 => exact h9
    | 17, h9 => (replace h9 : (fun v w' => NatV w' v (a * c)) v9 w9 := h9); exact NatV.below h9 g9
    | 18, h9 => exact h9
    | 19, h9 => exact h9
    | 20, h9 => exact h9
    | 21, h9 => exact h9
    | 22, h9 => exact h9
    | 23, h9 => exact h9
    | 24, h9 => exact h9
    | 25, h9 => exact h9
    | 26, h9 => (replace h9 : (fun v w' => NatV w' v (b * d)) v9 w9 := h9); exact NatV.below h9 g9
    | 27, h9 => (replace h9 : (fun v w' => NumOk 100000 z w' v) v9 w9 := h9); exact NumOk.below h9 g9
    | 28, h9 => exact h9
    | 29, h9 => exact h9
    | 30, h9 => exact h9
    | 31, h9 => exact h9
    | 32, h9 => exact h9
    | _ + 33, h9 => exact trivial
  case m3 =>
    intro i9 v9 w9 x9 a s h
    match i9, a, s, h with
    | 0, a, _, _ => exact absurd (by decide) a
    | 1, a, _, _ => exact absurd (by decide) a
    | 2, a, _, _ => exact absurd (by decide) a
    | 3, a, _, _ => exact absurd (by decide) a
    | 4, a, _, _ => exact absurd (by decide) a
    | 5, a, _, _ => exact absurd (by decide) a
    | 6, a, _, _ => exact absurd (by decide) a
    | 7, a, _, _ => exact absurd (by decide) a
    | 8, a, _, _ => exact absurd (by decide) a
    | 9, a, _, _ => exact absurd (by decide) a
    | 10, a, _, _ => exact absurd (by decide) a
    | 11, a, _, _ => exact absurd (by decide) a
    | 12, a, _, _ => exact absurd (by decide) a
    | 13, a, _, _ => exact absurd (by decide) a
    | 14, a, _, _ => exact absurd (by decide) a
    | 15, a, _, _ => exact absurd (by decide) a
    | 16, a, _, _ => exact absurd (by decide) a
    | 17, a, _, _ => exact absurd (by decide) a
    | 18, a, _, _ => exact absurd (by decide) a
    | 19, a, _, _ => exact absurd (by decide) a
    | 20, a, _, _ => exact absurd (by decide) a
    | 21, a, _, _ => exact absurd (by decide) a
    | 22, a, _, _ => exact absurd (by decide) a
    | 23, a, _, _ => exact absurd (by decide) a
    | 24, a, _, _ => exact absurd (by decide) a
    | 25, a, _, _ => exact absurd (by decide) a
    | 26, a, _, _ => exact absurd (by decide) a
    | 27, a, _, _ => exact absurd (by decide) a
    | 28, a, _, _ => exact absurd (by decide) a
    | 29, a, _, _ => exact absurd (by decide) a
    | 30, a, _, _ => exact absurd (by decide) a
    | 31, _, s, _ => exact absurd rfl s
    | 32, _, _, h => exact False.elim h
    | _ + 33, _, _, _ => exact trivial
  intro u9 w9 hE9 hu9; obtain ⟨_, r9_0⟩ := (hu9 0 (by decide)).pre (by decide); replace r9_0 : u9 0 = ?v3_0 := r9_0; obtain ⟨_, r9_1⟩ := (hu9 1 (by decide)).pre (by decide); replace r9_1 : u9 1 = ?v3_1 := r9_1; obtain ⟨_, r9_2⟩ := (hu9 2 (by decide)).pre (by decide); replace r9_2 : u9 2 = ?v3_2 := r9_2; obtain ⟨_, r9_3⟩ := (hu9 3 (by decide)).pre (by decide); replace r9_3 : u9 3 = ?v3_3 := r9_3; obtain ⟨_, r9_4⟩ := (hu9 4 (by decide)).pre (by decide); replace r9_4 : u9 4 = ?v3_4 := r9_4; obtain ⟨_, r9_5⟩ := (hu9 5 (by decide)).pre (by decide); replace r9_5 : u9 5 = ?v3_5 := r9_5; obtain ⟨_, r9_6⟩ := (hu9 6 (by decide)).pre (by decide); replace r9_6 : u9 6 = ?v3_6 := r9_6; obtain ⟨_, r9_7⟩ := (hu9 7 (by decide)).pre (by decide); replace r9_7 : u9 7 = ?v3_7 := r9_7; obtain ⟨_, r9_8⟩ := (hu9 8 (by decide)).pre (by decide); replace r9_8 : u9 8 = ?v3_8 := r9_8; obtain ⟨_, r9_9⟩ := (hu9 9 (by decide)).pre (by decide)
  replace r9_9 : u9 9 = ?v3_9 := r9_9; obtain ⟨_, r9_10⟩ := (hu9 10 (by decide)).pre (by decide); replace r9_10 : u9 10 = ?v3_10 := r9_10; obtain ⟨_, r9_11⟩ := (hu9 11 (by decide)).pre (by decide); replace r9_11 : u9 11 = ?v3_11 := r9_11; obtain ⟨_, r9_12⟩ := (hu9 12 (by decide)).pre (by decide); replace r9_12 : u9 12 = ?v3_12 := r9_12; obtain ⟨_, r9_13⟩ := (hu9 13 (by decide)).pre (by decide); replace r9_13 : u9 13 = ?v3_13 := r9_13; obtain ⟨_, r9_14⟩ := (hu9 14 (by decide)).pre (by decide); replace r9_14 : u9 14 = ?v3_14 := r9_14; obtain ⟨_, r9_15⟩ := (hu9 15 (by decide)).pre (by decide); replace r9_15 : u9 15 = ?v3_15 := r9_15; obtain ⟨_, r9_16⟩ := (hu9 16 (by decide)).pre (by decide); replace r9_16 : u9 16 = ?v3_16 := r9_16; obtain ⟨_, r9_18⟩ := (hu9 18 (by decide)).pre (by decide); replace r9_18 : u9 18 = ?v3_18 := r9_18; obtain ⟨_, r9_19⟩ := (hu9 19 (by decide)).pre (by decide); replace r9_19 : u9 19 = ?v3_19 := r9_19
  obtain ⟨_, r9_20⟩ := (hu9 20 (by decide)).pre (by decide); replace r9_20 : u9 20 = ?v3_20 := r9_20; obtain ⟨_, r9_21⟩ := (hu9 21 (by decide)).pre (by decide); replace r9_21 : u9 21 = ?v3_21 := r9_21; obtain ⟨_, r9_22⟩ := (hu9 22 (by decide)).pre (by decide); replace r9_22 : u9 22 = ?v3_22 := r9_22; obtain ⟨_, r9_23⟩ := (hu9 23 (by decide)).pre (by decide); replace r9_23 : u9 23 = ?v3_23 := r9_23; obtain ⟨_, r9_24⟩ := (hu9 24 (by decide)).pre (by decide); replace r9_24 : u9 24 = ?v3_24 := r9_24; obtain ⟨_, r9_25⟩ := (hu9 25 (by decide)).pre (by decide); replace r9_25 : u9 25 = ?v3_25 := r9_25; obtain ⟨_, r9_28⟩ := (hu9 28 (by decide)).pre (by decide); replace r9_28 : u9 28 = (.tuple #[.agg #[.bool nz, .string sz, .string tz], .int .i64 kz]) := r9_28; obtain ⟨_, r9_29⟩ := (hu9 29 (by decide)).pre (by decide); replace r9_29 : u9 29 = ?v3_29 := r9_29; obtain ⟨_, r9_30⟩ := (hu9 30 (by decide)).pre (by decide)
  replace r9_30 : u9 30 = ?v3_30 := r9_30; have r9_32 : u9 32 = ?w3_32 := (hu9 32 (by decide)).late (by decide); clear hu9; obtain ⟨sz9, oz⟩ := hE9
  simp only [putAll, Act.put, List.setIfInBounds_toArray, List.set_cons_succ, List.set_cons_zero, List.getD_cons_succ, List.getD_cons_zero, Nat.reduceAdd, Nat.zero_add]
  simp only [r9_0, r9_1, r9_2, r9_3, r9_4, r9_5, r9_6, r9_7, r9_8, r9_9, r9_10, r9_11, r9_12, r9_13, r9_14, r9_15, r9_16, r9_18, r9_19, r9_20, r9_21, r9_22, r9_23, r9_24, r9_25, r9_28, r9_29, r9_30, r9_32]
  clear r9_0 r9_1 r9_2 r9_3 r9_4 r9_5 r9_6 r9_7 r9_8 r9_9 r9_10 r9_11 r9_12 r9_13 r9_14 r9_15 r9_16 r9_18 r9_19 r9_20 r9_21 r9_22 r9_23 r9_24 r9_25 r9_28 r9_29 r9_30 r9_32
  go_wp2_with fail
  obtain ⟨z0, z1, z2⟩ := oz.cells3; exact bodyPost_ret (v := .tuple #[.agg #[.bool nz, .string sz, .string tz], .int .i64 kz]) (by simp [results, Tryz.results49, go_sem, z0, z1, z2]) rfl ⟨HRES.out, sz9⟩
theorem quo_core (n1 n2 : Bool) (s1 t1 s2 t2 : ByteArray) (a b c d : Nat) (z : Rat) (hr : Rd2 n1 n2 s1 t1 s2 t2 a b c d) (hq : z = rat (n1 != n2) (a * d) (b * c)) (hc : 0 < c) (hb : 0 < b) (hd : 0 < d) (l1 : (dw a).length ≤ 20000) (l2 : (dw b).length ≤ 20000) (l3 : (dw c).length ≤ 20000) (l4 : (dw d).length ≤ 20000) (w : World) :
    Calls Tryz.prog 9 #[.agg #[.bool n1, .string s1, .string t1], .agg #[.bool n2, .string s2, .string t2]] w fun e w' => RatRes z e ∧ Below w.heap.size w w' := by
  have hm1 := dw_mul a d; have hm2 := dw_mul b c; have hcl := dw_len_pos hc; have b0 : (((dw c).length : Int) == 0) = false := beqI_false (by omega); have HREAD := Lib.hid hr; have HQ := Lib.hid hq; have HB := Lib.hid hb; have HD := Lib.hid hd; obtain ⟨nz, sz, tz, kz, hend, hres⟩ := ratRes_one z; have HEND := Lib.hid hend; have HRES := Lib.hid hres; clear hend hres; have HPOS := Lib.hid (Nat.mul_pos hb hc); clear hc; clear hr hq hb hd; obtain ⟨o1, o2, o3, hbw⟩ := new3 w [.bool n1, .string s1, .string t1] [.bool n2, .string s2, .string t2] [.bool false, .string ⟨#[]⟩, .string ⟨#[]⟩] 26 26 26
  go_enter Tryz.func9, Tryz.ntmps9
  go_upto_region 1 with (fail)
  generalize (((w.alloc (.cells #[.bool n1, .string s1, .string t1] 26)).alloc (.cells #[.bool n2, .string s2, .string t2] 26)).alloc (.cells #[.bool false, .string ⟨#[]⟩, .string ⟨#[]⟩] 26)) = wb at o1 o2 o3 hbw ⊢; obtain ⟨c10, c11, c12⟩ := o1.cells3; obtain ⟨c20, c21, c22⟩ := o2.cells3; obtain ⟨o4, hb4⟩ := new1 wb [.bool n1, .string s1, .string t1, .bool n2, .string s2, .string t2] 26
  go_wp2_with fail
  generalize (wb.alloc (.cells #[.bool n1, .string s1, .string t1, .bool n2, .string s2, .string t2] 26)) = wc at o4 hb4 ⊢; clear c10 c11 c12 c20 c21 c22 o1 o2; replace o3 := o3.below hb4 o3.lt; replace hbw := below6 hbw hb4; clear hb4; have OLT := Lib.hid o3.lt; refine (HREAD.out _ _ o4).mono ?_; rintro e wd ⟨r, cap, A1, k1, A2, k2, A3, k3, A4, k4, rest, rfl, hcap, hcap2, hr, orow, v1, v2, v3, v4, hb5⟩; unfold maxLen at hcap2; replace o3 := o3.below hb5 o3.lt; have hrw : w.heap.size + 1 < r := by have := hbw.size; have := OLT.out; omega
  replace hbw := below6 hbw hb5; clear hb5 o4 HREAD; have c0 : wd.cell? ⟨r, 0, none⟩ = some (.bool n1) := orow.cell 0; have c1 : wd.cell? ⟨r, 1, none⟩ = some (.slice A1 (dw a).length k1) := orow.cell 1; have c2 : wd.cell? ⟨r, 2, none⟩ = some (.slice A2 (dw b).length k2) := orow.cell 2; have c3 : wd.cell? ⟨r, 3, none⟩ = some (.bool n2) := orow.cell 3; have c4 : wd.cell? ⟨r, 4, none⟩ = some (.slice A3 (dw c).length k3) := orow.cell 4; have c5 : wd.cell? ⟨r, 5, none⟩ = some (.slice A4 (dw d).length k4) := orow.cell 5; have m1 := Lib.hid v1.nat; have m2 := Lib.hid v2.nat; have m3 := Lib.hid v3.nat; have m4 := Lib.hid v4.nat
  go_upto_region 6 with (fail)
  refine wp_reg_st [some 25, some 26, some 27, some 28, some 29, some 30, some 31, some 32, some 33, some 34, some 35, some 36, some 37, some 38, some 39, some 40, some 41, some 42, some 43, some 44, some 45, some 46, some 47, some 48, some 49, some 50, some 51, some 52, some 53, some 54, some 55, none, some 5] [isV ?v4_0, isV ?v4_1, isV ?v4_2, isV ?v4_3, isV ?v4_4, isV ?v4_5, isV ?v4_6, isV ?v4_7, isV ?v4_8, isV ?v4_9, isV ?v4_10, isV ?v4_11, isV ?v4_12, isV ?v4_13, isV ?v4_14, isV ?v4_15, isV ?v4_16, (fun v w' => NatV w' v (a * d)), isV ?v4_18, isV ?v4_19, isV ?v4_20, isV ?v4_21, isV ?v4_22, isV ?v4_23, isV ?v4_24, isV ?v4_25, (fun v w' => NatV w' v (b * c)), (fun v w' => NumOk 100000 z w' v), isV (.tuple #[.agg #[.bool nz, .string sz, .string tz], .int .i64 kz]), isV ?v4_29, isV ?v4_30, fun _ _ => False, fun _ _ => False] [anyV, anyV, anyV, anyV, anyV, anyV, anyV, anyV, anyV, anyV, anyV, anyV, anyV, anyV, anyV, anyV, anyV, anyV, anyV, anyV, anyV, anyV, anyV, anyV, anyV, anyV, anyV, anyV, anyV, anyV, anyV, anyV, isV ?w4_32] 31 [0, 1, 2, 3, 4, 5, 6, 7, 8, 9, 10, 11, 12, 13, 14, 15, 16, 17, 18, 19, 20, 21, 22, 23, 24, 25, 26, 27, 28, 29, 30] (fun _ => fun w' => Below w.heap.size w w' ∧ Own w' (w.heap.size + 1 + 1) 26 [.bool nz, .string sz, .string tz]) rfl (by kernel_rfl) rfl rfl (by decide) (by kernel_rfl) (by kernel_rfl) (fun _ _ _ _ h => h) ?k4 ?m4 ⟨?s4_0, ?s4_1, ?s4_2, ?s4_3, ?s4_4, ?s4_5, ?s4_6, ?s4_7, ?s4_8, ?s4_9, ?s4_10, ?s4_11, ?s4_12, ?s4_13, ?s4_14, ?s4_15, ?s4_16, ?s4_17, ?s4_18, ?s4_19, ?s4_20, ?s4_21, ?s4_22, ?s4_23, ?s4_24, ?s4_25, ?s4_26, ?s4_27, ?s4_28, ?s4_29, ?s4_30, ?s4_31, ?s4_32, trivial⟩ ?p4
  case s4_0 =>
    rw [if_neg (by decide)]
    constructor
    · rw [if_neg (by decide)]; intro t9 w9 hT9 hV9 hO9 K9 hK9; have o9_6 := hO9 6 _ (.inl (show List.contains _ _ = false from by kernel_rfl)) rfl; clear hV9 hO9; go_simp
      (refine hK9 _ _ (Grow.refl _) ?_; exact rfl)
    · rw [if_pos (by decide)]; trivial
  case s4_1 =>
    rw [if_neg (by decide)]
    constructor
    · rw [if_neg (by decide)]; intro t9 w9 hT9 hV9 hO9 K9 hK9; obtain ⟨x9_0, p9_0, q9_0⟩ := hV9.g 0 25 rfl rfl (by kernel_rfl); obtain rfl : x9_0 = ?v4_0 := q9_0; clear hV9 hO9; go_simp
      (refine hK9 _ _ (Grow.refl _) ?_; exact rfl)
    · rw [if_pos (by decide)]; trivial
  case s4_2 =>
    rw [if_neg (by decide)]
    constructor
    · rw [if_neg (by decide)]; intro t9 w9 hT9 hV9 hO9 K9 hK9; obtain ⟨x9_1, p9_1, q9_1⟩ := hV9.g 1 26 rfl rfl (by kernel_rfl); obtain rfl : x9_1 = ?v4_1 := q9_1; clear hV9 hO9; go_simp
      (refine hK9 _ _ (Grow.refl _) ?_; exact rfl)
    · rw [if_pos (by decide)]; trivial
  case s4_3 =>
    rw [if_neg (by decide)]
    constructor
    · rw [if_neg (by decide)]; intro t9 w9 hT9 hV9 hO9 K9 hK9; obtain ⟨x9_2, p9_2, q9_2⟩ := hV9.g 2 27 rfl rfl (by kernel_rfl); obtain rfl : x9_2 = ?v4_2 := q9_2; clear hV9 hO9; have d9_0 := grow_cell hT9 c0; have d9_1 := grow_cell hT9 c1; have d9_2 := grow_cell hT9 c2; have d9_3 := grow_cell hT9 c3; have d9_4 := grow_cell hT9 c4; have d9_5 := grow_cell hT9 c5; go_simp
      (refine hK9 _ _ (Grow.refl _) ?_; exact rfl)
    · rw [if_pos (by decide)]; trivial
  case s4_4 =>
    rw [if_neg (by decide)]
    constructor
    · rw [if_neg (by decide)]; intro t9 w9 hT9 hV9 hO9 K9 hK9; have o9_6 := hO9 6 _ (.inl (show List.contains _ _ = false from by kernel_rfl)) rfl; clear hV9 hO9; go_simp
      (refine hK9 _ _ (Grow.refl _) ?_; exact rfl)
    · rw [if_pos (by decide)]; trivial
  case s4_5 =>
    rw [if_neg (by decide)]
    constructor
    · rw [if_neg (by decide)]; intro t9 w9 hT9 hV9 hO9 K9 hK9; obtain ⟨x9_4, p9_4, q9_4⟩ := hV9.g 4 29 rfl rfl (by kernel_rfl); obtain rfl : x9_4 = ?v4_4 := q9_4; clear hV9 hO9; go_simp
      (refine hK9 _ _ (Grow.refl _) ?_; exact rfl)
    · rw [if_pos (by decide)]; trivial
  case s4_6 =>
    rw [if_neg (by decide)]
    constructor
    · rw [if_neg (by decide)]; intro t9 w9 hT9 hV9 hO9 K9 hK9; obtain ⟨x9_5, p9_5, q9_5⟩ := hV9.g 5 30 rfl rfl (by kernel_rfl); obtain rfl : x9_5 = ?v4_5 := q9_5; clear hV9 hO9; go_simp
      (refine hK9 _ _ (Grow.refl _) ?_; exact rfl)
    · rw [if_pos (by decide)]; trivial
  case s4_7 =>
    rw [if_neg (by decide)]
    constructor
    · rw [if_neg (by decide)]; intro t9 w9 hT9 hV9 hO9 K9 hK9; obtain ⟨x9_6, p9_6, q9_6⟩ := hV9.g 6 31 rfl rfl (by kernel_rfl); obtain rfl : x9_6 = ?v4_6 := q9_6; clear hV9 hO9; have d9_0 := grow_cell hT9 c0; have d9_1 := grow_cell hT9 c1; have d9_2 := grow_cell hT9 c2; have d9_3 := grow_cell hT9 c3; have d9_4 := grow_cell hT9 c4; have d9_5 := grow_cell hT9 c5; go_simp
      (refine hK9 _ _ (Grow.refl _) ?_; exact rfl)
    · rw [if_pos (by decide)]; trivial
  case s4_8 =>
    rw [if_neg (by decide)]
    constructor
    · rw [if_neg (by decide)]; intro t9 w9 hT9 hV9 hO9 K9 hK9; obtain ⟨x9_3, p9_3, q9_3⟩ := hV9.g 3 28 rfl rfl (by kernel_rfl); obtain rfl : x9_3 = ?v4_3 := q9_3; obtain ⟨x9_7, p9_7, q9_7⟩ := hV9.g 7 32 rfl rfl (by kernel_rfl); obtain rfl : x9_7 = ?v4_7 := q9_7; clear hV9 hO9; go_simp
      (refine hK9 _ _ (Grow.refl _) ?_; exact rfl)
    · rw [if_pos (by decide)]; trivial
  case s4_9 =>
    rw [if_neg (by decide)]
    constructor
    · rw [if_neg (by decide)]; intro t9 w9 hT9 hV9 hO9 K9 hK9; have o9_6 := hO9 6 _ (.inl (show List.contains _ _ = false from by kernel_rfl)) rfl; clear hV9 hO9; go_simp
      (refine hK9 _ _ (Grow.refl _) ?_; exact rfl)
    · rw [if_pos (by decide)]; trivial
  case s4_10 =>
    rw [if_neg (by decide)]
    constructor
    · rw [if_neg (by decide)]; intro t9 w9 hT9 hV9 hO9 K9 hK9; obtain ⟨x9_9, p9_9, q9_9⟩ := hV9.g 9 34 rfl rfl (by kernel_rfl); obtain rfl : x9_9 = ?v4_9 := q9_9; clear hV9 hO9; go_simp
      (refine hK9 _ _ (Grow.refl _) ?_; exact rfl)
    · rw [if_pos (by decide)]; trivial
  case s4_11 =>
    rw [if_neg (by decide)]
    constructor
    · rw [if_neg (by decide)]; intro t9 w9 hT9 hV9 hO9 K9 hK9; obtain ⟨x9_10, p9_10, q9_10⟩ := hV9.g 10 35 rfl rfl (by kernel_rfl); obtain rfl : x9_10 = ?v4_10 := q9_10; clear hV9 hO9; go_simp
      (refine hK9 _ _ (Grow.refl _) ?_; exact rfl)
    · rw [if_pos (by decide)]; trivial
  case s4_12 =>
    rw [if_neg (by decide)]
    constructor
    · rw [if_neg (by decide)]; intro t9 w9 hT9 hV9 hO9 K9 hK9; obtain ⟨x9_11, p9_11, q9_11⟩ := hV9.g 11 36 rfl rfl (by kernel_rfl); obtain rfl : x9_11 = ?v4_11 := q9_11; clear hV9 hO9; have d9_0 := grow_cell hT9 c0; have d9_1 := grow_cell hT9 c1; have d9_2 := grow_cell hT9 c2; have d9_3 := grow_cell hT9 c3; have d9_4 := grow_cell hT9 c4; have d9_5 := grow_cell hT9 c5; go_simp
      (refine hK9 _ _ (Grow.refl _) ?_; exact rfl)
    · rw [if_pos (by decide)]; trivial
  case s4_13 =>
    rw [if_neg (by decide)]
    constructor
    · rw [if_neg (by decide)]; intro t9 w9 hT9 hV9 hO9 K9 hK9; have o9_6 := hO9 6 _ (.inl (show List.contains _ _ = false from by kernel_rfl)) rfl; clear hV9 hO9; go_simp
      (refine hK9 _ _ (Grow.refl _) ?_; exact rfl)
    · rw [if_pos (by decide)]; trivial
  case s4_14 =>
    rw [if_neg (by decide)]
    constructor
    · rw [if_neg (by decide)]; intro t9 w9 hT9 hV9 hO9 K9 hK9; obtain ⟨x9_13, p9_13, q9_13⟩ := hV9.g 13 38 rfl rfl (by kernel_rfl); obtain rfl : x9_13 = ?v4_13 := q9_13; clear hV9 hO9; go_simp
      (refine hK9 _ _ (Grow.refl _) ?_; exact rfl)
    · rw [if_pos (by decide)]; trivial
  case s4_15 =>
    rw [if_neg (by decide)]
    constructor
    · rw [if_neg (by decide)]; intro t9 w9 hT9 hV9 hO9 K9 hK9; obtain ⟨x9_14, p9_14, q9_14⟩ := hV9.g 14 39 rfl rfl (by kernel_rfl); obtain rfl : x9_14 = ?v4_14 := q9_14; clear hV9 hO9; go_simp
      (refine hK9 _ _ (Grow.refl _) ?_; exact rfl)
    · rw [if_pos (by decide)]; trivial
  case s4_16 =>
    rw [if_neg (by decide)]
    constructor
    · rw [if_neg (by decide)]; intro t9 w9 hT9 hV9 hO9 K9 hK9; obtain ⟨x9_15, p9_15, q9_15⟩ := hV9.g 15 40 rfl rfl (by kernel_rfl); obtain rfl : x9_15 = ?v4_15 := q9_15; clear hV9 hO9; have d9_0 := grow_cell hT9 c0; have d9_1 := grow_cell hT9 c1; have d9_2 := grow_cell hT9 c2; have d9_3 := grow_cell hT9 c3; have d9_4 := grow_cell hT9 c4; have d9_5 := grow_cell hT9 c5; go_simp
      (refine hK9 _ _ (Grow.refl _) ?_; exact rfl)
    · rw [if_pos (by decide)]; trivial
  case s4_17 =>
    rw [if_neg (by decide)]
    constructor
    · rw [if_neg (by decide)]; intro t9 w9 hT9 hV9 hO9 K9 hK9; obtain ⟨x9_12, p9_12, q9_12⟩ := hV9.g 12 37 rfl rfl (by kernel_rfl); obtain rfl : x9_12 = ?v4_12 := q9_12; obtain ⟨x9_16, p9_16, q9_16⟩ := hV9.g 16 41 rfl rfl (by kernel_rfl); obtain rfl : x9_16 = ?v4_16 := q9_16; clear hV9 hO9; go_simp; refine (mul_any _ (m1.out.below hT9.below) (m4.out.below hT9.below) (by omega) (by omega)).mono ?_; rintro _ w8 ⟨v8, rfl, hv8, hb8⟩; exact hK9 _ _ hb8 hv8
    · rw [if_pos (by decide)]; trivial
  case s4_18 =>
    rw [if_neg (by decide)]
    constructor
    · rw [if_neg (by decide)]; intro t9 w9 hT9 hV9 hO9 K9 hK9; have o9_6 := hO9 6 _ (.inl (show List.contains _ _ = false from by kernel_rfl)) rfl; clear hV9 hO9; go_simp
      (refine hK9 _ _ (Grow.refl _) ?_; exact rfl)
    · rw [if_pos (by decide)]; trivial
  case s4_19 =>
    rw [if_neg (by decide)]
    constructor
    · rw [if_neg (by decide)]; intro t9 w9 hT9 hV9 hO9 K9 hK9; obtain ⟨x9_18, p9_18, q9_18⟩ := hV9.g 18 43 rfl rfl (by kernel_rfl); obtain rfl : x9_18 = ?v4_18 := q9_18; clear hV9 hO9; go_simp
      (refine hK9 _ _ (Grow.refl _) ?_; exact rfl)
    · rw [if_pos (by decide)]; trivial
  case s4_20 =>
    rw [if_neg (by decide)]
    constructor
    · rw [if_neg (by decide)]; intro t9 w9 hT9 hV9 hO9 K9 hK9; obtain ⟨x9_19, p9_19, q9_19⟩ := hV9.g 19 44 rfl rfl (by kernel_rfl); obtain rfl : x9_19 = ?v4_19 := q9_19; clear hV9 hO9; go_simp
      (refine hK9 _ _ (Grow.refl _) ?_; exact rfl)
    · rw [if_pos (by decide)]; trivial
  case s4_21 =>
    rw [if_neg (by decide)]
    constructor
    · rw [if_neg (by decide)]; intro t9 w9 hT9 hV9 hO9 K9 hK9; obtain ⟨x9_20, p9_20, q9_20⟩ := hV9.g 20 45 rfl rfl (by kernel_rfl); obtain rfl : x9_20 = ?v4_20 := q9_20; clear hV9 hO9; have d9_0 := grow_cell hT9 c0; have d9_1 := grow_cell hT9 c1; have d9_2 := grow_cell hT9 c2; have d9_3 := grow_cell hT9 c3; have d9_4 := grow_cell hT9 c4; have d9_5 := grow_cell hT9 c5; go_simp
      (refine hK9 _ _ (Grow.refl _) ?_; exact rfl)
    · rw [if_pos (by decide)]; trivial
  case s4_22 =>
    rw [if_neg (by decide)]
    constructor
    · rw [if_neg (by decide)]; intro t9 w9 hT9 hV9 hO9 K9 hK9; have o9_6 := hO9 6 _ (.inl (show List.contains _ _ = false from by kernel_rfl)) rfl; clear hV9 hO9; go_simp
      (refine hK9 _ _ (Grow.refl _) ?_; exact rfl)
    · rw [if_pos (by decide)]; trivial
  case s4_23 =>
    rw [if_neg (by decide)]
    constructor
    · rw [if_neg (by decide)]; intro t9 w9 hT9 hV9 hO9 K9 hK9; obtain ⟨x9_22, p9_22, q9_22⟩ := hV9.g 22 47 rfl rfl (by kernel_rfl); obtain rfl : x9_22 = ?v4_22 := q9_22; clear hV9 hO9; go_simp
      (refine hK9 _ _ (Grow.refl _) ?_; exact rfl)
    · rw [if_pos (by decide)]; trivial
  case s4_24 =>
    rw [if_neg (by decide)]
    constructor
    · rw [if_neg (by decide)]; intro t9 w9 hT9 hV9 hO9 K9 hK9; obtain ⟨x9_23, p9_23, q9_23⟩ := hV9.g 23 48 rfl rfl (by kernel_rfl); obtain rfl : x9_23 = ?v4_23 := q9_23; clear hV9 hO9; go_simp
      (refine hK9 _ _ (Grow.refl _) ?_; exact rfl)
    · rw [if_pos (by decide)]; trivial
  case s4_25 =>
    rw [if_neg (by decide)]
    constructor
    · rw [if_neg (by decide)]; intro t9 w9 hT9 hV9 hO9 K9 hK9; obtain ⟨x9_24, p9_24, q9_24⟩ := hV9.g 24 49 rfl rfl (by kernel_rfl); obtain rfl : x9_24 = ?v4_24 := q9_24; clear hV9 hO9; have d9_0 := grow_cell hT9 c0; have d9_1 := grow_cell hT9 c1; have d9_2 := grow_cell hT9 c2; have d9_3 := grow_cell hT9 c3; have d9_4 := grow_cell hT9 c4; have d9_5 := grow_cell hT9 c5; go_simp
      (refine hK9 _ _ (Grow.refl _) ?_; exact rfl)
    · rw [if_pos (by decide)]; trivial
  case s4_26 =>
    rw [if_neg (by decide)]
    constructor
    · rw [if_neg (by decide)]; intro t9 w9 hT9 hV9 hO9 K9 hK9; obtain ⟨x9_21, p9_21, q9_21⟩ := hV9.g 21 46 rfl rfl (by kernel_rfl); obtain rfl : x9_21 = ?v4_21 := q9_21; obtain ⟨x9_25, p9_25, q9_25⟩ := hV9.g 25 50 rfl rfl (by kernel_rfl); obtain rfl : x9_25 = ?v4_25 := q9_25; clear hV9 hO9; go_simp; refine (mul_any _ (m2.out.below hT9.below) (m3.out.below hT9.below) (by omega) (by omega)).mono ?_; rintro _ w8 ⟨v8, rfl, hv8, hb8⟩; exact hK9 _ _ hb8 hv8
    · rw [if_pos (by decide)]; trivial
  case s4_27 =>
    rw [if_neg (by decide)]
    constructor
    · rw [if_neg (by decide)]; intro t9 w9 hT9 hV9 hO9 K9 hK9; obtain ⟨x9_8, p9_8, q9_8⟩ := hV9.g 8 33 rfl rfl (by kernel_rfl); obtain rfl : x9_8 = ?v4_8 := q9_8; obtain ⟨x9_17, p9_17, q9_17⟩ := hV9.g 17 42 rfl rfl (by kernel_rfl); replace q9_17 : ((fun v w' => NatV w' v (a * d))) x9_17 _ := q9_17; obtain ⟨x9_26, p9_26, q9_26⟩ := hV9.g 26 51 rfl rfl (by kernel_rfl); replace q9_26 : ((fun v w' => NatV w' v (b * c))) x9_26 _ := q9_26; clear hV9 hO9; have q7 := q9_17; have q8 := q9_26; obtain ⟨A7, k7, rfl, -⟩ := q9_17; obtain ⟨A8, k8, rfl, -⟩ := q9_26; go_simp; exact hK9 _ _ (Grow.refl _) ⟨_, _, _, _, _, rfl, q7, q8, HPOS.out, by omega, by omega, HQ.out⟩
    · rw [if_pos (by decide)]; trivial
  case s4_28 =>
    rw [if_neg (by decide)]
    constructor
    · rw [if_neg (by decide)]; intro t9 w9 hT9 hV9 hO9 K9 hK9; obtain ⟨x9_27, p9_27, q9_27⟩ := hV9.g 27 52 rfl rfl (by kernel_rfl); replace q9_27 : ((fun v w' => NumOk 100000 z w' v)) x9_27 _ := q9_27; clear hV9 hO9; obtain ⟨neg, y1, y2, a9, b9, rfl, g1, g2, g3, g4, g5, g6⟩ := q9_27; go_simp; refine (lowest_any neg y1 y2 a9 b9 _ g1 g2 (by omega) (by omega) g3).mono ?_; rintro e w8 ⟨hl, hb8⟩; have he := HEND.out _ (by rw [g6]; exact hl.toRat g3); subst he; exact hK9 _ _ hb8 rfl
    · rw [if_pos (by decide)]; trivial
  case s4_29 =>
    rw [if_neg (by decide)]
    constructor
    · rw [if_neg (by decide)]; intro t9 w9 hT9 hV9 hO9 K9 hK9; obtain ⟨x9_28, p9_28, q9_28⟩ := hV9.g 28 53 rfl rfl (by kernel_rfl); obtain rfl : x9_28 = (.tuple #[.agg #[.bool nz, .string sz, .string tz], .int .i64 kz]) := q9_28; clear hV9 hO9; go_simp
      (refine hK9 _ _ (Grow.refl _) ?_; exact rfl)
    · rw [if_pos (by decide)]; trivial
  case s4_30 =>
    rw [if_neg (by decide)]
    constructor
    · rw [if_neg (by decide)]; intro t9 w9 hT9 hV9 hO9 K9 hK9; obtain ⟨x9_28, p9_28, q9_28⟩ := hV9.g 28 53 rfl rfl (by kernel_rfl); obtain rfl : x9_28 = (.tuple #[.agg #[.bool nz, .string sz, .string tz], .int .i64 kz]) := q9_28; clear hV9 hO9; go_simp
      (refine hK9 _ _ (Grow.refl _) ?_; exact rfl)
    · rw [if_pos (by decide)]; trivial
  case s4_31 =>
    rw [if_pos (by decide)]; intro t9 w9 hT9 hV9 hO9 K9 hK9; obtain ⟨x9_29, p9_29, q9_29⟩ := hV9.g 29 54 (by decide) rfl (by kernel_rfl); obtain rfl : x9_29 = ?v4_29 := q9_29; have o9_4 := hO9 4 _ (.inl (show List.contains _ _ = false from by kernel_rfl)) rfl; clear hV9 hO9; have og := o3.below hT9.below o3.lt; obtain ⟨hg0, hg1, hg2⟩ := og.cells3; obtain ⟨hf0, hf1, hf2⟩ := og.frozens3; have HE := Lib.hid (⟨Below.set3 (below6 hbw hT9.below) (by omega) _ _ _, og.set3 _ _ _⟩ : (fun w' => Below w.heap.size w w' ∧ Own w' (w.heap.size + 1 + 1) 26 [.bool nz, .string sz, .string tz]) ((((w9.setCell ⟨w.heap.size + 1 + 1, 0, none⟩ (.bool nz)).setCell ⟨w.heap.size + 1 + 1, 1, none⟩ (.string sz)).setCell ⟨w.heap.size + 1 + 1, 2, none⟩ (.string tz)))); go_simp; exact hK9 undef _ HE.out trivial
  case s4_32 =>
    rw [if_neg (by decide)]
    constructor
    · rw [if_pos (by rfl)]; trivial
    · rw [if_neg (by decide)]; intro t9 w9 hV9 hO9 K9 hK9; obtain ⟨x9_30, p9_30, q9_30⟩ := hV9.g 30 55 rfl rfl (by kernel_rfl); obtain ⟨_, q9_30⟩ := q9_30.pre (by decide); obtain rfl : x9_30 = ?v4_30 := q9_30; clear hV9 hO9; go_simp
      (refine hK9 _ ?_; exact rfl)
  case k4 =>
    intro i9 v9 w9 x9 h9 g9
    match i9, h9 with
    | 0, h9 => exact h9
    | 1, h9 => exact h9
    | 2, h9 => exact h9
    | 3, h9 => exact h9
    | 4, h9 => exact h9
    | 5, h9 => exact h9
    | 6, h9 => exact h9
    | 7, h9 => exact h9
    | 8, h9 => exact h9
    | 9, h9 => exact h9
    | 10, h9 => exact h9
    | 11, h9 => exact h9
    | 12, h9 => exact h9
    | 13, h9 => exact h9
    | 14, h9 => exact h9
    | 15, h9 => exact h9
    | 16, h9 => exact h9
    | 17, h9 => (replace h9 : (fun v w' => NatV w' v (a * d)) v9 w9 := h9); exact NatV.below h9 g9
    | 18, h9 => exact h9
    | 19, h9 => exact h9
    | 20, h9 => exact h9
    | 21, h9 => exact h9
    | 22, h9 => exact h9
    | 23, h9 => exact h9
    | 24, h9 => exact h9
    | 25, h9 => exact h9
    | 26, h9 => (replace h9 : (fun v w' => NatV w' v (b * c)) v9 w9 := h9); exact NatV.below h9 g9
    | 27, h9 => (replace h9 : (fun v w' => NumOk 100000 z w' v) v9 w9 := h9); exact NumOk.below h9 g9
    | 28, h9 => exact h9
    | 29, h9 => exact h9
    | 30, h9 => exact h9
    | 31, h9 => exact h9
    | 32, h9 => exact h9
    | _ + 33, h9 => exact trivial
  case m4 =>
    intro i9 v9 w9 x9 a s h
    match i9, a, s, h with
    | 0, a, _, _ => exact absurd (by decide) a
    | 1, a, _, _ => exact absurd (by decide) a
    | 2, a, _, _ => exact absurd (by decide) a
    | 3, a, _, _ => exact absurd (by decide) a
    | 4, a, _, _ => exact absurd (by decide) a
    | 5, a, _, _ => exact absurd (by decide) a
    | 6, a, _, _ => exact absurd (by decide) a
    | 7, a, _, _ => exact absurd (by decide) a
    | 8, a, _, _ => exact absurd (by decide) a
    | 9, a, _, _ => exact absurd (by decide) a
    | 10, a, _, _ => exact absurd (by decide) a
    | 11, a, _, _ => exact absurd (by decide) a
    | 12, a, _, _ => exact absurd (by decide) a
    | 13, a, _, _ => exact absurd (by decide) a
    | 14, a, _, _ => exact absurd (by decide) a
    | 15, a, _, _ => exact absurd (by decide) a
    | 16, a, _, _ => exact absurd (by decide) a
    | 17, a, _, _ => exact absurd (by decide) a
    | 18, a, _, _ => exact absurd (by decide) a
    | 19, a, _, _ => exact absurd (by decide) a
    | 20, a, _, _ => exact absurd (by decide) a
    | 21, a, _, _ => exact absurd (by decide) a
    | 22, a, _, _ => exact absurd (by decide) a
    | 23, a, _, _ => exact absurd (by decide) a
    | 24, a, _, _ => exact absurd (by decide) a
    | 25, a, _, _ => exact absurd (by decide) a
    | 26, a, _, _ => exact absurd (by decide) a
    | 27, a, _, _ => exact absurd (by decide) a
    | 28, a, _, _ => exact absurd (by decide) a
    | 29, a, _, _ => exact absurd (by decide) a
    | 30, a, _, _ => exact absurd (by decide) a
    | 31, _, s, _ => exact absurd rfl s
    | 32, _, _, h => exact False.elim h
    | _ + 33, _, _, _ => exact trivial
  intro u9 w9 hE9 hu9; obtain ⟨_, r9_0⟩ := (hu9 0 (by decide)).pre (by decide); replace r9_0 : u9 0 = ?v4_0 := r9_0; obtain ⟨_, r9_1⟩ := (hu9 1 (by decide)).pre (by decide); replace r9_1 : u9 1 = ?v4_1 := r9_1; obtain ⟨_, r9_2⟩ := (hu9 2 (by decide)).pre (by decide); replace r9_2 : u9 2 = ?v4_2 := r9_2; obtain ⟨_, r9_3⟩ := (hu9 3 (by decide)).pre (by decide); replace r9_3 : u9 3 = ?v4_3 := r9_3; obtain ⟨_, r9_4⟩ := (hu9 4 (by decide)).pre (by decide); replace r9_4 : u9 4 = ?v4_4 := r9_4; obtain ⟨_, r9_5⟩ := (hu9 5 (by decide)).pre (by decide); replace r9_5 : u9 5 = ?v4_5 := r9_5; obtain ⟨_, r9_6⟩ := (hu9 6 (by decide)).pre (by decide); replace r9_6 : u9 6 = ?v4_6 := r9_6; obtain ⟨_, r9_7⟩ := (hu9 7 (by decide)).pre (by decide); replace r9_7 : u9 7 = ?v4_7 := r9_7; obtain ⟨_, r9_8⟩ := (hu9 8 (by decide)).pre (by decide); replace r9_8 : u9 8 = ?v4_8 := r9_8; obtain ⟨_, r9_9⟩ := (hu9 9 (by decide)).pre (by decide)
  replace r9_9 : u9 9 = ?v4_9 := r9_9; obtain ⟨_, r9_10⟩ := (hu9 10 (by decide)).pre (by decide); replace r9_10 : u9 10 = ?v4_10 := r9_10; obtain ⟨_, r9_11⟩ := (hu9 11 (by decide)).pre (by decide); replace r9_11 : u9 11 = ?v4_11 := r9_11; obtain ⟨_, r9_12⟩ := (hu9 12 (by decide)).pre (by decide); replace r9_12 : u9 12 = ?v4_12 := r9_12; obtain ⟨_, r9_13⟩ := (hu9 13 (by decide)).pre (by decide); replace r9_13 : u9 13 = ?v4_13 := r9_13; obtain ⟨_, r9_14⟩ := (hu9 14 (by decide)).pre (by decide); replace r9_14 : u9 14 = ?v4_14 := r9_14; obtain ⟨_, r9_15⟩ := (hu9 15 (by decide)).pre (by decide); replace r9_15 : u9 15 = ?v4_15 := r9_15; obtain ⟨_, r9_16⟩ := (hu9 16 (by decide)).pre (by decide); replace r9_16 : u9 16 = ?v4_16 := r9_16; obtain ⟨_, r9_18⟩ := (hu9 18 (by decide)).pre (by decide); replace r9_18 : u9 18 = ?v4_18 := r9_18; obtain ⟨_, r9_19⟩ := (hu9 19 (by decide)).pre (by decide); replace r9_19 : u9 19 = ?v4_19 := r9_19
  obtain ⟨_, r9_20⟩ := (hu9 20 (by decide)).pre (by decide); replace r9_20 : u9 20 = ?v4_20 := r9_20; obtain ⟨_, r9_21⟩ := (hu9 21 (by decide)).pre (by decide); replace r9_21 : u9 21 = ?v4_21 := r9_21; obtain ⟨_, r9_22⟩ := (hu9 22 (by decide)).pre (by decide); replace r9_22 : u9 22 = ?v4_22 := r9_22; obtain ⟨_, r9_23⟩ := (hu9 23 (by decide)).pre (by decide); replace r9_23 : u9 23 = ?v4_23 := r9_23; obtain ⟨_, r9_24⟩ := (hu9 24 (by decide)).pre (by decide); replace r9_24 : u9 24 = ?v4_24 := r9_24; obtain ⟨_, r9_25⟩ := (hu9 25 (by decide)).pre (by decide); replace r9_25 : u9 25 = ?v4_25 := r9_25; obtain ⟨_, r9_28⟩ := (hu9 28 (by decide)).pre (by decide); replace r9_28 : u9 28 = (.tuple #[.agg #[.bool nz, .string sz, .string tz], .int .i64 kz]) := r9_28; obtain ⟨_, r9_29⟩ := (hu9 29 (by decide)).pre (by decide); replace r9_29 : u9 29 = ?v4_29 := r9_29; obtain ⟨_, r9_30⟩ := (hu9 30 (by decide)).pre (by decide)
  replace r9_30 : u9 30 = ?v4_30 := r9_30; have r9_32 : u9 32 = ?w4_32 := (hu9 32 (by decide)).late (by decide); clear hu9; obtain ⟨sz9, oz⟩ := hE9
  simp only [putAll, Act.put, List.setIfInBounds_toArray, List.set_cons_succ, List.set_cons_zero, List.getD_cons_succ, List.getD_cons_zero, Nat.reduceAdd, Nat.zero_add]
  simp only [r9_0, r9_1, r9_2, r9_3, r9_4, r9_5, r9_6, r9_7, r9_8, r9_9, r9_10, r9_11, r9_12, r9_13, r9_14, r9_15, r9_16, r9_18, r9_19, r9_20, r9_21, r9_22, r9_23, r9_24, r9_25, r9_28, r9_29, r9_30, r9_32]
  clear r9_0 r9_1 r9_2 r9_3 r9_4 r9_5 r9_6 r9_7 r9_8 r9_9 r9_10 r9_11 r9_12 r9_13 r9_14 r9_15 r9_16 r9_18 r9_19 r9_20 r9_21 r9_22 r9_23 r9_24 r9_25 r9_28 r9_29 r9_30 r9_32
  go_wp2_with fail
  obtain ⟨z0, z1, z2⟩ := oz.cells3; exact bodyPost_ret (v := .tuple #[.agg #[.bool nz, .string sz, .string tz], .int .i64 kz]) (by simp [results, Tryz.results9, go_sem, z0, z1, z2]) rfl ⟨HRES.out, sz9⟩
open Go.RowKit Dg

theorem OkN.size {n : Nat} (h : OkN n) : (S n).size ≤ maxLen := by rw [S_size]; unfold OkN at h; unfold maxLen; omega
theorem den_pos (x : Rat) : 0 < x.den := Nat.pos_of_ne_zero x.den_nz
theorem rat_inv {neg : Bool} {c d : Nat} : rat neg d c = (rat neg c d)⁻¹ := by
  unfold rat; rw [← Rat.divInt_ofNat, ← Rat.divInt_ofNat, Rat.inv_divInt]
  cases neg with
  | false => simp
  | true => simp [Rat.divInt_neg']
theorem radd_yes {x y : Rat} (hx : OkR x) (hy : OkR y) (w : World) : Calls Tryz.prog 51 #[RV x, RV y] w fun e w' => RatRes (x + y) e ∧ Below w.heap.size w w' :=
  add_core _ _ _ _ _ _ _ _ _ _ (x + y) (fun g w ho => read2_yes hx hy g w ho) (by rw [rat_self, rat_self]) (den_pos x) (den_pos y) hx.1.dw hx.2.dw hy.1.dw hy.2.dw w
theorem rsub_yes {x y : Rat} (hx : OkR x) (hy : OkR y) (w : World) : Calls Tryz.prog 8 #[RV x, RV y] w fun e w' => RatRes (x - y) e ∧ Below w.heap.size w w' :=
  sub_core _ _ _ _ _ _ _ _ _ _ (x - y) (fun g w ho => read2_yes hx hy g w ho) (by rw [rat_flip, rat_self, rat_self, Rat.sub_eq_add_neg]) (den_pos x) (den_pos y) hx.1.dw hx.2.dw hy.1.dw hy.2.dw w
theorem rmul_yes {x y : Rat} (hx : OkR x) (hy : OkR y) (w : World) : Calls Tryz.prog 49 #[RV x, RV y] w fun e w' => RatRes (x * y) e ∧ Below w.heap.size w w' :=
  mul_core _ _ _ _ _ _ _ _ _ _ (x * y) (fun g w ho => read2_yes hx hy g w ho) (by rw [rat_mul, rat_self, rat_self]) (den_pos x) (den_pos y) hx.1.dw hx.2.dw hy.1.dw hy.2.dw w
theorem num_pos {y : Rat} (h : y ≠ 0) : 0 < y.num.natAbs := by
  rcases Nat.eq_zero_or_pos y.num.natAbs with e | e
  · exact absurd (Rat.num_eq_zero.1 (by omega)) h
  · exact e
theorem rquo_yes {x y : Rat} (hx : OkR x) (hy : OkR y) (h0 : y ≠ 0) (w : World) : Calls Tryz.prog 9 #[RV x, RV y] w fun e w' => RatRes (x / y) e ∧ Below w.heap.size w w' :=
  quo_core _ _ _ _ _ _ _ _ _ _ (x / y) (fun g w ho => read2_yes hx hy g w ho) (by rw [rat_mul, rat_inv (c := y.num.natAbs), rat_self, rat_self, Rat.div_def]) (num_pos h0) (den_pos x) (den_pos y) hx.1.dw hx.2.dw hy.1.dw hy.2.dw w
section
variable {n1 n2 : Bool} {s1 t1 s2 t2 : ByteArray} (hs1 : s1.size ≤ maxLen) (ht1 : t1.size ≤ maxLen) (hs2 : s2.size ≤ maxLen) (ht2 : t2.size ≤ maxLen) (h : ¬ (IsR n1 s1 t1 ∧ IsR n2 s2 t2)) (w : World)
include hs1 ht1 hs2 ht2 h
end
end Go.Proofs.YtffldjghdcfpiaaGreatDoor
