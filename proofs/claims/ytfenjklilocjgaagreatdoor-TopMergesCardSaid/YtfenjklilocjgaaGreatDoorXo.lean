/- Parts of the proof: Xo. No condition of its own. -/
import Derived.Test.YtfenjklilocjgaaGreatDoorXn
import Derived.Test.YtfenjklilocjgaaGreatDoorXf
set_option linter.unusedSimpArgs false
set_option linter.unusedVariables false
set_option linter.unusedSectionVars false
namespace Go.Proofs.YtfenjklilocjgaaGreatDoor
set_option linter.unusedSimpArgs false
set_option linter.unusedVariables false
set_option linter.unusedSectionVars false
open Go.RowKit

theorem chain_fits {s : ByteArray} : ∀ {l : List (Nat × Nat × Nat)} {p q : Nat}, Chain s p l q → ∀ u ∈ l, u.2.1 + u.2.2 ≤ s.size ∧ u.2.2 ≤ 4 := by
  intro l
  induction l with
  | nil => intro p q h u hu; simp at hu
  | cons v l ih =>
    intro p q h u hu
    rcases List.mem_cons.1 hu with rfl | hu
    · have h1 := h.1
      have h2 := decode_fit s p h.2.1 _ _ h.2.2.1
      have h3 := decode_pos s p
      rw [h.2.2.1] at h3
      simp only at h3
      exact ⟨by omega, h3.2.1⟩
    · exact ih h.2.2.2 u hu
open Go in
theorem wp_app2 {P : Program} {w w' : World} {o : Oper} {a : Act} {K : Act → World → Prop} {Q : Exit → Act → World → Prop} (s x : Operand) (t t2 : TypeId)
    (ho : o.op = .call { callee := .builtin .append, args := #[s, x], argTypes := #[t, t2] }) (v u v' : Value) (hs : a.eval s = v) (hx : a.eval x = u)
    (hr : (Builtin.append_ #[t, t2] o.type #[v, u]).run P w = .ok v' w') (h : K (a.put o.dst v') w') : o.wp P a w K Q := by
  unfold Oper.wp execOp
  simp only [ho, resolve, invoke, builtin, Sem.run_bind, Sem.run_pure, Result.andThen_ok, List.map_toArray, List.map_cons, List.map_nil, hs, hx, hr]
  exact h
theorem back_own {w : World} {B : Nat} {v : Value} {l : List UInt8} (h : w.ownsRow B 5 1 v l.length (u8c l)) (hn : v ≠ .slice none 0 0) :
    ∃ g cap, v = .slice (some ⟨g, 0, none⟩) l.length cap ∧ (convert 39 9 (.slice (some ⟨g, 0, none⟩) l.length cap)).run Tryz.prog w = .ok (.string ⟨l.toArray⟩) w := by
  rcases h.2 with ⟨hv, -⟩ | ⟨g, cap, cur, rfl, -⟩
  · exact absurd hv hn
  · refine ⟨g, cap, rfl, run_convert_bytes_back (P := Tryz.prog) w 39 9 5 ⟨g, 0, none⟩ cap l Tryz.underlying39 Tryz.underlying5 Tryz.underlying9 fun j hj => ?_⟩
    obtain ⟨b, off, e, hc⟩ := Rd.of_own h j (.int .u8 (l[j].toNat : Int)) (by unfold u8c; rw [List.getElem?_map, List.getElem?_eq_getElem hj]; rfl)
    injection e with e
    injection e with e1 e2
    subst e1 e2
    rw [Addr.add_lit]; exact hc
set_option maxRecDepth 100000 in
set_option maxHeartbeats 4000000 in
theorem reverse_any (s : ByteArray) (hs : s.size ≤ 1000) (w : World) :
    Calls Tryz.prog 30 #[.string s] w fun e w' => ∃ t : ByteArray, e = .returned (.string t) ∧ t.size ≤ 4000 ∧ Below w.heap.size w w' := by
  obtain ⟨i0, hi0, hy0, hy1, hy2⟩ := u8_parts
  go_enter Tryz.func30, Tryz.ntmps30
  go_wp2_with fail
  refine (list_any s (by omega) w).mono ?_
  rintro e w1 ⟨v, L, q, rfl, hch, hq, ho, hb1⟩
  have hLl : L.length ≤ 1000 := by
    have h1 := chain_len hch
    have h2 := chain_top hch (Nat.zero_le _)
    omega
  have HF := Lib.hid (chain_fits hch)
  obtain ⟨A, c, rfl, -, -⟩ := own_form ho
  have HU := Lib.hid ho
  obtain ⟨w2, hmk, ho2, hg2⟩ := run_make_own (P := Tryz.prog) w1 w1.heap.size 39 5 i0 _ 1 Tryz.underlying39 hi0 hy0 hy1 .i64 .i64 s.size (by rw [hy2]; omega) (by unfold maxLen; omega) (Nat.le_refl _)
  have hb2 : Below w1.heap.size w1 w2 := below_grown hg2
  have HO2 : Hid (w2.ownsRow w1.heap.size 5 1 (.slice (some ⟨w1.heap.size, 0, none⟩) 0 s.size) ([] : List UInt8).length (u8c [])) := ho2
  obtain ⟨B, hB⟩ : ∃ B, B = w1.heap.size := ⟨_, rfl⟩
  rw [← hB] at hb2 HO2 hmk
  have HB := Lib.hid hB
  clear hch ho hg2 ho2 hq hB
  go_wp2_with fail
  go_loopg [4, 5] (L.length + 1) (fun q v4 v5 wr => ∃ (k : Nat) (x : Int) (l : List UInt8), q = k + 1 ∧ k ≤ L.length ∧ v5 = .int .i64 x ∧ x + 1 = (k : Int) ∧ l.length + 4 * k ≤ 4 * L.length ∧ Hid (v4 ≠ .slice none 0 0) ∧ Hid (wr.ownsRow B 5 1 v4 l.length (u8c l)) ∧ Below B w1 wr)
  case atStart => exact ⟨L.length, _, [], rfl, Nat.le_refl _, rfl, by omega, by simp, (show (Value.slice (some ⟨B, 0, none⟩) 0 s.size ≠ .slice none 0 0) from by simp), HO2, hb2⟩
  case round =>
    obtain ⟨k, x, l, rfl, hk, rfl, hx, hl, HN, HO, hb⟩ := hrel
    clear HO2 hb2 hmk
    cases k with
    | zero =>
      obtain rfl : x = -1 := by omega
      obtain ⟨g, cap, rfl, hcv⟩ := back_own HO.out HN.out
      have hb9 : Below w.heap.size w wr := by rw [HB.out] at hb; exact hb1.trans (hb.mono hb1.size)
      go_wp2
      go_ret
      exact ⟨_, rfl, by show l.toArray.size ≤ 4000; simp; omega, hb9⟩
    | succ j =>
      obtain rfl : x = (j : Int) := by omega
      have hj : j < L.length := hk
      obtain ⟨hf1, hf2⟩ := HF.out L[j] (List.getElem_mem hj)
      have hLj : L[j]? = some L[j] := List.getElem?_eq_getElem hj
      have HUr := ownsRow_b HU.out (HB.out ▸ hb)
      obtain ⟨g, cap, hAe, -, -⟩ := HUr.form (by omega)
      injection hAe with hA1 hA2 hA3
      subst hA1 hA3
      obtain ⟨b1, off1, e1, c1⟩ := Rd.of_own HUr (j * 3 + 1) _ (unc_get hLj (j := 1) rfl)
      obtain ⟨b2, off2, e2, c2⟩ := Rd.of_own HUr (j * 3 + 2) _ (unc_get hLj (j := 2) rfl)
      injection e1 with e1
      injection e1 with e1a e1b
      subst e1a e1b
      injection e2 with e2
      injection e2 with e2a e2b
      subst e2a e2b
      generalize L[j] = u at *
      obtain ⟨r, a, n⟩ := u
      simp only at hf1 hf2 c1 c2
      rw [Nat.zero_add] at c1 c2
      clear HUr hLj
      go_upto_region 6 with (fail)
      obtain ⟨m, hm⟩ : ∃ m, m = a + n := ⟨_, rfl⟩
      have zs : (a : Int) + (n : Int) = (m : Int) := by omega
      have hm1 : a ≤ m := by omega
      have hm2 : m ≤ s.size := by omega
      have hxz : (s.extract a m).size ≤ 4 := by rw [ByteArray.size_extract]; omega
      have zw : IntKind.i64.wrap (m : Int) = (m : Int) := IntWalk.i64_in _ (by omega)
      clear hm hf1
      have hB9 : B ≤ wr.heap.size := Nat.le_trans (by rw [HB.out]; exact Nat.le_refl _) hb.size
      refine wp_reg_st [some 18, some 19, some 20, some 21, some 22, some 23, some 24, some 25, some 26, some 27, some 28, some 29, some 30, some 31, some 32, some 33, some 34, some 35, some 36, some 37, some 4] [isV ?v1_0, isV ?v1_1, isV ?v1_2, isV ?v1_3, isV ?v1_4, isV ?v1_5, isV ?v1_6, isV ?v1_7, isV ?v1_8, isV ?v1_9, isV ?v1_10, isV ?v1_11, isV ?v1_12, isV ?v1_13, isV ?v1_14, isV ?v1_15, isV ?v1_16, isV ?v1_17, isV (.string (s.extract a m)), fun _ _ => False, fun _ _ => False] [anyV, anyV, anyV, anyV, anyV, anyV, anyV, anyV, anyV, anyV, anyV, anyV, anyV, anyV, anyV, anyV, anyV, anyV, anyV, (fun (v : Value) (w' : World) => ∃ l' : List UInt8, l'.length ≤ l.length + 4 ∧ v ≠ .slice none 0 0 ∧ w'.ownsRow B 5 1 v l'.length (u8c l')), (fun (v : Value) (w' : World) => ∃ l' : List UInt8, l'.length ≤ l.length + 4 ∧ v ≠ .slice none 0 0 ∧ w'.ownsRow B 5 1 v l'.length (u8c l'))] 19 [0, 1, 2, 3, 4, 5, 6, 7, 8, 9, 10, 11, 12, 13, 14, 15, 16, 17, 18] (fun _ => fun w' => Below B w1 w') rfl (by kernel_rfl) rfl rfl (by decide) (by kernel_rfl) (by kernel_rfl) (fun _ _ _ _ h => h) ?k1 ?m1 ⟨?s1_0, ?s1_1, ?s1_2, ?s1_3, ?s1_4, ?s1_5, ?s1_6, ?s1_7, ?s1_8, ?s1_9, ?s1_10, ?s1_11, ?s1_12, ?s1_13, ?s1_14, ?s1_15, ?s1_16, ?s1_17, ?s1_18, ?s1_19, ?s1_20, trivial⟩ ?p1
      case s1_0 =>
        rw [if_neg (by decide)]
        constructor
        · rw [if_neg (by decide)]
          intro t9 w9 hT9 hV9 hO9 K9 hK9
          have o9_4 := hO9 4 _ (.inr ⟨20, _, rfl, rfl, rfl⟩) rfl
          clear hV9 hO9
          go_simp
          (refine hK9 _ _ (Grow.refl _) ?_; exact rfl)
        · rw [if_pos (by decide)]; trivial
      case s1_1 =>
        rw [if_neg (by decide)]
        constructor
        · rw [if_neg (by decide)]
          intro t9 w9 hT9 hV9 hO9 K9 hK9
          have o9_0 := hO9 0 _ (.inl (show List.contains _ _ = false from by kernel_rfl)) rfl
          clear hV9 hO9
          go_simp
          (refine hK9 _ _ (Grow.refl _) ?_; exact rfl)
        · rw [if_pos (by decide)]; trivial
      case s1_2 =>
        rw [if_neg (by decide)]
        constructor
        · rw [if_neg (by decide)]
          intro t9 w9 hT9 hV9 hO9 K9 hK9
          have o9_3 := hO9 3 _ (.inl (show List.contains _ _ = false from by kernel_rfl)) rfl
          clear hV9 hO9
          go_simp
          (refine hK9 _ _ (Grow.refl _) ?_; exact rfl)
        · rw [if_pos (by decide)]; trivial
      case s1_3 =>
        rw [if_neg (by decide)]
        constructor
        · rw [if_neg (by decide)]
          intro t9 w9 hT9 hV9 hO9 K9 hK9
          have o9_5 := hO9 5 _ (.inl (show List.contains _ _ = false from by kernel_rfl)) rfl
          clear hV9 hO9
          go_simp
          (refine hK9 _ _ (Grow.refl _) ?_; exact rfl)
        · rw [if_pos (by decide)]; trivial
      case s1_4 =>
        rw [if_neg (by decide)]
        constructor
        · rw [if_neg (by decide)]
          intro t9 w9 hT9 hV9 hO9 K9 hK9
          obtain ⟨x9_2, p9_2, q9_2⟩ := hV9 2 20 rfl rfl (of_decide_eq_true (by kernel_rfl))
          obtain rfl : x9_2 = ?v1_2 := q9_2
          obtain ⟨x9_3, p9_3, q9_3⟩ := hV9 3 21 rfl rfl (of_decide_eq_true (by kernel_rfl))
          obtain rfl : x9_3 = ?v1_3 := q9_3
          clear hV9 hO9
          go_simp
          (refine hK9 _ _ (Grow.refl _) ?_; exact rfl)
        · rw [if_pos (by decide)]; trivial
      case s1_5 =>
        rw [if_neg (by decide)]
        constructor
        · rw [if_neg (by decide)]
          intro t9 w9 hT9 hV9 hO9 K9 hK9
          obtain ⟨x9_4, p9_4, q9_4⟩ := hV9 4 22 rfl rfl (of_decide_eq_true (by kernel_rfl))
          obtain rfl : x9_4 = ?v1_4 := q9_4
          clear hV9 hO9
          go_simp
          (refine hK9 _ _ (Grow.refl _) ?_; exact rfl)
        · rw [if_pos (by decide)]; trivial
      case s1_6 =>
        rw [if_neg (by decide)]
        constructor
        · rw [if_neg (by decide)]
          intro t9 w9 hT9 hV9 hO9 K9 hK9
          obtain ⟨x9_5, p9_5, q9_5⟩ := hV9 5 23 rfl rfl (of_decide_eq_true (by kernel_rfl))
          obtain rfl : x9_5 = ?v1_5 := q9_5
          clear hV9 hO9
          have d9_0 := grow_cell hT9 c1
          have d9_1 := grow_cell hT9 c2
          go_simp
          (refine hK9 _ _ (Grow.refl _) ?_; exact rfl)
        · rw [if_pos (by decide)]; trivial
      case s1_7 =>
        rw [if_neg (by decide)]
        constructor
        · rw [if_neg (by decide)]
          intro t9 w9 hT9 hV9 hO9 K9 hK9
          have o9_3 := hO9 3 _ (.inl (show List.contains _ _ = false from by kernel_rfl)) rfl
          clear hV9 hO9
          go_simp
          (refine hK9 _ _ (Grow.refl _) ?_; exact rfl)
        · rw [if_pos (by decide)]; trivial
      case s1_8 =>
        rw [if_neg (by decide)]
        constructor
        · rw [if_neg (by decide)]
          intro t9 w9 hT9 hV9 hO9 K9 hK9
          have o9_5 := hO9 5 _ (.inl (show List.contains _ _ = false from by kernel_rfl)) rfl
          clear hV9 hO9
          go_simp
          (refine hK9 _ _ (Grow.refl _) ?_; exact rfl)
        · rw [if_pos (by decide)]; trivial
      case s1_9 =>
        rw [if_neg (by decide)]
        constructor
        · rw [if_neg (by decide)]
          intro t9 w9 hT9 hV9 hO9 K9 hK9
          obtain ⟨x9_7, p9_7, q9_7⟩ := hV9 7 25 rfl rfl (of_decide_eq_true (by kernel_rfl))
          obtain rfl : x9_7 = ?v1_7 := q9_7
          obtain ⟨x9_8, p9_8, q9_8⟩ := hV9 8 26 rfl rfl (of_decide_eq_true (by kernel_rfl))
          obtain rfl : x9_8 = ?v1_8 := q9_8
          clear hV9 hO9
          go_simp
          (refine hK9 _ _ (Grow.refl _) ?_; exact rfl)
        · rw [if_pos (by decide)]; trivial
      case s1_10 =>
        rw [if_neg (by decide)]
        constructor
        · rw [if_neg (by decide)]
          intro t9 w9 hT9 hV9 hO9 K9 hK9
          obtain ⟨x9_9, p9_9, q9_9⟩ := hV9 9 27 rfl rfl (of_decide_eq_true (by kernel_rfl))
          obtain rfl : x9_9 = ?v1_9 := q9_9
          clear hV9 hO9
          go_simp
          (refine hK9 _ _ (Grow.refl _) ?_; exact rfl)
        · rw [if_pos (by decide)]; trivial
      case s1_11 =>
        rw [if_neg (by decide)]
        constructor
        · rw [if_neg (by decide)]
          intro t9 w9 hT9 hV9 hO9 K9 hK9
          obtain ⟨x9_10, p9_10, q9_10⟩ := hV9 10 28 rfl rfl (of_decide_eq_true (by kernel_rfl))
          obtain rfl : x9_10 = ?v1_10 := q9_10
          clear hV9 hO9
          have d9_0 := grow_cell hT9 c1
          have d9_1 := grow_cell hT9 c2
          go_simp
          (refine hK9 _ _ (Grow.refl _) ?_; exact rfl)
        · rw [if_pos (by decide)]; trivial
      case s1_12 =>
        rw [if_neg (by decide)]
        constructor
        · rw [if_neg (by decide)]
          intro t9 w9 hT9 hV9 hO9 K9 hK9
          have o9_3 := hO9 3 _ (.inl (show List.contains _ _ = false from by kernel_rfl)) rfl
          clear hV9 hO9
          go_simp
          (refine hK9 _ _ (Grow.refl _) ?_; exact rfl)
        · rw [if_pos (by decide)]; trivial
      case s1_13 =>
        rw [if_neg (by decide)]
        constructor
        · rw [if_neg (by decide)]
          intro t9 w9 hT9 hV9 hO9 K9 hK9
          have o9_5 := hO9 5 _ (.inl (show List.contains _ _ = false from by kernel_rfl)) rfl
          clear hV9 hO9
          go_simp
          (refine hK9 _ _ (Grow.refl _) ?_; exact rfl)
        · rw [if_pos (by decide)]; trivial
      case s1_14 =>
        rw [if_neg (by decide)]
        constructor
        · rw [if_neg (by decide)]
          intro t9 w9 hT9 hV9 hO9 K9 hK9
          obtain ⟨x9_12, p9_12, q9_12⟩ := hV9 12 30 rfl rfl (of_decide_eq_true (by kernel_rfl))
          obtain rfl : x9_12 = ?v1_12 := q9_12
          obtain ⟨x9_13, p9_13, q9_13⟩ := hV9 13 31 rfl rfl (of_decide_eq_true (by kernel_rfl))
          obtain rfl : x9_13 = ?v1_13 := q9_13
          clear hV9 hO9
          go_simp
          (refine hK9 _ _ (Grow.refl _) ?_; exact rfl)
        · rw [if_pos (by decide)]; trivial
      case s1_15 =>
        rw [if_neg (by decide)]
        constructor
        · rw [if_neg (by decide)]
          intro t9 w9 hT9 hV9 hO9 K9 hK9
          obtain ⟨x9_14, p9_14, q9_14⟩ := hV9 14 32 rfl rfl (of_decide_eq_true (by kernel_rfl))
          obtain rfl : x9_14 = ?v1_14 := q9_14
          clear hV9 hO9
          go_simp
          (refine hK9 _ _ (Grow.refl _) ?_; exact rfl)
        · rw [if_pos (by decide)]; trivial
      case s1_16 =>
        rw [if_neg (by decide)]
        constructor
        · rw [if_neg (by decide)]
          intro t9 w9 hT9 hV9 hO9 K9 hK9
          obtain ⟨x9_15, p9_15, q9_15⟩ := hV9 15 33 rfl rfl (of_decide_eq_true (by kernel_rfl))
          obtain rfl : x9_15 = ?v1_15 := q9_15
          clear hV9 hO9
          have d9_0 := grow_cell hT9 c1
          have d9_1 := grow_cell hT9 c2
          go_simp
          (refine hK9 _ _ (Grow.refl _) ?_; exact rfl)
        · rw [if_pos (by decide)]; trivial
      case s1_17 =>
        rw [if_neg (by decide)]
        constructor
        · rw [if_neg (by decide)]
          intro t9 w9 hT9 hV9 hO9 K9 hK9
          obtain ⟨x9_11, p9_11, q9_11⟩ := hV9 11 29 rfl rfl (of_decide_eq_true (by kernel_rfl))
          obtain rfl : x9_11 = ?v1_11 := q9_11
          obtain ⟨x9_16, p9_16, q9_16⟩ := hV9 16 34 rfl rfl (of_decide_eq_true (by kernel_rfl))
          obtain rfl : x9_16 = ?v1_16 := q9_16
          clear hV9 hO9
          go_simp
          (refine hK9 _ _ (Grow.refl _) ?_; exact rfl)
        · rw [if_pos (by decide)]; trivial
      case s1_18 =>
        rw [if_neg (by decide)]
        constructor
        · rw [if_neg (by decide)]
          intro t9 w9 hT9 hV9 hO9 K9 hK9
          obtain ⟨x9_1, p9_1, q9_1⟩ := hV9 1 19 rfl rfl (of_decide_eq_true (by kernel_rfl))
          obtain rfl : x9_1 = ?v1_1 := q9_1
          obtain ⟨x9_6, p9_6, q9_6⟩ := hV9 6 24 rfl rfl (of_decide_eq_true (by kernel_rfl))
          obtain rfl : x9_6 = ?v1_6 := q9_6
          obtain ⟨x9_17, p9_17, q9_17⟩ := hV9 17 35 rfl rfl (of_decide_eq_true (by kernel_rfl))
          obtain rfl : x9_17 = ?v1_17 := q9_17
          clear hV9 hO9
          go_simp
          (refine hK9 _ _ (Grow.refl _) ?_; exact rfl)
        · rw [if_pos (by decide)]; trivial
      case s1_19 =>
        rw [if_pos (by decide)]
        intro t9 w9 hT9 hV9 hO9 K9 hK9
        obtain ⟨x9_0, p9_0, q9_0⟩ := hV9 0 18 (by decide) rfl (of_decide_eq_true (by kernel_rfl))
        obtain rfl : x9_0 = ?v1_0 := q9_0
        obtain ⟨x9_18, p9_18, q9_18⟩ := hV9 18 36 (by decide) rfl (of_decide_eq_true (by kernel_rfl))
        obtain rfl : x9_18 = (.string (s.extract a m)) := q9_18
        clear hV9 hO9
        have hrow := ownsRow_b HO.out hT9.below
        obtain ⟨v9, w9', hr9, ho9, hg9, hn9⟩ := Lib.run_append_own_string (P := Tryz.prog) w9 B 39 9 39 5 i0 Tryz.underlying39 Tryz.underlying9 hi0 hy0 hy1 hy2 _ l.length (u8c l) hrow (s.extract a m) (by unfold maxLen; omega) (by omega) (Nat.le_trans hB9 hT9.below.size)
        rw [if_pos (wanted_p rfl)]
        refine wp_app2 (.tmp 18) (.tmp 36) 39 9 rfl _ _ v9 (ev_tmp p9_0) (ev_tmp p9_18) hr9 (hK9 _ _ ?_ ⟨l ++ (s.extract a m).data.toList, ?_, ?_, ?_⟩)
        · exact (hb.trans (hT9.below.mono hB9)).grown hg9 (Nat.le_trans hB9 hT9.below.size) (own_lt hrow)
        · rw [List.length_append, Array.length_toList]; show _ + (s.extract a m).size ≤ _; omega
        · intro e; exact HN.out (hn9.1 e).1
        · rw [u8c_app, ← str_u8c]
          have e9 : (l ++ (s.extract a m).data.toList).length = l.length + (s.extract a m).size := by rw [List.length_append, Array.length_toList]; rfl
          rw [e9]; exact ho9
      case s1_20 =>
        rw [if_neg (by decide)]
        constructor
        · rw [if_pos (by rfl)]; trivial
        · rw [if_neg (by decide)]
          intro t9 w9 hV9 hO9 K9 hK9
          obtain ⟨x9_19, p9_19, q9_19⟩ := hV9 19 37 rfl rfl (of_decide_eq_true (by kernel_rfl))
          have q9_19 := q9_19.late (by decide)
          replace q9_19 : ((fun (v : Value) (w' : World) => ∃ l' : List UInt8, l'.length ≤ l.length + 4 ∧ v ≠ .slice none 0 0 ∧ w'.ownsRow B 5 1 v l'.length (u8c l'))) x9_19 _ := q9_19
          clear hV9 hO9
          go_simp
          exact hK9 _ q9_19
      case k1 =>
        intro i9 v9 w9 x9 h9 g9
        match i9, h9 with
        | 0, h9 => exact h9
        | 1, h9 => exact h9
        | 2, h9 => exact h9
        | 3, h9 => exact h9
        | 4, h9 => exact h9
        | 5, h9 => exact h9
        | 6, h9 => exact h9
        | 7, h9 => exact h9
        | 8, h9 => exact h9
        | 9, h9 => exact h9
        | 10, h9 => exact h9
        | 11, h9 => exact h9
        | 12, h9 => exact h9
        | 13, h9 => exact h9
        | 14, h9 => exact h9
        | 15, h9 => exact h9
        | 16, h9 => exact h9
        | 17, h9 => exact h9
        | 18, h9 => exact h9
        | 19, h9 => exact h9
        | 20, h9 => exact h9
        | _ + 21, h9 => exact trivial
      case m1 =>
        intro i9 v9 w9 x9 ha9 hs9 h9
        match i9, ha9, hs9, h9 with
        | 0, ha9, hs9, h9 => exact absurd (by decide) ha9
        | 1, ha9, hs9, h9 => exact absurd (by decide) ha9
        | 2, ha9, hs9, h9 => exact absurd (by decide) ha9
        | 3, ha9, hs9, h9 => exact absurd (by decide) ha9
        | 4, ha9, hs9, h9 => exact absurd (by decide) ha9
        | 5, ha9, hs9, h9 => exact absurd (by decide) ha9
        | 6, ha9, hs9, h9 => exact absurd (by decide) ha9
        | 7, ha9, hs9, h9 => exact absurd (by decide) ha9
        | 8, ha9, hs9, h9 => exact absurd (by decide) ha9
        | 9, ha9, hs9, h9 => exact absurd (by decide) ha9
        | 10, ha9, hs9, h9 => exact absurd (by decide) ha9
        | 11, ha9, hs9, h9 => exact absurd (by decide) ha9
        | 12, ha9, hs9, h9 => exact absurd (by decide) ha9
        | 13, ha9, hs9, h9 => exact absurd (by decide) ha9
        | 14, ha9, hs9, h9 => exact absurd (by decide) ha9
        | 15, ha9, hs9, h9 => exact absurd (by decide) ha9
        | 16, ha9, hs9, h9 => exact absurd (by decide) ha9
        | 17, ha9, hs9, h9 => exact absurd (by decide) ha9
        | 18, ha9, hs9, h9 => exact absurd (by decide) ha9
        | 19, ha9, hs9, h9 => exact absurd rfl hs9
        | 20, ha9, hs9, h9 => exact False.elim h9
        | _ + 21, ha9, hs9, h9 => exact trivial
      intro u9 w9 hE9 hu9
      obtain ⟨_, r9_0⟩ := (hu9 0 (by decide)).pre (by decide)
      replace r9_0 : u9 0 = ?v1_0 := r9_0
      obtain ⟨_, r9_1⟩ := (hu9 1 (by decide)).pre (by decide)
      replace r9_1 : u9 1 = ?v1_1 := r9_1
      obtain ⟨_, r9_2⟩ := (hu9 2 (by decide)).pre (by decide)
      replace r9_2 : u9 2 = ?v1_2 := r9_2
      obtain ⟨_, r9_3⟩ := (hu9 3 (by decide)).pre (by decide)
      replace r9_3 : u9 3 = ?v1_3 := r9_3
      obtain ⟨_, r9_4⟩ := (hu9 4 (by decide)).pre (by decide)
      replace r9_4 : u9 4 = ?v1_4 := r9_4
      obtain ⟨_, r9_5⟩ := (hu9 5 (by decide)).pre (by decide)
      replace r9_5 : u9 5 = ?v1_5 := r9_5
      obtain ⟨_, r9_6⟩ := (hu9 6 (by decide)).pre (by decide)
      replace r9_6 : u9 6 = ?v1_6 := r9_6
      obtain ⟨_, r9_7⟩ := (hu9 7 (by decide)).pre (by decide)
      replace r9_7 : u9 7 = ?v1_7 := r9_7
      obtain ⟨_, r9_8⟩ := (hu9 8 (by decide)).pre (by decide)
      replace r9_8 : u9 8 = ?v1_8 := r9_8
      obtain ⟨_, r9_9⟩ := (hu9 9 (by decide)).pre (by decide)
      replace r9_9 : u9 9 = ?v1_9 := r9_9
      obtain ⟨_, r9_10⟩ := (hu9 10 (by decide)).pre (by decide)
      replace r9_10 : u9 10 = ?v1_10 := r9_10
      obtain ⟨_, r9_11⟩ := (hu9 11 (by decide)).pre (by decide)
      replace r9_11 : u9 11 = ?v1_11 := r9_11
      obtain ⟨_, r9_12⟩ := (hu9 12 (by decide)).pre (by decide)
      replace r9_12 : u9 12 = ?v1_12 := r9_12
      obtain ⟨_, r9_13⟩ := (hu9 13 (by decide)).pre (by decide)
      replace r9_13 : u9 13 = ?v1_13 := r9_13
      obtain ⟨_, r9_14⟩ := (hu9 14 (by decide)).pre (by decide)
      replace r9_14 : u9 14 = ?v1_14 := r9_14
      obtain ⟨_, r9_15⟩ := (hu9 15 (by decide)).pre (by decide)
      replace r9_15 : u9 15 = ?v1_15 := r9_15
      obtain ⟨_, r9_16⟩ := (hu9 16 (by decide)).pre (by decide)
      replace r9_16 : u9 16 = ?v1_16 := r9_16
      obtain ⟨_, r9_17⟩ := (hu9 17 (by decide)).pre (by decide)
      replace r9_17 : u9 17 = ?v1_17 := r9_17
      obtain ⟨_, r9_18⟩ := (hu9 18 (by decide)).pre (by decide)
      replace r9_18 : u9 18 = (.string (s.extract a m)) := r9_18
      have r9_19 : (fun (v : Value) (w' : World) => ∃ l' : List UInt8, l'.length ≤ l.length + 4 ∧ v ≠ .slice none 0 0 ∧ w'.ownsRow B 5 1 v l'.length (u8c l')) (u9 19) w9 := (hu9 19 (by decide)).late (by decide)
      have r9_20 : (fun (v : Value) (w' : World) => ∃ l' : List UInt8, l'.length ≤ l.length + 4 ∧ v ≠ .slice none 0 0 ∧ w'.ownsRow B 5 1 v l'.length (u8c l')) (u9 20) w9 := (hu9 20 (by decide)).late (by decide)
      clear hu9
      simp only [putAll, Act.put, List.setIfInBounds_toArray, List.set_cons_succ, List.set_cons_zero, List.getD_cons_succ, List.getD_cons_zero, Nat.reduceAdd, Nat.zero_add]
      simp only [r9_0, r9_1, r9_2, r9_3, r9_4, r9_5, r9_6, r9_7, r9_8, r9_9, r9_10, r9_11, r9_12, r9_13, r9_14, r9_15, r9_16, r9_17, r9_18]
      clear r9_0 r9_1 r9_2 r9_3 r9_4 r9_5 r9_6 r9_7 r9_8 r9_9 r9_10 r9_11 r9_12 r9_13 r9_14 r9_15 r9_16 r9_17 r9_18
      obtain ⟨l', hl', hn', ho'⟩ := r9_20
      have HO' := Lib.hid ho'
      have HN' := Lib.hid hn'
      generalize u9 20 = z20 at HO' HN' ⊢
      clear r9_19 ho' hn' HO HN c1 c2 hb
      go_wp2
      go_roundg (j + 1)
      case measure => omega
      case rel => exact ⟨j, _, l', rfl, by omega, rfl, by omega, by omega, HN', HO', hE9⟩
end Go.Proofs.YtfenjklilocjgaaGreatDoor
