/- Parts of the proof: Xt, Xy, Dg. No condition of its own. -/
import Derived.Test.YtfenjklilocjgaaGreatDoorXs
import Derived.Test.YtfenjklilocjgaaGreatDoorXu
import Derived.Test.YtfenjklilocjgaaGreatDoorXx
import Derived.WalkKit
set_option linter.unusedSimpArgs false
set_option linter.unusedVariables false
set_option linter.unusedSectionVars false
namespace Go.Proofs.YtfenjklilocjgaaGreatDoor
set_option linter.unusedSimpArgs false
set_option linter.unusedVariables false
set_option linter.unusedSectionVars false
open Go.RowKit

set_option maxRecDepth 100000 in
set_option maxHeartbeats 4000000 in
theorem column_any {S : Nat → Prop} {a t x r n h s : Value} {C : Cor} (w : World) (q : CorC S w a t x r n h s C) (k : Nat) (hk : ∀ row ∈ C.toks, k < row.length) (hN : C.toks.length ≤ 1000) :
    Calls Tryz.prog 5 #[.agg #[a, t, x, r, n, h, s], .int .i64 (k : Int)] w fun e w' => ∃ v, e = .returned v ∧ w'.ownsRow w.heap.size 9 1 v (wordsOf C k).length (strs (wordsOf C k)) ∧ Below w.heap.size w w' := by
  obtain ⟨At, ct, rfl, -, -, -⟩ := EO.form q.t
  obtain ⟨i0, hi0, hz0, hz1, hz2⟩ := str_parts
  obtain ⟨o_c, hbw⟩ := new1 w [a, .slice At C.toks.length ct, x, r, n, h, s] 30
  have HQ := Lib.hid q
  have HK := Lib.hid hk
  clear q hk
  go_enter Tryz.func5, Tryz.ntmps5
  go_upto_region 1 with (fail)
  generalize (w.alloc (.cells #[a, .slice At C.toks.length ct, x, r, n, h, s] 30)) = wb at o_c hbw ⊢
  obtain ⟨B, hB⟩ : ∃ B, B = w.heap.size := ⟨_, rfl⟩
  rw [← hB] at o_c hbw ⊢
  have HB := Lib.hid hB
  clear hB
  have c_1 : wb.cell? ⟨B, 1, none⟩ = some (.slice At C.toks.length ct) := o_c.cell 1
  go_wp2_with fail
  clear c_1 o_c
  go_loopg [5, 11] (C.toks.length + 1) (fun q v5 v11 wr => ∃ (i : Nat) (L : List ByteArray), q = C.toks.length + 1 - i ∧ i ≤ C.toks.length ∧ v11 = .int .i64 (i : Int) ∧ L.length = i ∧ Hid (L = (wordsOf C k).take i) ∧ Hid (wr.ownsRow B 9 1 v5 i (strs L)) ∧ Below B w wr)
  case atStart => exact ⟨0, [], rfl, Nat.zero_le _, rfl, rfl, rfl, World.ownsRow_nil _ _ _ _, hbw⟩
  case round =>
    clear hbw
    obtain ⟨i, L, rfl, hi, rfl, hLl, HL, HO, hb⟩ := hrel
    have hbw : Below w.heap.size w wr := by rw [← HB.out]; exact hb
    by_cases hlt : i < C.toks.length
    · have hji := HK.out _ (List.getElem_mem hlt)
      have HW : Hid ((wordsOf C k)[i]? = some C.toks[i][k]) := wordsOf_get hlt hji
      obtain ⟨b, off, v, rfl, -, k0, hv⟩ := RowsO.get (HQ.out.below hbw).t hlt
      obtain ⟨Av, cv, rfl, l2, u2, -⟩ := EO.form hv
      obtain ⟨b3, off3, rfl, -, k3, -⟩ := StrsO.get hv hji
      unfold maxLen at u2
      have hjl := hji
      generalize C.toks[i][k] = u at k3 HW
      generalize C.toks[i].length = rl at k0 hjl l2
      have HL2 : Hid (L ++ [u] = (wordsOf C k).take (i + 1)) := by
        show _ = _
        rw [List.take_add_one, HW.out, ← HL.out]; rfl
      have hBs : B ≤ wr.heap.size := by have := hb.size; rw [HB.out]; exact this
      have h63 : i + 1 ≤ maxLen := by unfold maxLen; omega
      clear hbw hv HL HW hji
      go_wp2_with (at_builtin; refine wpList_append_own_at _ rfl (.tmp 15) (.tmp 20) 28 rfl B 9 i0 _ 1 16 Tryz.underlying28 hi0 hz0 hz1 hz2 rfl (by decide) _ i (strs L) rfl (HO.out.alloc _) ⟨wr.heap.size, 0, none⟩ 1 1 [.string u] rfl rfl (cells_u8 _ _ _) (by simp [Value.oneCell']) h63 (by omega) (by rw [size1]; omega) ?_)
      intro v' w' hown' hgrow _ _
      have hb3 := (hb.alloc hBs (.cells #[.string u] 9)).grown hgrow (by rw [size1]; omega) (own_lt HO.out)
      have HO2 : Hid (w'.ownsRow B 9 1 v' (i + 1) (strs (L ++ [u]))) := by
        have e : strs (L ++ [u]) = strs L ++ [.string u] := by simp [strs]
        show World.ownsRow _ _ _ _ _ _ _
        rw [e]; exact hown'
      clear hgrow hown' HO k0 k3
      go_wp2_with fail
      go_roundg (C.toks.length + 1 - (i + 1))
      case measure => omega
      case rel => exact ⟨i + 1, L ++ [u], rfl, by omega, by go_num, by rw [List.length_append, List.length_singleton, hLl], HL2, HO2, hb3⟩
    · have e1 : L = wordsOf C k := by rw [HL.out, List.take_of_length_le (by rw [wordsOf_length]; omega)]
      have e2 : i = (wordsOf C k).length := by rw [wordsOf_length]; omega
      rw [e1, e2] at HO
      have HF := HO
      clear HO HL e1 e2 hLl
      go_wp2
      go_ret
      exact ⟨_, rfl, HB.out ▸ HF.out, hbw⟩
set_option maxRecDepth 100000 in
set_option maxHeartbeats 2000000 in
theorem sameInts_yes (A A2 : Option Addr) (l : List Nat) (c c2 : Nat) (hl : l.length ≤ 100000) (w : World) (h : Rd w A (ints l)) (h2 : Rd w A2 (ints l)) :
    Calls Tryz.prog 9 #[.slice A l.length c, .slice A2 l.length c2] w fun e w' => e = .returned (.bool true) ∧ Below w.heap.size w w' := by
  have H1 := Lib.hid h
  have H2 := Lib.hid h2
  clear h h2
  go_enter Tryz.func9, Tryz.ntmps9
  go_wp2_with fail
  go_loopg [13] (l.length + 1) (fun q v wr => ∃ (i : Nat), q = l.length + 1 - i ∧ i ≤ l.length ∧ v = .int .i64 (i : Int) ∧ Below w.heap.size w wr)
  case atStart => exact ⟨0, rfl, Nat.zero_le _, rfl, Below.refl _ _⟩
  case round =>
    obtain ⟨i, rfl, hi, rfl, hb⟩ := hrel
    by_cases hlt : i < l.length
    · obtain ⟨b, off, rfl, k0⟩ := (H1.out.below hb) i (.int .i64 (l[i] : Int)) (by unfold ints; rw [List.getElem?_map, List.getElem?_eq_getElem hlt]; rfl)
      obtain ⟨b2, off2, rfl, k1⟩ := (H2.out.below hb) i (.int .i64 (l[i] : Int)) (by unfold ints; rw [List.getElem?_map, List.getElem?_eq_getElem hlt]; rfl)
      generalize l[i] = u at k0 k1
      go_upto_region 6 with (fail)
      refine wp_reg_f [some 16, some 17, some 18, some 19, some 20, some 21, some 22, some 23, some 24] [?v1_0, ?v1_1, ?v1_2, ?v1_3, ?v1_4, ?v1_5, ?v1_6, ?v1_7, ?v1_8] [[], [], [0, 1], [2], [], [], [4, 5], [6], [3, 7]] [(0, _), (1, _), (5, _)] ⟨rfl, rfl, rfl, trivial⟩ rfl (by kernel_rfl) rfl rfl (by kernel_rfl) (by kernel_rfl) ⟨?s1_0, ?s1_1, ?s1_2, ?s1_3, ?s1_4, ?s1_5, ?s1_6, ?s1_7, ?s1_8, trivial⟩ ?p1
      all_goals try (intro t9 w9 hT9 K9 hK9; simp only [OV, FV, List.getD_cons_succ, List.getD_cons_zero, Option.getD_some]; intros)
      case s1_0 | s1_1 | s1_2 | s1_3 | s1_4 | s1_5 | s1_6 | s1_7 | s1_8 =>
        have d9_0 := grow_cell hT9 k0; have d9_1 := grow_cell hT9 k1
        go_simp
        exact hK9 _ (Grow.refl _)
      intro w9 hb9
      simp only [putL, Act.put, List.setIfInBounds_toArray, List.set_cons_succ, List.set_cons_zero]
      have hb3 := hb.trans (hb9.mono hb.size)
      clear k0 k1
      go_wp2
      go_roundg (l.length + 1 - (i + 1))
      case measure => omega
      case rel => exact ⟨i + 1, rfl, by omega, by go_num, hb3⟩
    · go_wp2
      go_ret
      exact ⟨rfl, hb⟩
/-- What is known of a corpus that is small. -/
structure TinyC (C : Cor) (m : Int) : Prop where
  toks : (C.toks.length : Int) ≤ m
  attrs : C.attrs.length ≤ 4
  val : ValidC C
set_option maxRecDepth 100000 in
set_option maxHeartbeats 4000000 in
theorem tiny_any {S : Nat → Prop} {a t x r n h s : Value} {C : Cor} (w : World) (q : CorC S w a t x r n h s C) (m : Int) :
    Calls Tryz.prog 4 #[.agg #[a, t, x, r, n, h, s], .int .i64 m] w fun e w' => RetBI (TinyC C m) e ∧ Below w.heap.size w w' := by
  obtain ⟨A0, c0, rfl, l0, u0, -⟩ := EO.form q.a
  obtain ⟨A1, c1, rfl, l1, u1, -⟩ := EO.form q.t
  obtain ⟨A2, c2, rfl, l2, u2, -⟩ := EO.form q.x
  obtain ⟨A3, c3, rfl, l3, u3, -⟩ := EO.form q.r
  obtain ⟨A4, c4, rfl, l4, u4, -⟩ := EO.form q.n
  clear l0 l1 l2 l3 l4 u0 u1 u2 u3 u4
  have HQ := Lib.hid q
  clear q
  obtain ⟨o_c, hbw⟩ := new1 w [.slice A0 C.attrs.length c0, .slice A1 C.toks.length c1, .slice A2 C.texts.length c2, .slice A3 C.regs.length c3, .slice A4 C.nodes.length c4, h, s] 30
  have HQ2 := Lib.hid (HQ.out.below hbw)
  go_enter Tryz.func4, Tryz.ntmps4
  go_upto_region 1 with (fail)
  generalize (w.alloc (.cells #[.slice A0 C.attrs.length c0, .slice A1 C.toks.length c1, .slice A2 C.texts.length c2, .slice A3 C.regs.length c3, .slice A4 C.nodes.length c4, h, s] 30)) = wb at o_c hbw HQ2 ⊢
  have hwb := hbw.size
  obtain ⟨B, hB⟩ : ∃ B, B = w.heap.size := ⟨_, rfl⟩
  rw [← hB] at o_c hbw hwb ⊢
  have HB := Lib.hid hB
  clear hB
  have c_0 : wb.cell? ⟨B, 0, none⟩ = some (.slice A0 C.attrs.length c0) := o_c.cell 0
  have c_1 : wb.cell? ⟨B, 1, none⟩ = some (.slice A1 C.toks.length c1) := o_c.cell 1
  have c_2 : wb.cell? ⟨B, 2, none⟩ = some (.slice A2 C.texts.length c2) := o_c.cell 2
  have c_3 : wb.cell? ⟨B, 3, none⟩ = some (.slice A3 C.regs.length c3) := o_c.cell 3
  have c_4 : wb.cell? ⟨B, 4, none⟩ = some (.slice A4 C.nodes.length c4) := o_c.cell 4
  have c_5 : wb.cell? ⟨B, 5, none⟩ = some (h) := o_c.cell 5
  have c_6 : wb.cell? ⟨B, 6, none⟩ = some (s) := o_c.cell 6
  by_cases h0 : m < (C.toks.length : Int)
  · have d0 : decide (m < (C.toks.length : Int)) = true := decide_eq_true h0
    go_wp2
    go_ret
    exact ⟨⟨false, rfl, (fun h => nomatch h)⟩, HB.out ▸ hbw⟩
  have d0 : decide (m < (C.toks.length : Int)) = false := decide_eq_false h0
  by_cases h1 : (5 : Int) < (C.texts.length : Int)
  · have d1 : decide ((5 : Int) < (C.texts.length : Int)) = true := decide_eq_true h1
    have d1n : decide (5 < C.texts.length) = true := decide_eq_true (by omega)
    go_wp2
    go_ret
    exact ⟨⟨false, rfl, (fun h => nomatch h)⟩, HB.out ▸ hbw⟩
  have d1 : decide ((5 : Int) < (C.texts.length : Int)) = false := decide_eq_false h1
  have d1n : decide (5 < C.texts.length) = false := decide_eq_false (by omega)
  by_cases h2 : (40 : Int) < (C.regs.length : Int)
  · have d2 : decide ((40 : Int) < (C.regs.length : Int)) = true := decide_eq_true h2
    have d2n : decide (40 < C.regs.length) = true := decide_eq_true (by omega)
    go_wp2
    go_ret
    exact ⟨⟨false, rfl, (fun h => nomatch h)⟩, HB.out ▸ hbw⟩
  have d2 : decide ((40 : Int) < (C.regs.length : Int)) = false := decide_eq_false h2
  have d2n : decide (40 < C.regs.length) = false := decide_eq_false (by omega)
  by_cases h3 : (40 : Int) < (C.nodes.length : Int)
  · have d3 : decide ((40 : Int) < (C.nodes.length : Int)) = true := decide_eq_true h3
    have d3n : decide (40 < C.nodes.length) = true := decide_eq_true (by omega)
    go_wp2
    go_ret
    exact ⟨⟨false, rfl, (fun h => nomatch h)⟩, HB.out ▸ hbw⟩
  have d3 : decide ((40 : Int) < (C.nodes.length : Int)) = false := decide_eq_false h3
  have d3n : decide (40 < C.nodes.length) = false := decide_eq_false (by omega)
  by_cases h4 : (4 : Int) < (C.attrs.length : Int)
  · have d4 : decide ((4 : Int) < (C.attrs.length : Int)) = true := decide_eq_true h4
    have d4n : decide (4 < C.attrs.length) = true := decide_eq_true (by omega)
    go_wp2
    go_ret
    exact ⟨⟨false, rfl, (fun h => nomatch h)⟩, HB.out ▸ hbw⟩
  have d4 : decide ((4 : Int) < (C.attrs.length : Int)) = false := decide_eq_false h4
  have d4n : decide (4 < C.attrs.length) = false := decide_eq_false (by omega)
  have HT : Hid ((C.toks.length : Int) ≤ m ∧ C.attrs.length ≤ 4) := ⟨by omega, by omega⟩
  go_wp2_with fail
  refine (weight6_any _ HQ2.out).mono ?_
  rintro e w2 ⟨⟨z, rfl⟩, hb2⟩
  have hbw2 := hbw.trans (hb2.mono hwb)
  have HQ3 := Lib.hid (HQ2.out.below hb2)
  have o_c2 := o_c.below hb2 o_c.lt
  clear c_0 c_1 c_2 c_3 c_4 c_5 c_6
  by_cases hz : 2500 < z
  · have dz : decide ((2500 : Int) < z) = true := decide_eq_true hz
    go_wp2
    go_ret
    exact ⟨⟨false, rfl, (fun h => nomatch h)⟩, HB.out ▸ hbw2⟩
  have dz : decide ((2500 : Int) < z) = false := decide_eq_false hz
  have c_0 : w2.cell? ⟨B, 0, none⟩ = some (.slice A0 C.attrs.length c0) := o_c2.cell 0
  have c_1 : w2.cell? ⟨B, 1, none⟩ = some (.slice A1 C.toks.length c1) := o_c2.cell 1
  have c_2 : w2.cell? ⟨B, 2, none⟩ = some (.slice A2 C.texts.length c2) := o_c2.cell 2
  have c_3 : w2.cell? ⟨B, 3, none⟩ = some (.slice A3 C.regs.length c3) := o_c2.cell 3
  have c_4 : w2.cell? ⟨B, 4, none⟩ = some (.slice A4 C.nodes.length c4) := o_c2.cell 4
  have c_5 : w2.cell? ⟨B, 5, none⟩ = some (h) := o_c2.cell 5
  have c_6 : w2.cell? ⟨B, 6, none⟩ = some (s) := o_c2.cell 6
  go_wp2_with fail
  refine (valid6_any _ HQ3.out).mono ?_
  rintro e w3 ⟨⟨b, rfl, hv⟩, hb3⟩
  have hbw3 := hbw2.trans (hb3.mono (Nat.le_trans hwb hb2.size))
  have HV := Lib.hid hv
  clear hv c_0 c_1 c_2 c_3 c_4 c_5 c_6
  go_wp2
  go_ret
  exact ⟨⟨b, rfl, fun hb => ⟨HT.out.1, HT.out.2, HV.out hb⟩⟩, HB.out ▸ hbw3⟩
set_option linter.unusedSimpArgs false
set_option linter.unusedVariables false
set_option linter.unusedSectionVars false
open Go.RowKit

theorem allE_of (D ws : List ByteArray) : allE (D.map fun s => (s, cn ws s)) = allOf D ws := by
  unfold allE allOf
  rw [List.flatMap_map]
theorem map_fst9 (D ws : List ByteArray) : (D.map fun s => (s, cn ws s)).map (·.1) = D := by rw [List.map_map]; exact List.map_id' D
theorem rd_own9 {w : World} {base n : Nat} {e : TypeId} {v : Value} {xs : List Value} (h : w.ownsRow base e 1 v n xs) : ∃ A c, v = .slice A n c ∧ n ≤ c ∧ c ≤ maxLen ∧ Rd w A xs := by
  obtain ⟨A, c, rfl, h1, h2⟩ := own_form h
  exact ⟨A, c, rfl, h1, h2, Rd.of_own h⟩
theorem str_one : ∀ (L : List ByteArray), ∀ u ∈ strs L, u.oneCell' = true := by
  intro L u hu
  obtain ⟨s, -, rfl⟩ := List.mem_map.1 hu
  rfl
theorem strs_len (L : List ByteArray) : (strs L).length = L.length := by unfold strs; rw [List.length_map]
set_option maxRecDepth 100000 in
set_option maxHeartbeats 4000000 in
theorem merge_any (px py : Nat) (Dx Dy u v : List ByteArray) (hx : Lex Dx u) (hy : Lex Dy v) (hu : u.length ≤ 100) (hv : v.length ≤ 100) (hsu : ∀ s ∈ u, s.size ≤ 120 ∧ VU s) (hsv : ∀ s ∈ v, s.size ≤ 120 ∧ VU s) (w : World) (h1 : LexIn w px (Dx.map fun s => (s, cn u s))) (h2 : LexIn w py (Dy.map fun s => (s, cn v s))) :
    Calls Tryz.prog 7 #[.pointer (some ⟨px, 0, none⟩), .pointer (some ⟨py, 0, none⟩)] w fun e w' => ∃ (p : Nat) (D : List ByteArray) (v1 v2 : Value), e = .returned (.tuple #[.pointer (some ⟨p, 0, none⟩), v1, v2, .int .i64 0]) ∧ Lex D (allOf Dx u ++ allOf Dy v) ∧ LexIn w' p (D.map fun s => (s, cn (allOf Dx u ++ allOf Dy v) s)) ∧
      w'.ownsRow w.heap.size 3 1 v1 Dx.length (ints (Dx.map (idx D))) ∧ w'.ownsRow w.heap.size 3 1 v2 Dy.length (ints (Dy.map (idx D))) ∧ Below w.heap.size w w' := by
  obtain ⟨is, his, hs0, hs1, hs2⟩ := str_parts
  have HX := Lib.hid h1
  have HY := Lib.hid h2
  have lx : (Dx.map fun s => (s, cn u s)).length ≤ 1000 := by rw [List.length_map]; have := hx.len; omega
  have ly : (Dy.map fun s => (s, cn v s)).length ≤ 1000 := by rw [List.length_map]; have := hy.len; omega
  have LX := Lib.hid hx
  have LY := Lib.hid hy
  have SU := Lib.hid hsu
  have SV := Lib.hid hsv
  clear h1 h2 hx hy hsu hsv
  obtain ⟨P, hP⟩ : ∃ P, P = allOf Dx u := ⟨_, rfl⟩
  obtain ⟨Q, hQ⟩ : ∃ Q, Q = allOf Dy v := ⟨_, rfl⟩
  have lP : P.length ≤ 100 := by rw [hP]; exact Nat.le_trans LX.out.all_len hu
  have lQ : Q.length ≤ 100 := by rw [hQ]; exact Nat.le_trans LY.out.all_len hv
  have a1 := all_any px (Dx.map fun s => (s, cn u s)) lx (by rw [allE_of, ← hP]; omega) w HX.out
  rw [allE_of, ← hP] at a1
  have A1 := Lib.hid a1
  rw [← hP, ← hQ]
  have HP := Lib.hid hP
  have HQ := Lib.hid hQ
  clear a1 hP hQ
  go_enter Tryz.func7, Tryz.ntmps7
  go_wp2_with fail
  refine A1.out.mono ?_
  rintro e w1 ⟨v1, rfl, ho1, hb1⟩
  have HO1 := Lib.hid ho1
  have HX1 := Lib.hid (HX.out.below hb1)
  have HY1 := Lib.hid (HY.out.below hb1)
  have a2 := all_any py (Dy.map fun s => (s, cn v s)) ly (by rw [allE_of, ← HQ.out]; omega) w1 HY1.out
  rw [allE_of, ← HQ.out] at a2
  have A2 := Lib.hid a2
  clear ho1 a2 A1
  go_wp2_with fail
  refine A2.out.mono ?_
  rintro e w2 ⟨v2, rfl, ho2, hb2⟩
  have HO2 := Lib.hid (ownsRow_b HO1.out hb2)
  have HX2 := Lib.hid (HX1.out.below hb2)
  have HY2 := Lib.hid (HY1.out.below hb2)
  have hbw2 := belowQ hb1 (Nat.le_refl _) hb2
  obtain ⟨Aq, cq, rfl, -, -, hrq⟩ := rd_own9 ho2
  obtain ⟨v3, w3, hap, ho3, hg3, -⟩ := run_append_src8 (P := Tryz.prog) w2 w.heap.size 28 28 9 is _ 1 16 Tryz.underlying28 his hs0 hs1 hs2 rfl (by decide) v1 P.length (strs P) HO2.out Aq Q.length cq (strs Q) (by rw [strs_len, Nat.mul_one]) hrq (str_one Q) (by unfold maxLen; omega) (by omega) hbw2.size
  have hb3 : Below w.heap.size w w3 := hbw2.grown hg3 hbw2.size (own_lt HO2.out)
  have e3 : strs P ++ strs Q = strs (P ++ Q) := by unfold strs; rw [List.map_append]
  rw [e3, ← List.length_append] at ho3
  have hx3 : LexIn w3 px (Dx.map fun s => (s, cn u s)) := HX.out.below hb3
  have hy3 : LexIn w3 py (Dy.map fun s => (s, cn v s)) := HY.out.below hb3
  obtain ⟨A3, c3, rfl, -, -, hr3⟩ := rd_own9 ho3
  have b3 := build_any A3 c3 (P ++ Q) (by rw [List.length_append]; omega) (fun s hs => by
    rcases List.mem_append.1 hs with h | h
    · rw [HP.out] at h; exact SU.out s ((LX.out.mem_all s).1 h)
    · rw [HQ.out] at h; exact SV.out s ((LY.out.mem_all s).1 h)) w3 hr3
  have HB3 := Lib.hid b3
  have HX3 := Lib.hid hx3
  have HY3 := Lib.hid hy3
  clear b3 hx3 hy3 hr3 ho3 hg3 hrq ho2 HO1 HX1 HY1 A2 HO2 HX2 HY2 HX HY hb1 hb2 e3
  rw [List.length_append] at hap HB3
  go_wp2_with (at_builtin; refine wpList_append_eq8 rfl (.tmp 13) (.tmp 15) 28 rfl _ _ _ rfl rfl hap ?_)
  clear hap
  go_wp2_with fail
  refine HB3.out.mono ?_
  rintro e w4 ⟨p, D, nv, rfl, hres⟩
  have hb4 : Below w.heap.size w w4 := hb3.trans (hres.below.mono hb3.size)
  have LD := Lib.hid hres.lex
  have HZ := Lib.hid hres.mem
  have HX4 := Lib.hid (HX3.out.below hres.below)
  have HY4 := Lib.hid (HY3.out.below hres.below)
  have hDl : D.length ≤ 1000 := by have := LD.out.len; rw [List.length_append] at this; omega
  have iX : Hid (∀ e ∈ Dx.map (fun s => (s, cn u s)), D[idx D e.1]? = some e.1) := fun e he => by
    obtain ⟨s, hs, rfl⟩ := List.mem_map.1 he
    exact (LD.out.at_ (List.mem_append_left _ (by rw [HP.out]; exact (LX.out.mem_all s).2 ((LX.out.mem s).1 hs)))).2
  have iY : Hid (∀ e ∈ Dy.map (fun s => (s, cn v s)), D[idx D e.1]? = some e.1) := fun e he => by
    obtain ⟨s, hs, rfl⟩ := List.mem_map.1 he
    exact (LD.out.at_ (List.mem_append_right _ (by rw [HQ.out]; exact (LY.out.mem_all s).2 ((LY.out.mem s).1 hs)))).2
  have HN : Hid (w4.ownsRow w3.heap.size 3 1 nv (P ++ Q).length (ints ((P ++ Q).map (idx D)))) := hres.num
  clear hres HB3 HX3 HY3 hb3
  go_wp2_with fail
  refine (numbersOf_any p px (D.map fun s => (s, cn (P ++ Q) s)) (Dx.map fun s => (s, cn u s)) D (map_fst9 _ _) LD.out.srt hDl lx iX.out w4 HZ.out HX4.out).mono ?_
  rintro e w5 ⟨n1, rfl, ho5, hb5⟩
  have HZ5 := Lib.hid (HZ.out.below hb5)
  have HY5 := Lib.hid (HY4.out.below hb5)
  have HO5 := Lib.hid (ho5.mono (base' := w.heap.size) hb4.size)
  have hbw5 : Below w.heap.size w w5 := hb4.trans (hb5.mono hb4.size)
  clear ho5 hb5 HZ HX4 HY4 iX HN
  go_wp2_with fail
  refine (numbersOf_any p py (D.map fun s => (s, cn (P ++ Q) s)) (Dy.map fun s => (s, cn v s)) D (map_fst9 _ _) LD.out.srt hDl ly iY.out w5 HZ5.out HY5.out).mono ?_
  rintro e w6 ⟨n2, rfl, ho6, hb6⟩
  have HZ6 := Lib.hid (HZ5.out.below hb6)
  have HO6 := Lib.hid (ho6.mono (base' := w.heap.size) hbw5.size)
  have HO5' := Lib.hid (ownsRow_b HO5.out hb6)
  have hbw6 : Below w.heap.size w w6 := hbw5.trans (hb6.mono hbw5.size)
  clear ho6 hb6 HZ5 HY5 HO5 iY
  have e1 : ∀ (L ws : List ByteArray), (L.map fun s => (s, cn ws s)).map (fun e => idx D e.1) = L.map (idx D) := fun L ws => by rw [List.map_map]; rfl
  rw [e1, List.length_map] at HO5' HO6
  clear e1
  go_wp2
  exact bodyPost_ret (v := .tuple #[.pointer (some ⟨p, 0, none⟩), n1, n2, .int .i64 0]) (by simp [results, Tryz.results7, go_sem]) rfl ⟨p, D, n1, n2, rfl, LD.out, HZ6.out, HO5'.out, HO6.out, hbw6⟩
set_option linter.unusedSimpArgs false
set_option linter.unusedVariables false
set_option linter.unusedSectionVars false
namespace Dg
set_option linter.unusedSimpArgs false
set_option linter.unusedVariables false
set_option linter.unusedSectionVars false
/-- The value of digits. -/
def val (b : Nat) : List Nat → Nat
  | [] => 0
  | x :: l => x + b * val b l
def Dig (b : Nat) (l : List Nat) : Prop := ∀ x ∈ l, x < b
/-- The digits without zeros at the end. -/
def cut (l : List Nat) : List Nat := match l with
  | [] => []
  | x :: r => match cut r with
    | [] => if x = 0 then [] else [x]
    | y :: s => x :: y :: s
/-- The digits of a number. -/
def dgF (b : Nat) : Nat → Nat → List Nat
  | 0, _ => []
  | f + 1, n => if n = 0 then [] else n % b :: dgF b f (n / b)
def dg (b n : Nat) : List Nat := dgF b n n
variable {b : Nat}
theorem dgF_eq (hb : 2 ≤ b) : ∀ (f g n : Nat), n ≤ f → n ≤ g → dgF b f n = dgF b g n := by
  intro f
  induction f with
  | zero => intro g n h _; have : n = 0 := by omega
            subst this; cases g <;> rfl
  | succ f ih =>
    intro g n h1 h2
    cases g with
    | zero => have : n = 0 := by omega
              subst this; rfl
    | succ g =>
      show (if n = 0 then [] else n % b :: dgF b f (n / b)) = (if n = 0 then [] else n % b :: dgF b g (n / b))
      by_cases hn : n = 0
      · simp [hn]
      · rw [if_neg hn, if_neg hn]
        have : n / b < n := Nat.div_lt_self (by omega) (by omega)
        rw [ih g (n / b) (by omega) (by omega)]
theorem dg_zero (b : Nat) : dg b 0 = [] := rfl
theorem dg_pos (hb : 2 ≤ b) {n : Nat} (hn : 0 < n) : dg b n = n % b :: dg b (n / b) := by
  unfold dg
  cases n with
  | zero => omega
  | succ m =>
    have h1 : (m + 1) / b < m + 1 := Nat.div_lt_self (by omega) (by omega)
    show (if m + 1 = 0 then [] else (m + 1) % b :: dgF b m ((m + 1) / b)) = _
    rw [if_neg (by omega), dgF_eq hb m ((m + 1) / b) _ (by omega) (Nat.le_refl _)]
theorem val_dg (hb : 2 ≤ b) (n : Nat) : val b (dg b n) = n := by
  induction n using Nat.strongRecOn with
  | _ n ih =>
    rcases Nat.eq_zero_or_pos n with h | h
    · subst h; rfl
    · rw [dg_pos hb h]
      show n % b + b * val b (dg b (n / b)) = n
      rw [ih _ (Nat.div_lt_self h (by omega))]
      exact Nat.mod_add_div n b
theorem dig_dg (hb : 2 ≤ b) (n : Nat) : Dig b (dg b n) := by
  induction n using Nat.strongRecOn with
  | _ n ih =>
    rcases Nat.eq_zero_or_pos n with h | h
    · subst h; intro x hx; cases hx
    · rw [dg_pos hb h]
      intro x hx
      rcases List.mem_cons.1 hx with e | e
      · rw [e]; exact Nat.mod_lt _ (by omega)
      · exact ih _ (Nat.div_lt_self h (by omega)) x e
theorem dg_nil (hb : 2 ≤ b) {n : Nat} : dg b n = [] ↔ n = 0 := by
  constructor
  · intro h
    rcases Nat.eq_zero_or_pos n with h0 | h0
    · exact h0
    · rw [dg_pos hb h0] at h; cases h
  · rintro rfl; rfl
theorem val_lt (hb : 0 < b) : ∀ {l : List Nat}, Dig b l → val b l < b ^ l.length := by
  intro l
  induction l with
  | nil => intro _; simp [val]
  | cons x r ih =>
    intro h
    have hx : x < b := h x (by simp)
    have := ih (fun y hy => h y (by simp [hy]))
    show x + b * val b r < b ^ (r.length + 1)
    rw [Nat.pow_succ, Nat.mul_comm (b ^ _) b]
    calc x + b * val b r < b + b * val b r := by omega
      _ = b * (val b r + 1) := by rw [Nat.mul_add]; omega
      _ ≤ b * b ^ r.length := Nat.mul_le_mul_left _ this
theorem dg_le (hb : 2 ≤ b) {n k : Nat} (h : n < b ^ k) : (dg b n).length ≤ k := by
  induction k generalizing n with
  | zero => have : n = 0 := by simpa using h
            subst this; simp [dg_zero]
  | succ k ih =>
    rcases Nat.eq_zero_or_pos n with h0 | h0
    · subst h0; simp [dg_zero]
    · rw [dg_pos hb h0]
      have : n / b < b ^ k := by
        rw [Nat.div_lt_iff_lt_mul (by omega)]
        rw [Nat.pow_succ] at h; exact h
      have := ih this
      simp; omega
theorem dg_lt (hb : 2 ≤ b) (n : Nat) : n < b ^ (dg b n).length := by
  have := val_lt (by omega) (dig_dg hb n)
  rwa [val_dg hb] at this
end Dg
set_option linter.unusedSimpArgs false
set_option linter.unusedVariables false
set_option linter.unusedSectionVars false
namespace Dg
set_option linter.unusedSimpArgs false
set_option linter.unusedVariables false
set_option linter.unusedSectionVars false
section
variable {B p U V v1 v0 vl u2 u0 ul t r : Nat}
end
end Dg
set_option linter.unusedSimpArgs false
set_option linter.unusedVariables false
set_option linter.unusedSectionVars false
namespace Dg
set_option linter.unusedSimpArgs false
set_option linter.unusedVariables false
set_option linter.unusedSectionVars false
/-- The number that digits say, the most significant first. -/
def num (l : List Nat) : Nat := l.foldl (fun a d => 10 * a + d) 0
theorem b10 : 2 ≤ 10 := by decide
/-- The decimal digits, the most significant first. -/
def dec (n : Nat) : List Nat := if n = 0 then [0] else (dg 10 n).reverse
theorem dec_pos (n : Nat) : 0 < (dec n).length := by
  unfold dec
  split
  · decide
  · rename_i h
    rw [List.length_reverse]
    exact List.length_pos_iff.2 fun e => h ((dg_nil b10).1 e)
theorem dec_len_le {n k : Nat} (hk : 0 < k) (h : n < 10 ^ k) : (dec n).length ≤ k := by
  unfold dec
  split
  · exact hk
  · rw [List.length_reverse]; exact dg_le b10 h
theorem dec_lt (n : Nat) : n < 10 ^ (dec n).length := by
  unfold dec
  split
  · rename_i h; subst h; decide
  · rw [List.length_reverse]; exact dg_lt b10 n
/-- A longer text is a greater number. -/
theorem dec_lt_of_len {m n : Nat} (h : (dec m).length < (dec n).length) : m < n := by
  have h1 := dec_lt m
  rcases Nat.lt_or_ge m n with h2 | h2
  · exact h2
  · exfalso
    have := dec_len_le (n := n) (k := (dec m).length) (dec_pos m) (by omega)
    omega
end Dg
end Go.Proofs.YtfenjklilocjgaaGreatDoor
