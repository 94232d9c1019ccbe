/- Parts of the proof: Lmg. No condition of its own. -/
import Derived.Test.YtfenjklilocjgaaGreatDoorDg
import Derived.Test.YtfenjklilocjgaaGreatDoorAwk
set_option linter.unusedSimpArgs false
set_option linter.unusedVariables false
set_option linter.unusedSectionVars false
namespace Go.Proofs.YtfenjklilocjgaaGreatDoor
set_option linter.unusedSimpArgs false
set_option linter.unusedVariables false
set_option linter.unusedSectionVars false
open Go.RowKit

theorem tinyW {C : Cor} {m : Int} {k : Nat} (h : TinyC C m) (hk : k < C.attrs.length) : (∀ row ∈ C.toks, k < row.length) ∧ (∀ s ∈ wordsOf C k, s.size ≤ 120 ∧ VU s) := by
  have key : ∀ row ∈ C.toks, k < row.length ∧ ∀ z ∈ row, ValueOK z := fun row hr => by
    obtain ⟨i, hi, rfl⟩ := List.getElem_of_mem hr
    obtain ⟨h1, h2⟩ := h.val.toks.each i hi
    exact ⟨by omega, h2⟩
  refine ⟨fun row hr => (key row hr).1, fun s hs => ?_⟩
  obtain ⟨row, hr, rfl⟩ := List.mem_map.1 hs
  obtain ⟨h1, h2⟩ := key row hr
  rw [List.getElem?_eq_getElem h1, Option.getD_some]
  have := h2 _ (List.getElem_mem h1)
  exact ⟨this.few, this.utf⟩
theorem encB_pos (E : List (ByteArray × Nat)) : 0 < (encB E).length := by unfold encB b4; rw [List.length_append]; exact Nat.lt_of_lt_of_le (by decide : 0 < 4) (Nat.le_add_left _ _)
theorem row_pos {w : World} {base e n : Nat} {v : Value} {xs : List Value} (h : w.ownsRow base e 1 v n xs) (hn : 0 < n) : v ≠ .slice none 0 0 := by
  rintro rfl
  obtain ⟨A, c, hv, -, -⟩ := own_form h
  injection hv with _ h1 _
  omega
theorem ints_app (l : List Nat) (m : Nat) : ints (l ++ [m]) = ints l ++ [.int .i64 (m : Int)] := by simp [ints]
/-- What is merged has the words and counts of both lists. -/
theorem merged_eq {Dx Dy Dz Dw u v : List ByteArray} (hx : Lex Dx u) (hy : Lex Dy v) (hz : Lex Dz (u ++ v)) (hw : Lex Dw (allOf Dx u ++ allOf Dy v)) :
    (Dw.map fun s => (s, cn (allOf Dx u ++ allOf Dy v) s)) = (Dz.map fun s => (s, cn (u ++ v) s)) ∧ Dw = Dz := by
  obtain ⟨h1, h2⟩ := Lex.merge hx hy hz hw
  subst h1
  exact ⟨List.map_congr_left fun s _ => by rw [h2 s], rfl⟩
theorem sizes9 {D ws : List ByteArray} (h : Lex D ws) (hl : ws.length ≤ 1000) (hs : ∀ s ∈ ws, s.size ≤ 120 ∧ VU s) : ∀ e ∈ D.map (fun s => (s, cn ws s)), e.1.size ≤ 1000 ∧ 1 ≤ e.2 ∧ e.2 ≤ 1000000 := fun e he => by
  obtain ⟨s, hm, rfl⟩ := List.mem_map.1 he
  have h1 := (h.mem s).1 hm
  have h2 := (hs s h1).1
  have h3 := cn_pos.2 h1
  have h4 := cn_le ws s
  exact ⟨by simp only; omega, h3, by simp only; omega⟩
set_option maxRecDepth 100000 in
set_option maxHeartbeats 16000000 in
theorem merges_any {SA SB : Nat → Prop} {a t x r n h s a2 t2 x2 r2 n2 h2 s2 : Value} {C D : Cor} (w : World) (qa : CorC SA w a t x r n h s C) (qb : CorC SB w a2 t2 x2 r2 n2 h2 s2 D) (hm : MLen w) :
    Calls Tryz.prog 3 #[.agg #[a, t, x, r, n, h, s], .agg #[a2, t2, x2, r2, n2, h2, s2]] w fun e w' => e = .returned (.bool true) ∧ Below w.heap.size w w' := by
  obtain ⟨A0, c0, rfl, -, -, -⟩ := EO.form qa.a
  obtain ⟨A1, c1, rfl, -, -, -⟩ := EO.form qa.t
  obtain ⟨B0, d0, rfl, -, -, -⟩ := EO.form qb.a
  obtain ⟨B1, d1, rfl, -, -, -⟩ := EO.form qb.t
  have MM := Lib.hid hm
  have QA := Lib.hid qa
  have QB := Lib.hid qb
  clear qa qb hm
  obtain ⟨is, his, hs0, hs1, hs2⟩ := str_parts
  obtain ⟨ii, hii, hj0, hj1, hj2⟩ := int_parts
  have hpn : ∀ (w : World) (p : Nat), (binOp .eql 33 (.pointer (some ⟨p, 0, none⟩)) (.pointer none)).run Tryz.prog w = .ok (.bool false) w := fun _ _ => by rfl
  obtain ⟨o_a, o_b, hbw⟩ := new2 w [.slice A0 C.attrs.length c0, .slice A1 C.toks.length c1, x, r, n, h, s] [.slice B0 D.attrs.length d0, .slice B1 D.toks.length d1, x2, r2, n2, h2, s2] 30 30
  have hsz := size2 w (.cells #[.slice A0 C.attrs.length c0, .slice A1 C.toks.length c1, x, r, n, h, s] 30) (.cells #[.slice B0 D.attrs.length d0, .slice B1 D.toks.length d1, x2, r2, n2, h2, s2] 30)
  go_enter Tryz.func3, Tryz.ntmps3
  go_upto_region 1 with (fail)
  generalize ((w.alloc (.cells #[.slice A0 C.attrs.length c0, .slice A1 C.toks.length c1, x, r, n, h, s] 30)).alloc (.cells #[.slice B0 D.attrs.length d0, .slice B1 D.toks.length d1, x2, r2, n2, h2, s2] 30)) = wb at o_a o_b hbw hsz ⊢
  obtain ⟨B, hB⟩ : ∃ B, B = w.heap.size := ⟨_, rfl⟩
  rw [← hB] at o_a o_b hsz hbw ⊢
  have HB := Lib.hid hB
  have HA := Lib.hid o_a
  have HBb := Lib.hid o_b
  have HZ := Lib.hid hsz
  have hwb : B + 2 ≤ wb.heap.size := by omega
  have hbww : Hid (Below w.heap.size w wb) := HB.out ▸ hbw
  clear hB hsz o_a o_b hbw
  have ca_0 : wb.cell? ⟨B, 0, none⟩ = some (.slice A0 C.attrs.length c0) := (HA.out).cell 0
  have ca_1 : wb.cell? ⟨B, 1, none⟩ = some (.slice A1 C.toks.length c1) := (HA.out).cell 1
  have ca_2 : wb.cell? ⟨B, 2, none⟩ = some (x) := (HA.out).cell 2
  have ca_3 : wb.cell? ⟨B, 3, none⟩ = some (r) := (HA.out).cell 3
  have ca_4 : wb.cell? ⟨B, 4, none⟩ = some (n) := (HA.out).cell 4
  have ca_5 : wb.cell? ⟨B, 5, none⟩ = some (h) := (HA.out).cell 5
  have ca_6 : wb.cell? ⟨B, 6, none⟩ = some (s) := (HA.out).cell 6
  have cb_0 : wb.cell? ⟨B + 1, 0, none⟩ = some (.slice B0 D.attrs.length d0) := (HBb.out).cell 0
  have cb_1 : wb.cell? ⟨B + 1, 1, none⟩ = some (.slice B1 D.toks.length d1) := (HBb.out).cell 1
  have cb_2 : wb.cell? ⟨B + 1, 2, none⟩ = some (x2) := (HBb.out).cell 2
  have cb_3 : wb.cell? ⟨B + 1, 3, none⟩ = some (r2) := (HBb.out).cell 3
  have cb_4 : wb.cell? ⟨B + 1, 4, none⟩ = some (n2) := (HBb.out).cell 4
  have cb_5 : wb.cell? ⟨B + 1, 5, none⟩ = some (h2) := (HBb.out).cell 5
  have cb_6 : wb.cell? ⟨B + 1, 6, none⟩ = some (s2) := (HBb.out).cell 6
  go_wp2_with fail
  refine (tiny_any _ (QA.out.below hbww.out) 60).mono ?_
  rintro e w1 ⟨⟨b1, rfl, hv1⟩, hb1⟩
  cases b1 with
  | false =>
    clear hv1
    go_wp2
    go_ret
    exact ⟨rfl, hbww.out.trans (hb1.mono (by have := hbww.out.size; omega))⟩
  | true =>
  have TA := Lib.hid (hv1 rfl)
  have hbw1 : Below w.heap.size w w1 := hbww.out.trans (hb1.mono hbww.out.size)
  have HA1 := Lib.hid (HA.out.below hb1 HA.out.lt)
  have HB1 := Lib.hid (HBb.out.below hb1 HBb.out.lt)
  clear hv1
  clear ca_0 ca_1 ca_2 ca_3 ca_4 ca_5 ca_6 cb_0 cb_1 cb_2 cb_3 cb_4 cb_5 cb_6
  have ca_0 : w1.cell? ⟨B, 0, none⟩ = some (.slice A0 C.attrs.length c0) := (HA1.out).cell 0
  have ca_1 : w1.cell? ⟨B, 1, none⟩ = some (.slice A1 C.toks.length c1) := (HA1.out).cell 1
  have ca_2 : w1.cell? ⟨B, 2, none⟩ = some (x) := (HA1.out).cell 2
  have ca_3 : w1.cell? ⟨B, 3, none⟩ = some (r) := (HA1.out).cell 3
  have ca_4 : w1.cell? ⟨B, 4, none⟩ = some (n) := (HA1.out).cell 4
  have ca_5 : w1.cell? ⟨B, 5, none⟩ = some (h) := (HA1.out).cell 5
  have ca_6 : w1.cell? ⟨B, 6, none⟩ = some (s) := (HA1.out).cell 6
  have cb_0 : w1.cell? ⟨B + 1, 0, none⟩ = some (.slice B0 D.attrs.length d0) := (HB1.out).cell 0
  have cb_1 : w1.cell? ⟨B + 1, 1, none⟩ = some (.slice B1 D.toks.length d1) := (HB1.out).cell 1
  have cb_2 : w1.cell? ⟨B + 1, 2, none⟩ = some (x2) := (HB1.out).cell 2
  have cb_3 : w1.cell? ⟨B + 1, 3, none⟩ = some (r2) := (HB1.out).cell 3
  have cb_4 : w1.cell? ⟨B + 1, 4, none⟩ = some (n2) := (HB1.out).cell 4
  have cb_5 : w1.cell? ⟨B + 1, 5, none⟩ = some (h2) := (HB1.out).cell 5
  have cb_6 : w1.cell? ⟨B + 1, 6, none⟩ = some (s2) := (HB1.out).cell 6
  go_wp2_with fail
  refine (tiny_any _ (QB.out.below hbw1) 60).mono ?_
  rintro e w2 ⟨⟨b2, rfl, hv2⟩, hb2⟩
  have hbw2 : Below w.heap.size w w2 := hbw1.trans (hb2.mono hbw1.size)
  cases b2 with
  | false =>
    clear hv2
    go_wp2
    go_ret
    exact ⟨rfl, hbw2⟩
  | true =>
  have TB := Lib.hid (hv2 rfl)
  have hbb2 : Below wb.heap.size wb w2 := hb1.trans (hb2.mono hb1.size)
  have HA2 := Lib.hid (HA1.out.below hb2 HA1.out.lt)
  have HB2 := Lib.hid (HB1.out.below hb2 HB1.out.lt)
  clear hv2 hb1 hb2 hbw1 HA1 HB1
  clear ca_0 ca_1 ca_2 ca_3 ca_4 ca_5 ca_6 cb_0 cb_1 cb_2 cb_3 cb_4 cb_5 cb_6
  have ca_0 : w2.cell? ⟨B, 0, none⟩ = some (.slice A0 C.attrs.length c0) := (HA2.out).cell 0
  have ca_1 : w2.cell? ⟨B, 1, none⟩ = some (.slice A1 C.toks.length c1) := (HA2.out).cell 1
  have ca_2 : w2.cell? ⟨B, 2, none⟩ = some (x) := (HA2.out).cell 2
  have ca_3 : w2.cell? ⟨B, 3, none⟩ = some (r) := (HA2.out).cell 3
  have ca_4 : w2.cell? ⟨B, 4, none⟩ = some (n) := (HA2.out).cell 4
  have ca_5 : w2.cell? ⟨B, 5, none⟩ = some (h) := (HA2.out).cell 5
  have ca_6 : w2.cell? ⟨B, 6, none⟩ = some (s) := (HA2.out).cell 6
  have cb_0 : w2.cell? ⟨B + 1, 0, none⟩ = some (.slice B0 D.attrs.length d0) := (HB2.out).cell 0
  have cb_1 : w2.cell? ⟨B + 1, 1, none⟩ = some (.slice B1 D.toks.length d1) := (HB2.out).cell 1
  have cb_2 : w2.cell? ⟨B + 1, 2, none⟩ = some (x2) := (HB2.out).cell 2
  have cb_3 : w2.cell? ⟨B + 1, 3, none⟩ = some (r2) := (HB2.out).cell 3
  have cb_4 : w2.cell? ⟨B + 1, 4, none⟩ = some (n2) := (HB2.out).cell 4
  have cb_5 : w2.cell? ⟨B + 1, 5, none⟩ = some (h2) := (HB2.out).cell 5
  have cb_6 : w2.cell? ⟨B + 1, 6, none⟩ = some (s2) := (HB2.out).cell 6
  by_cases hat : C.attrs.length = D.attrs.length
  · have e1 : ((C.attrs.length : Int) == (D.attrs.length : Int)) = true := beq_iff_eq.2 (by omega)
    have e2 : ((C.attrs.length : Int) != (D.attrs.length : Int)) = false := by rw [bne, e1]; rfl
    have HAT := Lib.hid hat
    clear hat
    go_wp2_with fail
    clear e1 e2 HA2 HB2 hbw2
    clear ca_0 ca_1 ca_2 ca_3 ca_4 ca_5 ca_6 cb_0 cb_1 cb_2 cb_3 cb_4 cb_5 cb_6
    have nat4 : C.attrs.length ≤ 4 := TA.out.attrs
    go_loopg [46] (C.attrs.length + 1) (fun q9 v9 wr => ∃ k : Nat, q9 = C.attrs.length + 1 - k ∧ k ≤ C.attrs.length ∧ v9 = .int .i64 (k : Int) ∧ Below wb.heap.size wb wr)
    case atStart => exact ⟨0, rfl, Nat.zero_le _, rfl, hbb2⟩
    case round =>
      clear hbb2
      obtain ⟨k, rfl, hk, rfl, hbr⟩ := hrel
      have hbwr : Below w.heap.size w wr := hbww.out.trans (hbr.mono hbww.out.size)
      by_cases hlt : k < C.attrs.length
      · obtain ⟨ra, wa⟩ := tinyW TA.out hlt
        obtain ⟨rb, wv⟩ := tinyW TB.out (show k < D.attrs.length by rw [← HAT.out]; exact hlt)
        have lu : (wordsOf C k).length ≤ 60 := by have := TA.out.toks; rw [wordsOf_length]; omega
        have lv : (wordsOf D k).length ≤ 60 := by have := TB.out.toks; rw [wordsOf_length]; omega
        have hca := fun (w9 : World) (hb9 : Below w.heap.size w w9) => column_any w9 (QA.out.below hb9) k ra (by have := TA.out.toks; omega)
        have hcb := fun (w9 : World) (hb9 : Below w.heap.size w w9) => column_any w9 (QB.out.below hb9) k rb (by have := TB.out.toks; omega)
        have HCA := Lib.hid hca
        have HCB := Lib.hid hcb
        have WA := Lib.hid wa
        have WV := Lib.hid wv
        clear ra rb hca hcb wa wv
        generalize wordsOf C k = U at lu HCA WA
        generalize wordsOf D k = V at lv HCB WV
        have HAr := Lib.hid (HA.out.below hbr HA.out.lt)
        have HBr := Lib.hid (HBb.out.below hbr HBb.out.lt)
        have HBW := Lib.hid hbwr
        have ca_0 : wr.cell? ⟨B, 0, none⟩ = some (.slice A0 C.attrs.length c0) := (HAr.out).cell 0
        have ca_1 : wr.cell? ⟨B, 1, none⟩ = some (.slice A1 C.toks.length c1) := (HAr.out).cell 1
        have ca_2 : wr.cell? ⟨B, 2, none⟩ = some (x) := (HAr.out).cell 2
        have ca_3 : wr.cell? ⟨B, 3, none⟩ = some (r) := (HAr.out).cell 3
        have ca_4 : wr.cell? ⟨B, 4, none⟩ = some (n) := (HAr.out).cell 4
        have ca_5 : wr.cell? ⟨B, 5, none⟩ = some (h) := (HAr.out).cell 5
        have ca_6 : wr.cell? ⟨B, 6, none⟩ = some (s) := (HAr.out).cell 6
        have cb_0 : wr.cell? ⟨B + 1, 0, none⟩ = some (.slice B0 D.attrs.length d0) := (HBr.out).cell 0
        have cb_1 : wr.cell? ⟨B + 1, 1, none⟩ = some (.slice B1 D.toks.length d1) := (HBr.out).cell 1
        have cb_2 : wr.cell? ⟨B + 1, 2, none⟩ = some (x2) := (HBr.out).cell 2
        have cb_3 : wr.cell? ⟨B + 1, 3, none⟩ = some (r2) := (HBr.out).cell 3
        have cb_4 : wr.cell? ⟨B + 1, 4, none⟩ = some (n2) := (HBr.out).cell 4
        have cb_5 : wr.cell? ⟨B + 1, 5, none⟩ = some (h2) := (HBr.out).cell 5
        have cb_6 : wr.cell? ⟨B + 1, 6, none⟩ = some (s2) := (HBr.out).cell 6
        have hbl : B ≤ wr.heap.size := by have := hbr.size; omega
        go_upto_region 6 with (fail)
        refine wp_reg_ra [some 49, some 50, some 51, some 52, some 53, some 54, some 6, some 7] [isV ?v1_0, isV ?v1_1, (fun v w' => World.ownsRow w' B 9 1 v U.length (strs U)), isV ?v1_3, isV ?v1_4, (fun v w' => World.ownsRow w' B 9 1 v V.length (strs V)), (fun v w' => World.ownsRow w' B 9 1 v U.length (strs U)), (fun v w' => World.ownsRow w' B 9 1 v V.length (strs V))] rfl (by kernel_rfl) rfl rfl ?k1 ⟨?s1_0, ?s1_1, ?s1_2, ?s1_3, ?s1_4, ?s1_5, ?s1_6, ?s1_7, trivial⟩ ?p1
        case s1_0 =>
          intro t9 w9 hT9 hV9 hO9 K9 hK9
          have o9_2 := hO9 2 _ (show List.contains _ _ = false from by kernel_rfl) rfl
          clear hV9 hO9
          have d9_0 := grow_cell hT9 ca_0
          have d9_1 := grow_cell hT9 ca_1
          have d9_2 := grow_cell hT9 ca_2
          have d9_3 := grow_cell hT9 ca_3
          have d9_4 := grow_cell hT9 ca_4
          have d9_5 := grow_cell hT9 ca_5
          have d9_6 := grow_cell hT9 ca_6
          have d9_7 := grow_cell hT9 cb_0
          have d9_8 := grow_cell hT9 cb_1
          have d9_9 := grow_cell hT9 cb_2
          have d9_10 := grow_cell hT9 cb_3
          have d9_11 := grow_cell hT9 cb_4
          have d9_12 := grow_cell hT9 cb_5
          have d9_13 := grow_cell hT9 cb_6
          go_simp
          (refine hK9 _ _ (Grow.refl _) ?_; exact rfl)
        case s1_1 =>
          intro t9 w9 hT9 hV9 hO9 K9 hK9
          have o9_5 := hO9 5 _ (show List.contains _ _ = false from by kernel_rfl) rfl
          clear hV9 hO9
          go_simp
          (refine hK9 _ _ (Grow.refl _) ?_; exact rfl)
        case s1_2 =>
          intro t9 w9 hT9 hV9 hO9 K9 hK9
          obtain ⟨x9_0, p9_0, q9_0⟩ := hV9 0 49 rfl rfl (of_decide_eq_true (by kernel_rfl))
          obtain rfl : x9_0 = ?v1_0 := q9_0
          obtain ⟨x9_1, p9_1, q9_1⟩ := hV9 1 50 rfl rfl (of_decide_eq_true (by kernel_rfl))
          obtain rfl : x9_1 = ?v1_1 := q9_1
          clear hV9 hO9
          go_simp
          refine (HCA.out w9 (HBW.out.trans (hT9.below.mono HBW.out.size))).mono ?_
          rintro e w8 ⟨v8, rfl, ho8, hb8⟩
          exact hK9 _ _ hb8 (ho8.mono (Nat.le_trans hbl hT9.below.size))
        case s1_3 =>
          intro t9 w9 hT9 hV9 hO9 K9 hK9
          have o9_3 := hO9 3 _ (show List.contains _ _ = false from by kernel_rfl) rfl
          clear hV9 hO9
          have d9_0 := grow_cell hT9 ca_0
          have d9_1 := grow_cell hT9 ca_1
          have d9_2 := grow_cell hT9 ca_2
          have d9_3 := grow_cell hT9 ca_3
          have d9_4 := grow_cell hT9 ca_4
          have d9_5 := grow_cell hT9 ca_5
          have d9_6 := grow_cell hT9 ca_6
          have d9_7 := grow_cell hT9 cb_0
          have d9_8 := grow_cell hT9 cb_1
          have d9_9 := grow_cell hT9 cb_2
          have d9_10 := grow_cell hT9 cb_3
          have d9_11 := grow_cell hT9 cb_4
          have d9_12 := grow_cell hT9 cb_5
          have d9_13 := grow_cell hT9 cb_6
          go_simp
          (refine hK9 _ _ (Grow.refl _) ?_; exact rfl)
        case s1_4 =>
          intro t9 w9 hT9 hV9 hO9 K9 hK9
          have o9_5 := hO9 5 _ (show List.contains _ _ = false from by kernel_rfl) rfl
          clear hV9 hO9
          go_simp
          (refine hK9 _ _ (Grow.refl _) ?_; exact rfl)
        case s1_5 =>
          intro t9 w9 hT9 hV9 hO9 K9 hK9
          obtain ⟨x9_3, p9_3, q9_3⟩ := hV9 3 52 rfl rfl (of_decide_eq_true (by kernel_rfl))
          obtain rfl : x9_3 = ?v1_3 := q9_3
          obtain ⟨x9_4, p9_4, q9_4⟩ := hV9 4 53 rfl rfl (of_decide_eq_true (by kernel_rfl))
          obtain rfl : x9_4 = ?v1_4 := q9_4
          clear hV9 hO9
          go_simp
          refine (HCB.out w9 (HBW.out.trans (hT9.below.mono HBW.out.size))).mono ?_
          rintro e w8 ⟨v8, rfl, ho8, hb8⟩
          exact hK9 _ _ hb8 (ho8.mono (Nat.le_trans hbl hT9.below.size))
        case s1_6 =>
          intro t9 w9 hT9 hV9 hO9 K9 hK9
          obtain ⟨x9_2, p9_2, q9_2⟩ := hV9 2 51 rfl rfl (of_decide_eq_true (by kernel_rfl))
          replace q9_2 : ((fun v w' => World.ownsRow w' B 9 1 v U.length (strs U))) x9_2 _ := q9_2
          clear hV9 hO9
          go_simp
          exact hK9 _ _ (Grow.refl _) q9_2
        case s1_7 =>
          intro t9 w9 hT9 hV9 hO9 K9 hK9
          obtain ⟨x9_5, p9_5, q9_5⟩ := hV9 5 54 rfl rfl (of_decide_eq_true (by kernel_rfl))
          replace q9_5 : ((fun v w' => World.ownsRow w' B 9 1 v V.length (strs V))) x9_5 _ := q9_5
          clear hV9 hO9
          go_simp
          exact hK9 _ _ (Grow.refl _) q9_5
        case k1 =>
          intro i9 v9 w9 x9 h9 g9
          match i9, h9 with
          | 0, h9 => exact h9
          | 1, h9 => exact h9
          | 2, h9 => (replace h9 : (fun v w' => World.ownsRow w' B 9 1 v U.length (strs U)) v9 w9 := h9); exact ownsRow_b h9 g9
          | 3, h9 => exact h9
          | 4, h9 => exact h9
          | 5, h9 => (replace h9 : (fun v w' => World.ownsRow w' B 9 1 v V.length (strs V)) v9 w9 := h9); exact ownsRow_b h9 g9
          | 6, h9 => (replace h9 : (fun v w' => World.ownsRow w' B 9 1 v U.length (strs U)) v9 w9 := h9); exact ownsRow_b h9 g9
          | 7, h9 => (replace h9 : (fun v w' => World.ownsRow w' B 9 1 v V.length (strs V)) v9 w9 := h9); exact ownsRow_b h9 g9
          | _ + 8, h9 => exact trivial
        intro u9 w9 hE9 hu9
        have r9_0 : u9 0 = ?v1_0 := hu9 0 (by decide)
        have r9_1 : u9 1 = ?v1_1 := hu9 1 (by decide)
        have r9_2 : (fun v w' => World.ownsRow w' B 9 1 v U.length (strs U)) (u9 2) w9 := hu9 2 (by decide)
        have r9_3 : u9 3 = ?v1_3 := hu9 3 (by decide)
        have r9_4 : u9 4 = ?v1_4 := hu9 4 (by decide)
        have r9_5 : (fun v w' => World.ownsRow w' B 9 1 v V.length (strs V)) (u9 5) w9 := hu9 5 (by decide)
        have r9_6 : (fun v w' => World.ownsRow w' B 9 1 v U.length (strs U)) (u9 6) w9 := hu9 6 (by decide)
        have r9_7 : (fun v w' => World.ownsRow w' B 9 1 v V.length (strs V)) (u9 7) w9 := hu9 7 (by decide)
        clear hu9
        simp only [putAll, Act.put, List.setIfInBounds_toArray, List.set_cons_succ, List.set_cons_zero, List.getD_cons_succ, List.getD_cons_zero, Nat.reduceAdd, Nat.zero_add]
        simp only [r9_0, r9_1, r9_3, r9_4]
        clear r9_0 r9_1 r9_3 r9_4
        clear r9_2 r9_5 HCA HCB HAr HBr
        clear ca_0 ca_1 ca_2 ca_3 ca_4 ca_5 ca_6 cb_0 cb_1 cb_2 cb_3 cb_4 cb_5 cb_6
        generalize u9 6 = z6 at r9_6 ⊢
        generalize u9 7 = z7 at r9_7 ⊢
        obtain ⟨Au, cu, rfl, -, -, hru⟩ := rd_own9 r9_6
        obtain ⟨Av, cv, rfl, -, -, hrv⟩ := rd_own9 r9_7
        have hbb9 : Below wb.heap.size wb w9 := hbr.trans (hE9.mono hbr.size)
        have RU := Lib.hid hru
        have RV := Lib.hid hrv
        clear r9_6 r9_7 hru hrv hE9 hbwr hbr HBW hbl
        have BU := Lib.hid (build_any Au cu U (by omega) WA.out w9 RU.out)
        go_wp2_with fail
        refine BU.out.mono ?_
        rintro e w10 ⟨px, Dx, nx, rfl, rx⟩
        have hbb10 := hbb9.trans (rx.below.mono hbb9.size)
        obtain ⟨An, cn1, rfl, -, -, hrn⟩ := rd_own9 rx.num
        have LX := Lib.hid rx.lex
        have IX := Lib.hid rx.mem
        have NX := Lib.hid hrn
        have RU10 := Lib.hid (RU.out.below rx.below)
        have RV10 := Lib.hid (RV.out.below rx.below)
        clear rx hrn BU RU RV hbb9
        have BV := Lib.hid (build_any Av cv V (by omega) WV.out w10 RV10.out)
        go_wp2_with fail
        refine BV.out.mono ?_
        rintro e w11 ⟨py, Dy, ny, rfl, ry⟩
        have hbb11 := hbb10.trans (ry.below.mono hbb10.size)
        obtain ⟨Am, cm1, rfl, -, -, hrm⟩ := rd_own9 ry.num
        have LY := Lib.hid ry.lex
        have IY := Lib.hid ry.mem
        have NY := Lib.hid hrm
        have IX11 := Lib.hid (IX.out.below ry.below)
        have NX11 := Lib.hid (NX.out.below ry.below)
        have RU11 := Lib.hid (RU10.out.below ry.below)
        have RV11 := Lib.hid (RV10.out.below ry.below)
        clear ry hrm BV RU10 RV10 IX NX hbb10
        obtain ⟨v1, w12, hap1, ho1, hg1, -⟩ := run_append_src8 (P := Tryz.prog) w11 w11.heap.size 28 28 9 is _ 1 16 Tryz.underlying28 his hs0 hs1 hs2 rfl (by decide) (.slice none 0 0) 0 [] (World.ownsRow_nil _ _ _ _) Au U.length cu (strs U) (by rw [strs_len, Nat.mul_one]) RU11.out (str_one U) (by unfold maxLen; omega) (by omega) (Nat.le_refl _)
        have hb12 : Below w11.heap.size w11 w12 := (Below.refl _ _).grown hg1 (Nat.le_refl _) (fun k e => nomatch e)
        rw [Nat.zero_add] at ho1
        obtain ⟨v2, w13, hap2, ho2, hg2, -⟩ := run_append_src8 (P := Tryz.prog) w12 w11.heap.size 28 28 9 is _ 1 16 Tryz.underlying28 his hs0 hs1 hs2 rfl (by decide) v1 U.length ([] ++ strs U) ho1 Av V.length cv (strs V) (by rw [strs_len, Nat.mul_one]) (RV11.out.below hb12) (str_one V) (by unfold maxLen; omega) (by omega) hb12.size
        have hb13 : Below w11.heap.size w11 w13 := hb12.grown hg2 hb12.size (own_lt ho1)
        have e3 : [] ++ strs U ++ strs V = strs (U ++ V) := by unfold strs; rw [List.map_append]; rfl
        rw [e3, ← List.length_append] at ho2
        obtain ⟨Aw, cw, rfl, -, -, hrw⟩ := rd_own9 ho2
        have RW := Lib.hid hrw
        have WW : Hid (∀ s ∈ U ++ V, s.size ≤ 120 ∧ VU s) := fun s hs => (List.mem_append.1 hs).elim (WA.out s) (WV.out s)
        have BW := Lib.hid (build_any Aw cw (U ++ V) (by rw [List.length_append]; omega) WW.out w13 RW.out)
        have hbb13 := hbb11.trans (hb13.mono hbb11.size)
        have IX13 := Lib.hid (IX11.out.below hb13)
        have NX13 := Lib.hid (NX11.out.below hb13)
        have IY13 := Lib.hid (IY.out.below hb13)
        have NY13 := Lib.hid (NY.out.below hb13)
        rw [List.length_append] at hap2 BW
        clear ho1 hg1 ho2 hg2 hrw e3 hb12 hb13 RU11 RV11 IX11 NX11 IY NY hbb11 RW
        go_wp2_with (at_builtin; first | refine wpList_append_eq8 rfl _ (.tmp 68) 28 rfl _ _ _ rfl rfl hap1 ?_ | refine wpList_append_eq8 rfl (.tmp 69) (.tmp 70) 28 rfl _ _ _ rfl rfl hap2 ?_)
        clear hap1 hap2
        go_wp2_with fail
        refine BW.out.mono ?_
        rintro e w14 ⟨pz, Dz, nz, rfl, rz⟩
        have hbb14 := hbb13.trans (rz.below.mono hbb13.size)
        obtain ⟨Az, cz, rfl, -, -, hrz⟩ := rd_own9 rz.num
        have LZ := Lib.hid rz.lex
        have IZ := Lib.hid rz.mem
        have NZ := Lib.hid hrz
        have IX14 := Lib.hid (IX13.out.below rz.below)
        have NX14 := Lib.hid (NX13.out.below rz.below)
        have IY14 := Lib.hid (IY13.out.below rz.below)
        have NY14 := Lib.hid (NY13.out.below rz.below)
        have MG := Lib.hid (merge_any px py Dx Dy U V LX.out LY.out (by omega) (by omega) WA.out WV.out w14 IX14.out IY14.out)
        clear rz hrz BW IX13 NX13 IY13 NY13 hbb13
        go_wp2_with fail
        refine MG.out.mono ?_
        rintro e w15 ⟨pw, Dw, vp, vq, rfl, lw, iw, op, oq, hb15⟩
        obtain ⟨em, rfl⟩ := merged_eq LX.out LY.out LZ.out lw
        rw [em] at iw
        obtain ⟨Ap, cp, rfl, -, -, hrp⟩ := rd_own9 op
        obtain ⟨Aq, cq, rfl, -, -, hrq⟩ := rd_own9 oq
        have IW := Lib.hid iw
        have NP := Lib.hid hrp
        have NQ := Lib.hid hrq
        have hbb15 := hbb14.trans (hb15.mono hbb14.size)
        have IZ15 := Lib.hid (IZ.out.below hb15)
        have NX15 := Lib.hid (NX14.out.below hb15)
        have NY15 := Lib.hid (NY14.out.below hb15)
        have NZ15 := Lib.hid (NZ.out.below hb15)
        obtain ⟨E, hE⟩ : ∃ E, E = Dw.map fun s => (s, cn (U ++ V) s) := ⟨_, rfl⟩
        have lE : E.length ≤ 1000 := by rw [hE, List.length_map]; have := LZ.out.len; rw [List.length_append] at this; omega
        have sE : Hid (∀ e ∈ E, e.1.size ≤ 1000 ∧ 1 ≤ e.2 ∧ e.2 ≤ 1000000) := by
          show ∀ e ∈ E, _
          rw [hE]; exact sizes9 LZ.out (by rw [List.length_append]; omega) WW.out
        rw [← hE] at IW IZ15
        have EP := Lib.hid (encB_pos E)
        clear MG lw iw op oq em hrp hrq IX14 IY14 NX14 NY14 IZ NZ hbb14 hb15 hE
        go_upto_region 13 with (fail)
        refine wp_reg_ra [some 106, some 107, some 108, some 109, some 110, some 111, some 112, some 113, some 114, some 115, some 116, some 117, some 118, some 119, some 120] [isV ?v2_0, isV ?v2_1, isV ?v2_2, isV ?v2_3, isV ?v2_4, isV ?v2_5, isV ?v2_6, isV ?v2_7, (fun v w' => World.ownsRow w' B 5 1 v (encB E).length (u8c (encB E))), isV (.string ⟨(encB E).toArray⟩), isV ?v2_10, (fun v w' => World.ownsRow w' B 5 1 v (encB E).length (u8c (encB E))), isV (.string ⟨(encB E).toArray⟩), isV (.bool false), isV (.bool false)] rfl (by kernel_rfl) rfl rfl ?k2 ⟨?s2_0, ?s2_1, ?s2_2, ?s2_3, ?s2_4, ?s2_5, ?s2_6, ?s2_7, ?s2_8, ?s2_9, ?s2_10, ?s2_11, ?s2_12, ?s2_13, ?s2_14, trivial⟩ ?p2
        case s2_0 =>
          intro t9 w9 hT9 hV9 hO9 K9 hK9
          have o9_20 := hO9 20 _ (show List.contains _ _ = false from by kernel_rfl) rfl
          clear hV9 hO9
          go_simp
          (refine hK9 _ _ (Grow.refl _) ?_; exact rfl)
        case s2_1 =>
          intro t9 w9 hT9 hV9 hO9 K9 hK9
          obtain ⟨x9_0, p9_0, q9_0⟩ := hV9 0 106 rfl rfl (of_decide_eq_true (by kernel_rfl))
          obtain rfl : x9_0 = ?v2_0 := q9_0
          clear hV9 hO9
          go_simp
          (refine hK9 _ _ (Grow.refl _) ?_; exact rfl)
        case s2_2 =>
          intro t9 w9 hT9 hV9 hO9 K9 hK9
          obtain ⟨x9_1, p9_1, q9_1⟩ := hV9 1 107 rfl rfl (of_decide_eq_true (by kernel_rfl))
          obtain rfl : x9_1 = ?v2_1 := q9_1
          clear hV9 hO9
          go_simp
          (refine hK9 _ _ (Grow.refl _) ?_; exact rfl)
        case s2_3 =>
          intro t9 w9 hT9 hV9 hO9 K9 hK9
          obtain ⟨x9_2, p9_2, q9_2⟩ := hV9 2 108 rfl rfl (of_decide_eq_true (by kernel_rfl))
          obtain rfl : x9_2 = ?v2_2 := q9_2
          have o9_17 := hO9 17 _ (show List.contains _ _ = false from by kernel_rfl) rfl
          clear hV9 hO9
          go_simp
          (refine hK9 _ _ (Grow.refl _) ?_; exact rfl)
        case s2_4 =>
          intro t9 w9 hT9 hV9 hO9 K9 hK9
          obtain ⟨x9_2, p9_2, q9_2⟩ := hV9 2 108 rfl rfl (of_decide_eq_true (by kernel_rfl))
          obtain rfl : x9_2 = ?v2_2 := q9_2
          obtain ⟨x9_3, p9_3, q9_3⟩ := hV9 3 109 rfl rfl (of_decide_eq_true (by kernel_rfl))
          obtain rfl : x9_3 = ?v2_3 := q9_3
          clear hV9 hO9
          go_simp
          (refine hK9 _ _ (Grow.refl _) ?_; exact rfl)
        case s2_5 =>
          intro t9 w9 hT9 hV9 hO9 K9 hK9
          obtain ⟨x9_2, p9_2, q9_2⟩ := hV9 2 108 rfl rfl (of_decide_eq_true (by kernel_rfl))
          obtain rfl : x9_2 = ?v2_2 := q9_2
          obtain ⟨x9_4, p9_4, q9_4⟩ := hV9 4 110 rfl rfl (of_decide_eq_true (by kernel_rfl))
          obtain rfl : x9_4 = ?v2_4 := q9_4
          clear hV9 hO9
          go_simp
          (refine hK9 _ _ (Grow.refl _) ?_; exact rfl)
        case s2_6 =>
          intro t9 w9 hT9 hV9 hO9 K9 hK9
          obtain ⟨x9_5, p9_5, q9_5⟩ := hV9 5 111 rfl rfl (of_decide_eq_true (by kernel_rfl))
          obtain rfl : x9_5 = ?v2_5 := q9_5
          clear hV9 hO9
          go_simp
          (refine hK9 _ _ (Grow.refl _) ?_; exact rfl)
        case s2_7 =>
          intro t9 w9 hT9 hV9 hO9 K9 hK9
          obtain ⟨x9_6, p9_6, q9_6⟩ := hV9 6 112 rfl rfl (of_decide_eq_true (by kernel_rfl))
          obtain rfl : x9_6 = ?v2_6 := q9_6
          have o9_17 := hO9 17 _ (show List.contains _ _ = false from by kernel_rfl) rfl
          clear hV9 hO9
          go_simp
          (refine hK9 _ _ (Grow.refl _) ?_; exact rfl)
        case s2_8 =>
          intro t9 w9 hT9 hV9 hO9 K9 hK9
          obtain ⟨x9_6, p9_6, q9_6⟩ := hV9 6 112 rfl rfl (of_decide_eq_true (by kernel_rfl))
          obtain rfl : x9_6 = ?v2_6 := q9_6
          obtain ⟨x9_7, p9_7, q9_7⟩ := hV9 7 113 rfl rfl (of_decide_eq_true (by kernel_rfl))
          obtain rfl : x9_7 = ?v2_7 := q9_7
          clear hV9 hO9
          go_simp
          refine (encode_any pw E lE sE.out w9 (IW.out.below hT9.below)).mono ?_
          rintro e w8 ⟨v8, rfl, ho8, hb8⟩
          exact hK9 _ _ hb8 (ho8.mono (Nat.le_trans (by have := hbb15.size; omega) hT9.below.size))
        case s2_9 =>
          intro t9 w9 hT9 hV9 hO9 K9 hK9
          obtain ⟨x9_6, p9_6, q9_6⟩ := hV9 6 112 rfl rfl (of_decide_eq_true (by kernel_rfl))
          obtain rfl : x9_6 = ?v2_6 := q9_6
          obtain ⟨x9_8, p9_8, q9_8⟩ := hV9 8 114 rfl rfl (of_decide_eq_true (by kernel_rfl))
          replace q9_8 : ((fun v w' => World.ownsRow w' B 5 1 v (encB E).length (u8c (encB E)))) x9_8 _ := q9_8
          clear hV9 hO9
          obtain ⟨g8, c8, rfl, hcv⟩ := back_own q9_8 (row_pos q9_8 EP.out)
          go_simp
          exact hK9 _ _ (Grow.refl _) rfl
        case s2_10 =>
          intro t9 w9 hT9 hV9 hO9 K9 hK9
          obtain ⟨x9_6, p9_6, q9_6⟩ := hV9 6 112 rfl rfl (of_decide_eq_true (by kernel_rfl))
          obtain rfl : x9_6 = ?v2_6 := q9_6
          have o9_14 := hO9 14 _ (show List.contains _ _ = false from by kernel_rfl) rfl
          clear hV9 hO9
          go_simp
          (refine hK9 _ _ (Grow.refl _) ?_; exact rfl)
        case s2_11 =>
          intro t9 w9 hT9 hV9 hO9 K9 hK9
          obtain ⟨x9_6, p9_6, q9_6⟩ := hV9 6 112 rfl rfl (of_decide_eq_true (by kernel_rfl))
          obtain rfl : x9_6 = ?v2_6 := q9_6
          obtain ⟨x9_10, p9_10, q9_10⟩ := hV9 10 116 rfl rfl (of_decide_eq_true (by kernel_rfl))
          obtain rfl : x9_10 = ?v2_10 := q9_10
          clear hV9 hO9
          go_simp
          refine (encode_any pz E lE sE.out w9 (IZ15.out.below hT9.below)).mono ?_
          rintro e w8 ⟨v8, rfl, ho8, hb8⟩
          exact hK9 _ _ hb8 (ho8.mono (Nat.le_trans (by have := hbb15.size; omega) hT9.below.size))
        case s2_12 =>
          intro t9 w9 hT9 hV9 hO9 K9 hK9
          obtain ⟨x9_6, p9_6, q9_6⟩ := hV9 6 112 rfl rfl (of_decide_eq_true (by kernel_rfl))
          obtain rfl : x9_6 = ?v2_6 := q9_6
          obtain ⟨x9_11, p9_11, q9_11⟩ := hV9 11 117 rfl rfl (of_decide_eq_true (by kernel_rfl))
          replace q9_11 : ((fun v w' => World.ownsRow w' B 5 1 v (encB E).length (u8c (encB E)))) x9_11 _ := q9_11
          clear hV9 hO9
          obtain ⟨g8, c8, rfl, hcv⟩ := back_own q9_11 (row_pos q9_11 EP.out)
          go_simp
          exact hK9 _ _ (Grow.refl _) rfl
        case s2_13 =>
          intro t9 w9 hT9 hV9 hO9 K9 hK9
          obtain ⟨x9_6, p9_6, q9_6⟩ := hV9 6 112 rfl rfl (of_decide_eq_true (by kernel_rfl))
          obtain rfl : x9_6 = ?v2_6 := q9_6
          obtain ⟨x9_9, p9_9, q9_9⟩ := hV9 9 115 rfl rfl (of_decide_eq_true (by kernel_rfl))
          obtain rfl : x9_9 = (.string ⟨(encB E).toArray⟩) := q9_9
          obtain ⟨x9_12, p9_12, q9_12⟩ := hV9 12 118 rfl rfl (of_decide_eq_true (by kernel_rfl))
          obtain rfl : x9_12 = (.string ⟨(encB E).toArray⟩) := q9_12
          clear hV9 hO9
          go_simp
          (refine hK9 _ _ (Grow.refl _) ?_; exact rfl)
        case s2_14 =>
          intro t9 w9 hT9 hV9 hO9 K9 hK9
          obtain ⟨x9_6, p9_6, q9_6⟩ := hV9 6 112 rfl rfl (of_decide_eq_true (by kernel_rfl))
          obtain rfl : x9_6 = ?v2_6 := q9_6
          obtain ⟨x9_13, p9_13, q9_13⟩ := hV9 13 119 rfl rfl (of_decide_eq_true (by kernel_rfl))
          obtain rfl : x9_13 = (.bool false) := q9_13
          clear hV9 hO9
          go_simp
          (refine hK9 _ _ (Grow.refl _) ?_; exact rfl)
        case k2 =>
          intro i9 v9 w9 x9 h9 g9
          match i9, h9 with
          | 0, h9 => exact h9
          | 1, h9 => exact h9
          | 2, h9 => exact h9
          | 3, h9 => exact h9
          | 4, h9 => exact h9
          | 5, h9 => exact h9
          | 6, h9 => exact h9
          | 7, h9 => exact h9
          | 8, h9 => (replace h9 : (fun v w' => World.ownsRow w' B 5 1 v (encB E).length (u8c (encB E))) v9 w9 := h9); exact ownsRow_b h9 g9
          | 9, h9 => exact h9
          | 10, h9 => exact h9
          | 11, h9 => (replace h9 : (fun v w' => World.ownsRow w' B 5 1 v (encB E).length (u8c (encB E))) v9 w9 := h9); exact ownsRow_b h9 g9
          | 12, h9 => exact h9
          | 13, h9 => exact h9
          | 14, h9 => exact h9
          | _ + 15, h9 => exact trivial
        intro u9 w9 hE9 hu9
        have r9_0 : u9 0 = ?v2_0 := hu9 0 (by decide)
        have r9_1 : u9 1 = ?v2_1 := hu9 1 (by decide)
        have r9_2 : u9 2 = ?v2_2 := hu9 2 (by decide)
        have r9_3 : u9 3 = ?v2_3 := hu9 3 (by decide)
        have r9_4 : u9 4 = ?v2_4 := hu9 4 (by decide)
        have r9_5 : u9 5 = ?v2_5 := hu9 5 (by decide)
        have r9_6 : u9 6 = ?v2_6 := hu9 6 (by decide)
        have r9_7 : u9 7 = ?v2_7 := hu9 7 (by decide)
        have r9_8 : (fun v w' => World.ownsRow w' B 5 1 v (encB E).length (u8c (encB E))) (u9 8) w9 := hu9 8 (by decide)
        have r9_9 : u9 9 = (.string ⟨(encB E).toArray⟩) := hu9 9 (by decide)
        have r9_10 : u9 10 = ?v2_10 := hu9 10 (by decide)
        have r9_11 : (fun v w' => World.ownsRow w' B 5 1 v (encB E).length (u8c (encB E))) (u9 11) w9 := hu9 11 (by decide)
        have r9_12 : u9 12 = (.string ⟨(encB E).toArray⟩) := hu9 12 (by decide)
        have r9_13 : u9 13 = (.bool false) := hu9 13 (by decide)
        have r9_14 : u9 14 = (.bool false) := hu9 14 (by decide)
        clear hu9
        simp only [putAll, Act.put, List.setIfInBounds_toArray, List.set_cons_succ, List.set_cons_zero, List.getD_cons_succ, List.getD_cons_zero, Nat.reduceAdd, Nat.zero_add]
        simp only [r9_0, r9_1, r9_2, r9_3, r9_4, r9_5, r9_6, r9_7, r9_9, r9_10, r9_12, r9_13, r9_14]
        clear r9_0 r9_1 r9_2 r9_3 r9_4 r9_5 r9_6 r9_7 r9_9 r9_10 r9_12 r9_13 r9_14
        have hb16 : Below w15.heap.size w15 w9 := hE9
        have hbb16 := hbb15.trans (hb16.mono hbb15.size)
        have NX16 := Lib.hid (NX15.out.below hb16)
        have NY16 := Lib.hid (NY15.out.below hb16)
        have NZ16 := Lib.hid (NZ15.out.below hb16)
        have NP16 := Lib.hid (NP.out.below hb16)
        have NQ16 := Lib.hid (NQ.out.below hb16)
        clear hE9 r9_8 r9_11 IW IZ15 NX15 NY15 NZ15 NP NQ sE lE EP hbb15 hb16
        go_wp2_with fail
        obtain ⟨G, hG⟩ : ∃ G, G = w9.heap.size := ⟨_, rfl⟩
        have HG := Lib.hid hG
        clear hG
        go_loopg [21, 123] (U.length + 1) (fun q9 v21 v9 wr => ∃ (j : Nat) (L : List Nat), q9 = U.length + 1 - j ∧ j ≤ U.length ∧ v9 = .int .i64 (j : Int) ∧ Hid (L = [] ++ (U.take j).map (idx Dw)) ∧ L.length ≤ 0 + j ∧ Hid (wr.ownsRow G 3 1 v21 L.length (ints L)) ∧ Below G w9 wr)
        case atStart => exact ⟨0, [], rfl, Nat.zero_le _, rfl, (show [] = _ by simp), by simp, World.ownsRow_nil _ _ _ _, Below.refl _ _⟩
        case round =>
          skip
          obtain ⟨j, L, rfl, hj, rfl, HL, hLl, HO, hb9⟩ := hrel
          have hbw9 : Below w9.heap.size w9 wr := HG.out ▸ hb9
          by_cases hlj : j < U.length
          · have hmem := List.getElem_mem hlj
            have HREN := Lib.hid (LX.out.renamed LZ.out (show U[j] ∈ U from hmem))
            have HREN2 := HREN
            have hat := (LX.out.at_ hmem).1
            obtain ⟨bA, oA, hA, k0⟩ := (NX16.out.below hbw9) j (.int .i64 (idx Dx U[j] : Int)) (by unfold ints; rw [List.getElem?_map, List.getElem?_map, List.getElem?_eq_getElem hlj]; rfl)
            obtain ⟨bP, oP, hP, k1⟩ := (NP16.out.below hbw9) (idx Dx U[j]) (.int .i64 (idx Dw U[j] : Int)) (by unfold ints; rw [List.getElem?_map, HREN.out]; rfl)
            have HL2 : Hid (L ++ [idx Dw U[j]] = [] ++ (U.take (j + 1)).map (idx Dw)) := by
              show _ = _
              rw [HL.out, List.take_add_one, List.getElem?_eq_getElem hlj, List.map_append, ← List.append_assoc]; rfl
            generalize idx Dx U[j] = m at hat k0 k1
            generalize idx Dw U[j] = m2 at k1 HL2
            subst hA hP
            have t1 : decide ((m : Int) < 0) = false := decide_eq_false (by omega)
            have t2 : decide ((Dx.length : Int) ≤ (m : Int)) = false := decide_eq_false (by omega)
            have t2n : decide (Dx.length ≤ m) = false := decide_eq_false (by omega)
            have hGs : G ≤ wr.heap.size := by have := hbw9.size; have := HG.out; omega
            have h63 : L.length + 1 ≤ maxLen := by unfold maxLen; omega
            have h64 : (L.length + 1) * 8 ≤ 140737488355328 := by omega
            have hl7 : Dx.length ≤ 1000000 := by have := LX.out.len; omega
            clear HREN HREN2 hmem hbw9 HL
            go_wp2_with (at_builtin; refine wpList_append_own_at _ rfl (.tmp 135) (.tmp 140) 27 rfl G 3 ii _ 1 8 Tryz.underlying27 hii hj0 hj1 hj2 rfl (by decide) _ L.length (ints L) rfl (HO.out.alloc _) ⟨wr.heap.size, 0, none⟩ 1 1 [.int .i64 (m2 : Int)] rfl rfl (cells_u8 _ _ _) (by simp [Value.oneCell']) h63 h64 (by rw [size1]; omega) ?_)
            intro v' w' hown' hgrow _ _
            have hb10 := (hb9.alloc hGs (.cells #[.int .i64 (m2 : Int)] 3)).grown hgrow (by rw [size1]; omega) (own_lt HO.out)
            have HO2 : Hid (w'.ownsRow G 3 1 v' (L ++ [m2]).length (ints (L ++ [m2]))) := by
              show World.ownsRow _ _ _ _ _ _ _
              rw [ints_app, List.length_append, List.length_singleton]; exact hown'
            have hL2 : (L ++ [m2]).length ≤ 0 + (j + 1) := by rw [List.length_append, List.length_singleton]; omega
            clear hgrow hown' HO k0 k1 t1 t2 t2n hb9 hLl h63 h64
            go_wp2_with fail
            go_roundg (U.length + 1 - (j + 1))
            case measure => omega
            case rel => exact ⟨j + 1, L ++ [m2], rfl, by omega, by go_num, HL2, hL2, HO2, hb10⟩
          · have ej : j = U.length := by omega
            subst ej
            rw [List.take_length, List.nil_append] at HL
            obtain ⟨L1, hL1⟩ : ∃ L1, L1 = L := ⟨_, rfl⟩
            rw [← hL1] at HL hLl HO
            have HL1 := HL
            have HO1 := HO
            have hb19 := hb9
            have hl1 : L1.length ≤ 60 := by omega
            clear HL HO hb9 hLl hbw9 hL1
            go_wp2_with fail
            go_loopg [21, 145] (V.length + 1) (fun q9 v21 v9 wr => ∃ (j : Nat) (L : List Nat), q9 = V.length + 1 - j ∧ j ≤ V.length ∧ v9 = .int .i64 (j : Int) ∧ Hid (L = U.map (idx Dw) ++ (V.take j).map (idx Dw)) ∧ L.length ≤ 60 + j ∧ Hid (wr.ownsRow G 3 1 v21 L.length (ints L)) ∧ Below G w9 wr)
            case atStart => exact ⟨0, L1, rfl, Nat.zero_le _, rfl, (show L1 = _ by rw [HL1.out]; simp), by omega, HO1, hb19⟩
            case round =>
              clear HO1 hb19 HL1
              obtain ⟨j, L, rfl, hj, rfl, HL, hLl, HO, hb9⟩ := hrel
              have hbw9 : Below w9.heap.size w9 wr := HG.out ▸ hb9
              by_cases hlj : j < V.length
              · have hmem := List.getElem_mem hlj
                have HREN := Lib.hid (LY.out.renamed LZ.out (show V[j] ∈ V from hmem))
                have HREN2 := HREN
                have hat := (LY.out.at_ hmem).1
                obtain ⟨bA, oA, hA, k0⟩ := (NY16.out.below hbw9) j (.int .i64 (idx Dy V[j] : Int)) (by unfold ints; rw [List.getElem?_map, List.getElem?_map, List.getElem?_eq_getElem hlj]; rfl)
                obtain ⟨bP, oP, hP, k1⟩ := (NQ16.out.below hbw9) (idx Dy V[j]) (.int .i64 (idx Dw V[j] : Int)) (by unfold ints; rw [List.getElem?_map, HREN.out]; rfl)
                have HL2 : Hid (L ++ [idx Dw V[j]] = U.map (idx Dw) ++ (V.take (j + 1)).map (idx Dw)) := by
                  show _ = _
                  rw [HL.out, List.take_add_one, List.getElem?_eq_getElem hlj, List.map_append, ← List.append_assoc]; rfl
                generalize idx Dy V[j] = m at hat k0 k1
                generalize idx Dw V[j] = m2 at k1 HL2
                subst hA hP
                have t1 : decide ((m : Int) < 0) = false := decide_eq_false (by omega)
                have t2 : decide ((Dy.length : Int) ≤ (m : Int)) = false := decide_eq_false (by omega)
                have t2n : decide (Dy.length ≤ m) = false := decide_eq_false (by omega)
                have hGs : G ≤ wr.heap.size := by have := hbw9.size; have := HG.out; omega
                have h63 : L.length + 1 ≤ maxLen := by unfold maxLen; omega
                have h64 : (L.length + 1) * 8 ≤ 140737488355328 := by omega
                have hl7 : Dy.length ≤ 1000000 := by have := LY.out.len; omega
                clear HREN HREN2 hmem hbw9 HL
                go_wp2_with (at_builtin; refine wpList_append_own_at _ rfl (.tmp 157) (.tmp 162) 27 rfl G 3 ii _ 1 8 Tryz.underlying27 hii hj0 hj1 hj2 rfl (by decide) _ L.length (ints L) rfl (HO.out.alloc _) ⟨wr.heap.size, 0, none⟩ 1 1 [.int .i64 (m2 : Int)] rfl rfl (cells_u8 _ _ _) (by simp [Value.oneCell']) h63 h64 (by rw [size1]; omega) ?_)
                intro v' w' hown' hgrow _ _
                have hb10 := (hb9.alloc hGs (.cells #[.int .i64 (m2 : Int)] 3)).grown hgrow (by rw [size1]; omega) (own_lt HO.out)
                have HO2 : Hid (w'.ownsRow G 3 1 v' (L ++ [m2]).length (ints (L ++ [m2]))) := by
                  show World.ownsRow _ _ _ _ _ _ _
                  rw [ints_app, List.length_append, List.length_singleton]; exact hown'
                have hL2 : (L ++ [m2]).length ≤ 60 + (j + 1) := by rw [List.length_append, List.length_singleton]; omega
                clear hgrow hown' HO k0 k1 t1 t2 t2n hb9 hLl h63 h64
                go_wp2_with fail
                go_roundg (V.length + 1 - (j + 1))
                case measure => omega
                case rel => exact ⟨j + 1, L ++ [m2], rfl, by omega, by go_num, HL2, hL2, HO2, hb10⟩
              · have ej : j = V.length := by omega
                subst ej
                rw [List.take_length, ← List.map_append] at HL
                have hr0 := (rd_own9 HO.out)
                obtain ⟨Ab, cb9, rfl, -, -, hrb⟩ := hr0
                have NZr := Lib.hid (NZ16.out.below hbw9)
                rw [HL.out] at hrb
                have RB := Lib.hid hrb
                have eLl : L.length = ((U ++ V).map (idx Dw)).length := by rw [HL.out]
                have eN : (U ++ V).length = ((U ++ V).map (idx Dw)).length := by rw [List.length_map]
                have hsi := sameInts_yes Ab Az ((U ++ V).map (idx Dw)) cb9 cz (by rw [List.length_map, List.length_append]; omega) wr RB.out NZr.out
                rw [← eN] at hsi
                rw [eN.symm] at eLl
                have HSI := Lib.hid hsi
                have hbbr : Below wb.heap.size wb wr := hbb16.trans (hb9.mono (by have := HG.out; have := hbb16.size; omega))
                clear HL HO hb9 hLl hbw9 hrb eN hsi
                rw [eLl]
                clear eLl
                rw [List.length_append] at HSI ⊢
                go_wp2_with fail
                refine HSI.out.mono ?_
                rintro e wq ⟨rfl, hbq⟩
                have hbbq := hbbr.trans (hbq.mono hbbr.size)
                clear HSI
                go_wp2
                go_roundg (C.attrs.length + 1 - (k + 1))
                case measure => omega
                case rel => exact ⟨k + 1, rfl, by omega, by go_num, hbbq⟩
      · have MMr := MM.out.below hbwr
        go_wp2_with fail
        refine (awake_yes _ MMr).mono ?_
        rintro e wq ⟨rfl, hbq⟩
        go_wp2
        go_ret
        exact ⟨rfl, hbwr.trans (hbq.mono hbwr.size)⟩
  · have e1 : ((C.attrs.length : Int) == (D.attrs.length : Int)) = false := beq_eq_false_iff_ne.2 (by omega)
    have e2 : ((C.attrs.length : Int) != (D.attrs.length : Int)) = true := by rw [bne, e1]; rfl
    go_wp2
    go_ret
    exact ⟨rfl, hbw2⟩
theorem merges_law (v0 : Value) (C0 : Cor) (v1 : Value) (C1 : Cor) (W : World) (h0 : CorV (fun _ => False) W v0 C0) (h1 : CorV (fun _ => False) W v1 C1) (hm : MLen W) :
    Calls Tryz.prog 3 #[v0, v1] W fun e w' => e = .returned (.bool true) ∧ Below W.heap.size W w' := by
  obtain ⟨a, t, x, r, n, h, s, rfl, q⟩ := h0
  obtain ⟨a2, t2, x2, r2, n2, h2, s2, rfl, q2⟩ := h1
  exact merges_any W q q2 hm
end Go.Proofs.YtfenjklilocjgaaGreatDoor
