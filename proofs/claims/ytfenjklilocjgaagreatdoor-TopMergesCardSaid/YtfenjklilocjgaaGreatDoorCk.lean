/- Parts of the proof: Ck. No condition of its own. -/
import Derived.Test.YtfenjklilocjgaaGreatDoorCi
import Derived.Test.YtfenjklilocjgaaGreatDoorCj
set_option linter.unusedSimpArgs false
set_option linter.unusedVariables false
set_option linter.unusedSectionVars false
namespace Go.Proofs.YtfenjklilocjgaaGreatDoor
set_option linter.unusedSimpArgs false
set_option linter.unusedVariables false
set_option linter.unusedSectionVars false
open Go.RowKit

/-- The first j heads are right. -/
structure HeadsTo (C : Cor) (j : Nat) : Prop where
  head : ∀ i (h : i < C.heads.length), i < j → C.heads[i] = -1 ∨ (0 ≤ C.heads[i] ∧ C.heads[i] < (C.heads.length : Int) ∧ placeI (C.texts.findIdx? (atP C.heads[i])) = placeI (C.texts.findIdx? (atP (i : Int))))
  rel : ∀ i (h : i < C.rels.length), i < j → C.rels[i] = ⟨#[]⟩ ∨ NameOK C.rels[i]
  tree : ∀ i, i < j → ¬ CycH C.heads i
theorem HeadsTo.zero (C : Cor) : HeadsTo C 0 := ⟨fun _ _ h => absurd h (Nat.not_lt_zero _), fun _ _ h => absurd h (Nat.not_lt_zero _), fun _ h => absurd h (Nat.not_lt_zero _)⟩
theorem HeadsTo.step {C : Cor} {j : Nat} (H : HeadsTo C j) (hj : j < C.heads.length) (hj' : j < C.rels.length) {x : Int} (hx : x = C.heads[j]) {z : ByteArray} (hz : z = C.rels[j]) (h1 : x = -1 ∨ (0 ≤ x ∧ x < (C.heads.length : Int) ∧ placeI (C.texts.findIdx? (atP x)) = placeI (C.texts.findIdx? (atP (j : Int))))) (h2 : z = ⟨#[]⟩ ∨ NameOK z) (h3 : ¬ CycH C.heads j) : HeadsTo C (j + 1) := by
  subst hx hz
  refine ⟨fun i h hi => ?_, fun i h hi => ?_, fun i hi => ?_⟩
  · by_cases e : i = j
    · subst e; exact h1
    · exact H.head i h (by omega)
  · by_cases e : i = j
    · subst e; exact h2
    · exact H.rel i h (by omega)
  · by_cases e : i = j
    · subst e; exact h3
    · exact H.tree i (by omega)
structure HeadsOK (C : Cor) : Prop where
  same : C.heads.length = C.rels.length
  many : C.heads.length = 0 ∨ C.heads.length = C.toks.length
  some_ : 0 < C.heads.length → ¬ ∀ i (h : i < C.heads.length) (h' : i < C.rels.length), C.heads[i] = -1 ∧ C.rels[i] = ⟨#[]⟩
  all : HeadsTo C C.heads.length
theorem textAt6_grow {S : Nat → Prop} {a t x r n h s : Value} {C : Cor} (k : Int) (w0 w : World) (q : CorC S w0 a t x r n h s C) (hb : Below w0.heap.size w0 w) :
    Calls Tryz.prog 97 #[.agg #[a, t, x, r, n, h, s], .int .i64 k] w fun e w' => e = .returned (.int .i64 (placeI (C.texts.findIdx? (atP k)))) ∧ Below w.heap.size w w' := textAt6_any w (q.below hb) k
set_option maxRecDepth 100000 in
set_option maxHeartbeats 4000000 in
theorem heads6_any {S : Nat → Prop} {a t x r n h s : Value} {C : Cor} (w : World) (q : CorC S w a t x r n h s C) :
    Calls Tryz.prog 54 #[.agg #[a, t, x, r, n, h, s]] w fun e w' => RetII (HeadsOK C) e ∧ Below w.heap.size w w' := by
  obtain ⟨A0, c0, rfl, u1, u2, -⟩ := EO.form q.t
  obtain ⟨A, c, rfl, h1, h2, -⟩ := EO.form q.h
  obtain ⟨A2, c2, rfl, h3, h4, -⟩ := EO.form q.s
  obtain ⟨o_c, hbw⟩ := new1 w [a, .slice A0 C.toks.length c0, x, r, n, .slice A C.heads.length c, .slice A2 C.rels.length c2] 30
  have q' := q.below hbw
  have hsz : (w.alloc (.cells #[a, .slice A0 C.toks.length c0, x, r, n, .slice A C.heads.length c, .slice A2 C.rels.length c2] 30)).heap.size = w.heap.size + 1 := by simp
  go_enter Tryz.func54, Tryz.ntmps54
  go_upto_region 1 with (fail)
  generalize (w.alloc (.cells #[a, .slice A0 C.toks.length c0, x, r, n, .slice A C.heads.length c, .slice A2 C.rels.length c2] 30)) = wb at o_c hbw hsz q' ⊢
  obtain ⟨B, hB⟩ : ∃ B, B = w.heap.size := ⟨_, rfl⟩
  rw [← hB] at o_c hsz hbw ⊢
  have HB := Lib.hid hB
  clear hB
  clear q
  unfold maxLen at h2 h4 u2
  have c_1 : wb.cell? ⟨B, 1, none⟩ = some (.slice A0 C.toks.length c0) := o_c.cell 1
  have c_5 : wb.cell? ⟨B, 5, none⟩ = some (.slice A C.heads.length c) := o_c.cell 5
  have c_6 : wb.cell? ⟨B, 6, none⟩ = some (.slice A2 C.rels.length c2) := o_c.cell 6
  rcases (show C.heads.length ≠ C.rels.length ∨ (C.heads.length = C.rels.length ∧ C.heads.length ≠ 0 ∧ C.heads.length ≠ C.toks.length) ∨ (C.heads.length = C.rels.length ∧ C.heads.length = 0) ∨ (C.heads.length = C.rels.length ∧ 0 < C.heads.length ∧ C.heads.length = C.toks.length) by omega) with h8 | h8 | h8 | h8
  · skip
    have ue : (((C.heads.length : Int) : Int) == ((C.rels.length : Int) : Int)) = false := beq_eq_false_iff_ne.2 (by omega)
    have ud : (((C.heads.length : Int) : Int) != ((C.rels.length : Int) : Int)) = true := by rw [bne_iff_ne]; omega
    have une : ((C.heads.length : Nat) == (C.rels.length : Nat)) = false := beq_eq_false_iff_ne.2 (by omega)
    have und : ((C.heads.length : Nat) != (C.rels.length : Nat)) = true := by rw [bne_iff_ne]; omega
    clear h8
    go_wp2
    go_ret2
    exact ⟨RetII.no (by decide), HB.out ▸ hbw⟩
  · skip
    have ue : (((C.heads.length : Int) : Int) == ((C.rels.length : Int) : Int)) = true := beq_iff_eq.2 (by omega)
    have ud : (((C.heads.length : Int) : Int) != ((C.rels.length : Int) : Int)) = false := by rw [bne_eq_false_iff_eq]; omega
    have une : ((C.heads.length : Nat) == (C.rels.length : Nat)) = true := beq_iff_eq.2 (by omega)
    have und : ((C.heads.length : Nat) != (C.rels.length : Nat)) = false := by rw [bne_eq_false_iff_eq]; omega
    have ve : (((C.heads.length : Int) : Int) == (0 : Int)) = false := beq_eq_false_iff_ne.2 (by omega)
    have vd : (((C.heads.length : Int) : Int) != (0 : Int)) = true := by rw [bne_iff_ne]; omega
    have vne : ((C.heads.length : Nat) == (0 : Nat)) = false := beq_eq_false_iff_ne.2 (by omega)
    have vnd : ((C.heads.length : Nat) != (0 : Nat)) = true := by rw [bne_iff_ne]; omega
    have ye : (((C.heads.length : Int) : Int) == ((C.toks.length : Int) : Int)) = false := beq_eq_false_iff_ne.2 (by omega)
    have yd : (((C.heads.length : Int) : Int) != ((C.toks.length : Int) : Int)) = true := by rw [bne_iff_ne]; omega
    have yne : ((C.heads.length : Nat) == (C.toks.length : Nat)) = false := beq_eq_false_iff_ne.2 (by omega)
    have ynd : ((C.heads.length : Nat) != (C.toks.length : Nat)) = true := by rw [bne_iff_ne]; omega
    clear h8
    go_wp2
    go_ret2
    exact ⟨RetII.no (by decide), HB.out ▸ hbw⟩
  · have HOK : Hid (HeadsOK C) := ⟨h8.1, .inl h8.2, fun h => absurd h (by omega), by rw [h8.2]; exact HeadsTo.zero C⟩
    have ue : (((C.heads.length : Int) : Int) == ((C.rels.length : Int) : Int)) = true := beq_iff_eq.2 (by omega)
    have ud : (((C.heads.length : Int) : Int) != ((C.rels.length : Int) : Int)) = false := by rw [bne_eq_false_iff_eq]; omega
    have une : ((C.heads.length : Nat) == (C.rels.length : Nat)) = true := beq_iff_eq.2 (by omega)
    have und : ((C.heads.length : Nat) != (C.rels.length : Nat)) = false := by rw [bne_eq_false_iff_eq]; omega
    have ve : (((C.heads.length : Int) : Int) == (0 : Int)) = true := beq_iff_eq.2 (by omega)
    have vd : (((C.heads.length : Int) : Int) != (0 : Int)) = false := by rw [bne_eq_false_iff_eq]; omega
    have vne : ((C.heads.length : Nat) == (0 : Nat)) = true := beq_iff_eq.2 (by omega)
    have vnd : ((C.heads.length : Nat) != (0 : Nat)) = false := by rw [bne_eq_false_iff_eq]; omega
    have d1 : decide ((0 : Int) < (C.heads.length : Int)) = false := decide_eq_false (by omega)
    have d1n : decide (0 < C.heads.length) = false := decide_eq_false (by omega)
    clear h8
    go_wp2_with fail
    refine wp_loop_rounds 1 ?_
    rw [rounds_succ]
    go_wp2
    go_ret2
    exact ⟨RetII.yes HOK.out, HB.out ▸ hbw⟩
  · obtain ⟨hsame, hpos, hmany⟩ := h8
    have ue : (((C.heads.length : Int) : Int) == ((C.rels.length : Int) : Int)) = true := beq_iff_eq.2 (by omega)
    have ud : (((C.heads.length : Int) : Int) != ((C.rels.length : Int) : Int)) = false := by rw [bne_eq_false_iff_eq]; omega
    have une : ((C.heads.length : Nat) == (C.rels.length : Nat)) = true := beq_iff_eq.2 (by omega)
    have und : ((C.heads.length : Nat) != (C.rels.length : Nat)) = false := by rw [bne_eq_false_iff_eq]; omega
    have ve : (((C.heads.length : Int) : Int) == (0 : Int)) = false := beq_eq_false_iff_ne.2 (by omega)
    have vd : (((C.heads.length : Int) : Int) != (0 : Int)) = true := by rw [bne_iff_ne]; omega
    have vne : ((C.heads.length : Nat) == (0 : Nat)) = false := beq_eq_false_iff_ne.2 (by omega)
    have vnd : ((C.heads.length : Nat) != (0 : Nat)) = true := by rw [bne_iff_ne]; omega
    have ye : (((C.heads.length : Int) : Int) == ((C.toks.length : Int) : Int)) = true := beq_iff_eq.2 (by omega)
    have yd : (((C.heads.length : Int) : Int) != ((C.toks.length : Int) : Int)) = false := by rw [bne_eq_false_iff_eq]; omega
    have yne : ((C.heads.length : Nat) == (C.toks.length : Nat)) = true := beq_iff_eq.2 (by omega)
    have ynd : ((C.heads.length : Nat) != (C.toks.length : Nat)) = false := by rw [bne_eq_false_iff_eq]; omega
    have d1 : decide ((0 : Int) < (C.heads.length : Int)) = true := decide_eq_true (by omega)
    have d1n : decide (0 < C.heads.length) = true := decide_eq_true (by omega)
    have HB9 := Lib.hid (bare6_any wb q'.h q'.s hsame)
    have HSM := Lib.hid hsame
    have HMN := Lib.hid hmany
    have hle : C.heads.length ≤ C.rels.length := by omega
    clear hsame hmany
    go_wp2_with fail
    refine HB9.out.mono ?_
    rintro e w9 ⟨⟨bb, rfl, hbb⟩, rfl⟩
    have HBB := Lib.hid hbb
    clear hbb HB9 ue ud une und ve vd vne vnd ye yd yne ynd d1 d1n c_1
    cases bb
    · skip
      go_wp2_with fail
      clear c_5 c_6
      go_loopg [38] (C.heads.length + 1) (fun q v wr => ∃ j : Nat, q = C.heads.length + 1 - j ∧ j ≤ C.heads.length ∧ v = .int .i64 (j : Int) ∧ Hid (HeadsTo C j) ∧ Below w9.heap.size w9 wr)
      case atStart => exact ⟨0, rfl, Nat.zero_le _, rfl, HeadsTo.zero C, Below.refl _ _⟩
      case round =>
        obtain ⟨j, rfl, hj, rfl, HE, hbr⟩ := hrel
        have hwr := hbr.size
        have hbB := hbw.trans (hbr.mono (by omega))
        have o_c' := o_c.below hbr (by omega)
        by_cases hlt : j < C.heads.length
        · skip
          have qr := q'.below hbr
          have hlr : j < C.rels.length := by omega
          obtain ⟨b, off, rfl, -, k0, hx1⟩ := IntsO.get qr.h hlt
          obtain ⟨b2, off2, rfl, -, k1, hz1⟩ := StrsO.get qr.s hlr
          obtain ⟨x9, hx9⟩ : ∃ x9, x9 = C.heads[j] := ⟨_, rfl⟩
          obtain ⟨z9, hz9⟩ : ∃ z9, z9 = C.rels[j] := ⟨_, rfl⟩
          rw [← hx9] at k0 hx1
          rw [← hz9] at k1 hz1
          have HX := Lib.hid hx9
          have HZ := Lib.hid hz9
          clear hx9 hz9
          unfold I64 at hx1
          have c_0 : wr.cell? ⟨B, 0, none⟩ = some (a) := o_c'.cell 0
          have c_1 : wr.cell? ⟨B, 1, none⟩ = some (.slice A0 C.toks.length c0) := o_c'.cell 1
          have c_2 : wr.cell? ⟨B, 2, none⟩ = some (x) := o_c'.cell 2
          have c_3 : wr.cell? ⟨B, 3, none⟩ = some (r) := o_c'.cell 3
          have c_4 : wr.cell? ⟨B, 4, none⟩ = some (n) := o_c'.cell 4
          have c_5 : wr.cell? ⟨B, 5, none⟩ = some (.slice (some ⟨b, off, none⟩) C.heads.length c) := o_c'.cell 5
          have c_6 : wr.cell? ⟨B, 6, none⟩ = some (.slice (some ⟨b2, off2, none⟩) C.rels.length c2) := o_c'.cell 6
          go_upto_region 9 with (fail)
          go_cut [62] (fun s62 wx => ∃ bb : Bool, s62 = .bool bb ∧ Hid (bb = false → x9 = -1 ∨ (0 ≤ x9 ∧ x9 < (C.heads.length : Int) ∧ placeI (C.texts.findIdx? (atP x9)) = placeI (C.texts.findIdx? (atP (j : Int))))) ∧ Below wr.heap.size wr wx)
          case first =>
            rcases (show x9 = -1 ∨ (x9 ≠ -1 ∧ x9 < 0) ∨ (x9 ≠ -1 ∧ 0 ≤ x9 ∧ (C.heads.length : Int) ≤ x9) ∨ (x9 ≠ -1 ∧ 0 ≤ x9 ∧ x9 < (C.heads.length : Int)) by omega) with hc | hc | hc | hc
            · have HR9 : Hid (x9 = -1) := hc
              have me : ((x9 : Int) == (-1 : Int)) = true := beq_iff_eq.2 (by omega)
              have md : ((x9 : Int) != (-1 : Int)) = false := by rw [bne_eq_false_iff_eq]; omega
              clear hc
              refine wp_reg_f [some 43, some 44, some 45, some 46, some 47, some 48, some 49, some 50, some 51, some 52, some 53, some 54, some 55, some 56, some 57, some 58, some 59, some 60, some 61, some 62] [?v1_0, ?v1_1, ?v1_2, ?v1_3, ?v1_4, ?v1_5, ?v1_6, ?v1_7, ?v1_8, ?v1_9, ?v1_10, ?v1_11, ?v1_12, ?v1_13, ?v1_14, ?v1_15, ?v1_16, ?v1_17, ?v1_18, ?v1_19] [[], [0], [1], [2], [2, 3], [2, 4], [5], [5], [5, 6, 7], [2, 5, 8], [2, 9], [10], [10], [10, 11, 12], [10], [10], [10, 14, 15], [10, 13, 16], [2, 10, 17], [2, 18]] [(1, _), (4, _), (5, _), (6, _)] ⟨rfl, rfl, rfl, rfl, trivial⟩ rfl (by kernel_rfl) rfl rfl (by kernel_rfl) (by kernel_rfl) ⟨?s1_0, ?s1_1, ?s1_2, ?s1_3, ?s1_4, ?s1_5, ?s1_6, ?s1_7, ?s1_8, ?s1_9, ?s1_10, ?s1_11, ?s1_12, ?s1_13, ?s1_14, ?s1_15, ?s1_16, ?s1_17, ?s1_18, ?s1_19, trivial⟩ ?p1
              all_goals try (intro t9 w9 hT9 K9 hK9; simp only [OV, FV, List.getD_cons_succ, List.getD_cons_zero, Option.getD_some]; intros)
              case s1_0 | s1_1 | s1_2 | s1_3 | s1_4 | s1_5 | s1_6 | s1_7 | s1_8 | s1_9 | s1_10 | s1_11 | s1_12 | s1_13 | s1_14 | s1_15 | s1_16 | s1_17 | s1_18 | s1_19 =>
                have d9_0 := grow_cell hT9 c_0; have d9_1 := grow_cell hT9 c_1; have d9_2 := grow_cell hT9 c_2; have d9_3 := grow_cell hT9 c_3; have d9_4 := grow_cell hT9 c_4; have d9_5 := grow_cell hT9 c_5; have d9_6 := grow_cell hT9 c_6
                go_simp
                exact hK9 _ (Grow.refl _)
              intro w9 hb9
              simp only [putL, Act.put, List.setIfInBounds_toArray, List.set_cons_succ, List.set_cons_zero]
              go_wp2_with fail
              go_meet
              exact ⟨false, rfl, (fun _ => .inl HR9.out), hb9⟩
            · skip
              have me : ((x9 : Int) == (-1 : Int)) = false := beq_eq_false_iff_ne.2 (by omega)
              have md : ((x9 : Int) != (-1 : Int)) = true := by rw [bne_iff_ne]; omega
              have m1 : decide (x9 < 0) = true := decide_eq_true (by omega)
              clear hc
              refine wp_reg_f [some 43, some 44, some 45, some 46, some 47, some 48, some 49, some 50, some 51, some 52, some 53, some 54, some 55, some 56, some 57, some 58, some 59, some 60, some 61, some 62] [?v2_0, ?v2_1, ?v2_2, ?v2_3, ?v2_4, ?v2_5, ?v2_6, ?v2_7, ?v2_8, ?v2_9, ?v2_10, ?v2_11, ?v2_12, ?v2_13, ?v2_14, ?v2_15, ?v2_16, ?v2_17, ?v2_18, ?v2_19] [[], [0], [1], [2], [2, 3], [2, 4], [5], [5], [5, 6, 7], [2, 5, 8], [2, 9], [10], [10], [10, 11, 12], [10], [10], [10, 14, 15], [10, 13, 16], [2, 10, 17], [2, 18]] [(1, _), (4, _), (5, _), (6, _)] ⟨rfl, rfl, rfl, rfl, trivial⟩ rfl (by kernel_rfl) rfl rfl (by kernel_rfl) (by kernel_rfl) ⟨?s2_0, ?s2_1, ?s2_2, ?s2_3, ?s2_4, ?s2_5, ?s2_6, ?s2_7, ?s2_8, ?s2_9, ?s2_10, ?s2_11, ?s2_12, ?s2_13, ?s2_14, ?s2_15, ?s2_16, ?s2_17, ?s2_18, ?s2_19, trivial⟩ ?p2
              all_goals try (intro t9 w9 hT9 K9 hK9; simp only [OV, FV, List.getD_cons_succ, List.getD_cons_zero, Option.getD_some]; intros)
              case s2_0 | s2_1 | s2_2 | s2_3 | s2_4 | s2_5 | s2_6 | s2_7 | s2_8 | s2_9 | s2_10 | s2_11 | s2_12 | s2_13 | s2_14 | s2_15 | s2_16 | s2_17 | s2_18 | s2_19 =>
                have d9_0 := grow_cell hT9 c_0; have d9_1 := grow_cell hT9 c_1; have d9_2 := grow_cell hT9 c_2; have d9_3 := grow_cell hT9 c_3; have d9_4 := grow_cell hT9 c_4; have d9_5 := grow_cell hT9 c_5; have d9_6 := grow_cell hT9 c_6
                go_simp
                exact hK9 _ (Grow.refl _)
              intro w9 hb9
              simp only [putL, Act.put, List.setIfInBounds_toArray, List.set_cons_succ, List.set_cons_zero]
              go_wp2_with fail
              go_meet
              exact ⟨true, rfl, (fun h => nomatch h), hb9⟩
            · skip
              have me : ((x9 : Int) == (-1 : Int)) = false := beq_eq_false_iff_ne.2 (by omega)
              have md : ((x9 : Int) != (-1 : Int)) = true := by rw [bne_iff_ne]; omega
              have m1 : decide (x9 < 0) = false := decide_eq_false (by omega)
              have m2 : decide ((C.heads.length : Int) ≤ x9) = true := decide_eq_true (by omega)
              clear hc
              refine wp_reg_f [some 43, some 44, some 45, some 46, some 47, some 48, some 49, some 50, some 51, some 52, some 53, some 54, some 55, some 56, some 57, some 58, some 59, some 60, some 61, some 62] [?v3_0, ?v3_1, ?v3_2, ?v3_3, ?v3_4, ?v3_5, ?v3_6, ?v3_7, ?v3_8, ?v3_9, ?v3_10, ?v3_11, ?v3_12, ?v3_13, ?v3_14, ?v3_15, ?v3_16, ?v3_17, ?v3_18, ?v3_19] [[], [0], [1], [2], [2, 3], [2, 4], [5], [5], [5, 6, 7], [2, 5, 8], [2, 9], [10], [10], [10, 11, 12], [10], [10], [10, 14, 15], [10, 13, 16], [2, 10, 17], [2, 18]] [(1, _), (4, _), (5, _), (6, _)] ⟨rfl, rfl, rfl, rfl, trivial⟩ rfl (by kernel_rfl) rfl rfl (by kernel_rfl) (by kernel_rfl) ⟨?s3_0, ?s3_1, ?s3_2, ?s3_3, ?s3_4, ?s3_5, ?s3_6, ?s3_7, ?s3_8, ?s3_9, ?s3_10, ?s3_11, ?s3_12, ?s3_13, ?s3_14, ?s3_15, ?s3_16, ?s3_17, ?s3_18, ?s3_19, trivial⟩ ?p3
              all_goals try (intro t9 w9 hT9 K9 hK9; simp only [OV, FV, List.getD_cons_succ, List.getD_cons_zero, Option.getD_some]; intros)
              case s3_0 | s3_1 | s3_2 | s3_3 | s3_4 | s3_5 | s3_6 | s3_7 | s3_8 | s3_9 | s3_10 | s3_11 | s3_12 | s3_13 | s3_14 | s3_15 | s3_16 | s3_17 | s3_18 | s3_19 =>
                have d9_0 := grow_cell hT9 c_0; have d9_1 := grow_cell hT9 c_1; have d9_2 := grow_cell hT9 c_2; have d9_3 := grow_cell hT9 c_3; have d9_4 := grow_cell hT9 c_4; have d9_5 := grow_cell hT9 c_5; have d9_6 := grow_cell hT9 c_6
                go_simp
                exact hK9 _ (Grow.refl _)
              intro w9 hb9
              simp only [putL, Act.put, List.setIfInBounds_toArray, List.set_cons_succ, List.set_cons_zero]
              go_wp2_with fail
              go_meet
              exact ⟨true, rfl, (fun h => nomatch h), hb9⟩
            · have HR9 : Hid (0 ≤ x9 ∧ x9 < (C.heads.length : Int)) := hc.2
              have me : ((x9 : Int) == (-1 : Int)) = false := beq_eq_false_iff_ne.2 (by omega)
              have md : ((x9 : Int) != (-1 : Int)) = true := by rw [bne_iff_ne]; omega
              have m1 : decide (x9 < 0) = false := decide_eq_false (by omega)
              have m2 : decide ((C.heads.length : Int) ≤ x9) = false := decide_eq_false (by omega)
              clear hc
              have HQ1 := Lib.hid (fun W hb => textAt6_grow x9 wr W qr hb)
              have HQ2 := Lib.hid (fun W hb => textAt6_grow (j : Int) wr W qr hb)
              generalize hp1 : placeI (C.texts.findIdx? (atP x9)) = p1 at HQ1
              generalize hp2 : placeI (C.texts.findIdx? (atP (j : Int))) = p2 at HQ2
              have HP1 := Lib.hid hp1
              have HP2 := Lib.hid hp2
              by_cases hpp : p1 = p2
              · have HR8 : Hid (p1 = p2) := hpp
                have oe : ((p1 : Int) == (p2 : Int)) = true := beq_iff_eq.2 (by omega)
                have od : ((p1 : Int) != (p2 : Int)) = false := by rw [bne_eq_false_iff_eq]; omega
                clear hpp hp1 hp2
                refine wp_reg_f [some 43, some 44, some 45, some 46, some 47, some 48, some 49, some 50, some 51, some 52, some 53, some 54, some 55, some 56, some 57, some 58, some 59, some 60, some 61, some 62] [?v4_0, ?v4_1, ?v4_2, ?v4_3, ?v4_4, ?v4_5, ?v4_6, ?v4_7, ?v4_8, ?v4_9, ?v4_10, ?v4_11, ?v4_12, ?v4_13, ?v4_14, ?v4_15, ?v4_16, ?v4_17, ?v4_18, ?v4_19] [[], [0], [1], [2], [2, 3], [2, 4], [5], [5], [5, 6, 7], [2, 5, 8], [2, 9], [10], [10], [10, 11, 12], [10], [10], [10, 14, 15], [10, 13, 16], [2, 10, 17], [2, 18]] [(1, _), (4, _), (5, _), (6, _)] ⟨rfl, rfl, rfl, rfl, trivial⟩ rfl (by kernel_rfl) rfl rfl (by kernel_rfl) (by kernel_rfl) ⟨?s4_0, ?s4_1, ?s4_2, ?s4_3, ?s4_4, ?s4_5, ?s4_6, ?s4_7, ?s4_8, ?s4_9, ?s4_10, ?s4_11, ?s4_12, ?s4_13, ?s4_14, ?s4_15, ?s4_16, ?s4_17, ?s4_18, ?s4_19, trivial⟩ ?p4
                all_goals try (intro t9 w9 hT9 K9 hK9; simp only [OV, FV, List.getD_cons_succ, List.getD_cons_zero, Option.getD_some]; intros)
                case s4_0 | s4_1 | s4_2 | s4_3 | s4_4 | s4_5 | s4_6 | s4_7 | s4_8 | s4_9 | s4_10 | s4_11 | s4_12 =>
                  have d9_0 := grow_cell hT9 c_0; have d9_1 := grow_cell hT9 c_1; have d9_2 := grow_cell hT9 c_2; have d9_3 := grow_cell hT9 c_3; have d9_4 := grow_cell hT9 c_4; have d9_5 := grow_cell hT9 c_5; have d9_6 := grow_cell hT9 c_6
                  go_simp
                  exact hK9 _ (Grow.refl _)
                case s4_13 =>
                  go_simp
                  first | exact hK9 _ (Grow.refl _) | (refine (HQ1.out _ hT9.of_drew).mono ?_; rintro _ w8 ⟨rfl, hb8⟩; exact hK9 _ hb8)
                case s4_14 | s4_15 =>
                  have d9_0 := grow_cell hT9 c_0; have d9_1 := grow_cell hT9 c_1; have d9_2 := grow_cell hT9 c_2; have d9_3 := grow_cell hT9 c_3; have d9_4 := grow_cell hT9 c_4; have d9_5 := grow_cell hT9 c_5; have d9_6 := grow_cell hT9 c_6
                  go_simp
                  exact hK9 _ (Grow.refl _)
                case s4_16 =>
                  go_simp
                  first | exact hK9 _ (Grow.refl _) | (refine (HQ2.out _ hT9.of_drew).mono ?_; rintro _ w8 ⟨rfl, hb8⟩; exact hK9 _ hb8)
                case s4_17 | s4_18 | s4_19 =>
                  have d9_0 := grow_cell hT9 c_0; have d9_1 := grow_cell hT9 c_1; have d9_2 := grow_cell hT9 c_2; have d9_3 := grow_cell hT9 c_3; have d9_4 := grow_cell hT9 c_4; have d9_5 := grow_cell hT9 c_5; have d9_6 := grow_cell hT9 c_6
                  go_simp
                  exact hK9 _ (Grow.refl _)
                intro w9 hb9
                simp only [putL, Act.put, List.setIfInBounds_toArray, List.set_cons_succ, List.set_cons_zero]
                go_wp2_with fail
                go_meet
                exact ⟨false, rfl, (fun _ => .inr ⟨HR9.out.1, HR9.out.2, by rw [HP1.out, HP2.out]; exact HR8.out⟩), hb9⟩
              · skip
                have oe : ((p1 : Int) == (p2 : Int)) = false := beq_eq_false_iff_ne.2 (by omega)
                have od : ((p1 : Int) != (p2 : Int)) = true := by rw [bne_iff_ne]; omega
                clear hpp hp1 hp2
                refine wp_reg_f [some 43, some 44, some 45, some 46, some 47, some 48, some 49, some 50, some 51, some 52, some 53, some 54, some 55, some 56, some 57, some 58, some 59, some 60, some 61, some 62] [?v5_0, ?v5_1, ?v5_2, ?v5_3, ?v5_4, ?v5_5, ?v5_6, ?v5_7, ?v5_8, ?v5_9, ?v5_10, ?v5_11, ?v5_12, ?v5_13, ?v5_14, ?v5_15, ?v5_16, ?v5_17, ?v5_18, ?v5_19] [[], [0], [1], [2], [2, 3], [2, 4], [5], [5], [5, 6, 7], [2, 5, 8], [2, 9], [10], [10], [10, 11, 12], [10], [10], [10, 14, 15], [10, 13, 16], [2, 10, 17], [2, 18]] [(1, _), (4, _), (5, _), (6, _)] ⟨rfl, rfl, rfl, rfl, trivial⟩ rfl (by kernel_rfl) rfl rfl (by kernel_rfl) (by kernel_rfl) ⟨?s5_0, ?s5_1, ?s5_2, ?s5_3, ?s5_4, ?s5_5, ?s5_6, ?s5_7, ?s5_8, ?s5_9, ?s5_10, ?s5_11, ?s5_12, ?s5_13, ?s5_14, ?s5_15, ?s5_16, ?s5_17, ?s5_18, ?s5_19, trivial⟩ ?p5
                all_goals try (intro t9 w9 hT9 K9 hK9; simp only [OV, FV, List.getD_cons_succ, List.getD_cons_zero, Option.getD_some]; intros)
                case s5_0 | s5_1 | s5_2 | s5_3 | s5_4 | s5_5 | s5_6 | s5_7 | s5_8 | s5_9 | s5_10 | s5_11 | s5_12 =>
                  have d9_0 := grow_cell hT9 c_0; have d9_1 := grow_cell hT9 c_1; have d9_2 := grow_cell hT9 c_2; have d9_3 := grow_cell hT9 c_3; have d9_4 := grow_cell hT9 c_4; have d9_5 := grow_cell hT9 c_5; have d9_6 := grow_cell hT9 c_6
                  go_simp
                  exact hK9 _ (Grow.refl _)
                case s5_13 =>
                  go_simp
                  first | exact hK9 _ (Grow.refl _) | (refine (HQ1.out _ hT9.of_drew).mono ?_; rintro _ w8 ⟨rfl, hb8⟩; exact hK9 _ hb8)
                case s5_14 | s5_15 =>
                  have d9_0 := grow_cell hT9 c_0; have d9_1 := grow_cell hT9 c_1; have d9_2 := grow_cell hT9 c_2; have d9_3 := grow_cell hT9 c_3; have d9_4 := grow_cell hT9 c_4; have d9_5 := grow_cell hT9 c_5; have d9_6 := grow_cell hT9 c_6
                  go_simp
                  exact hK9 _ (Grow.refl _)
                case s5_16 =>
                  go_simp
                  first | exact hK9 _ (Grow.refl _) | (refine (HQ2.out _ hT9.of_drew).mono ?_; rintro _ w8 ⟨rfl, hb8⟩; exact hK9 _ hb8)
                case s5_17 | s5_18 | s5_19 =>
                  have d9_0 := grow_cell hT9 c_0; have d9_1 := grow_cell hT9 c_1; have d9_2 := grow_cell hT9 c_2; have d9_3 := grow_cell hT9 c_3; have d9_4 := grow_cell hT9 c_4; have d9_5 := grow_cell hT9 c_5; have d9_6 := grow_cell hT9 c_6
                  go_simp
                  exact hK9 _ (Grow.refl _)
                intro w9 hb9
                simp only [putL, Act.put, List.setIfInBounds_toArray, List.set_cons_succ, List.set_cons_zero]
                go_wp2_with fail
                go_meet
                exact ⟨true, rfl, (fun h => nomatch h), hb9⟩
          case rest =>
            obtain ⟨bb, rfl, HR9, hb9⟩ := hcut
            replace o_c' := o_c'.below hb9 (by omega)
            replace hbB := belowB hbB (by omega) hb9
            replace hbr := belowB hbr (by omega) hb9
            have hs9 := hb9.size
            replace qr := qr.below hb9
            replace k1 := below_cell hb9 k1
            clear hb9 k0 c_0 c_1 c_2 c_3 c_4 c_5 c_6
            obtain ⟨wp, hwp⟩ : ∃ wp : World, wp = wc := ⟨_, rfl⟩
            rw [← hwp] at o_c' hbB hbr hs9 qr k1 ⊢
            clear hwp
            cases bb
            · skip
              have c_5 : wp.cell? ⟨B, 5, none⟩ = some (.slice (some ⟨b, off, none⟩) C.heads.length c) := o_c'.cell 5
              have c_6 : wp.cell? ⟨B, 6, none⟩ = some (.slice (some ⟨b2, off2, none⟩) C.rels.length c2) := o_c'.cell 6
              have HCY := Lib.hid (fun W hb => cyclic6_any W ((qr.below hb).h) j hlt)
              have HVN := Lib.hid (fun W => validName4_any z9 hz1 W)
              go_upto_region 11 with (fail)
              go_cut [78] (fun s78 wx => ∃ bb : Bool, s78 = .bool bb ∧ Hid (bb = false → z9 = ⟨#[]⟩ ∨ NameOK z9) ∧ wx = wp)
              case first =>
                by_cases e2 : z9 = ⟨#[]⟩
                · have HZ2 : Hid (z9 = ⟨#[]⟩) := e2
                  have d1 : (z9.toList == []) = true := by rw [e2, ByteArray.toList_eq]; rfl
                  have d2 : (z9.toList != []) = false := by rw [e2, ByteArray.toList_eq]; rfl
                  have d3 : z9.toList = [] := by rw [e2, ByteArray.toList_eq]
                  have d4 : z9.toList.isEmpty = true := by rw [e2, ByteArray.toList_eq]; rfl
                  clear e2
                  go_wp2_with fail
                  go_meet
                  exact ⟨false, rfl, (fun _ => .inl HZ2.out), rfl⟩
                · have d0 : z9.toList ≠ [] := fun e => e2 (bytes_ext (by rw [← ByteArray.toList_eq, e]))
                  have d1 : (z9.toList == []) = false := beq_eq_false_iff_ne.2 d0
                  have d2 : (z9.toList != []) = true := by rw [bne_iff_ne]; exact d0
                  clear e2
                  go_wp2_with fail
                  refine (HVN.out _).mono ?_
                  rintro e w9 ⟨⟨bn, rfl, hbn⟩, rfl⟩
                  have HBN := Lib.hid hbn
                  clear hbn
                  cases bn
                  · go_wp2_with fail
                    go_meet
                    exact ⟨true, rfl, (fun h => nomatch h), rfl⟩
                  · go_wp2_with fail
                    go_meet
                    exact ⟨false, rfl, (fun _ => .inr (HBN.out.1 (by trivial))), rfl⟩
              case rest =>
                obtain ⟨bb, rfl, HR8, rfl⟩ := hcut
                cases bb
                · go_wp2_with fail
                  refine (HCY.out _ (Below.refl _ _)).mono ?_
                  rintro e w9 ⟨⟨bn, rfl, hbn⟩, rfl⟩
                  have HBN := Lib.hid hbn
                  clear hbn
                  cases bn
                  · go_wp2
                    go_roundg (C.heads.length + 1 - (j + 1))
                    case measure => omega
                    case rel => exact ⟨j + 1, rfl, by omega, by go_num, HE.out.step hlt hlr HX.out HZ.out (HR9.out (by trivial)) (HR8.out (by trivial)) (fun h => by have := HBN.out.2 h; simp at this), hbr⟩
                  · go_wp2
                    go_ret2
                    exact ⟨RetII.no (by decide), HB.out ▸ hbB⟩
                · go_wp2
                  go_ret2
                  exact ⟨RetII.no (by decide), HB.out ▸ hbB⟩
            · go_wp2
              go_ret2
              exact ⟨RetII.no (by decide), HB.out ▸ hbB⟩
        · go_wp2
          go_ret2
          exact ⟨RetII.yes ⟨HSM.out, .inr HMN.out, (fun _ h => by have := HBB.out.2 h; simp at this), (show j = C.heads.length by omega) ▸ HE.out⟩, HB.out ▸ hbB⟩
    · go_wp2
      go_ret2
      exact ⟨RetII.no (by decide), HB.out ▸ hbw⟩
/-- A valid corpus. -/
structure ValidC (C : Cor) : Prop where
  attrs : AttrsOK C.attrs
  toks : ToksOK C
  texts : TextsOK C
  regs : RegsOK C
  nodes : NodesOK C C.nodes
  heads : HeadsOK C
def RetIII (P : Prop) (e : Ending) : Prop := ∃ p i k : Int, e = .returned (.tuple #[.int .i64 p, .int .i64 i, .int .i64 k]) ∧ (k = 0 → P)
theorem RetIII.no {P : Prop} {p i k : Int} (hk : k ≠ 0) : RetIII P (.returned (.tuple #[.int .i64 p, .int .i64 i, .int .i64 k])) := ⟨p, i, k, rfl, fun h => absurd h hk⟩
theorem RetIII.yes {P : Prop} {p i : Int} (h : P) : RetIII P (.returned (.tuple #[.int .i64 p, .int .i64 i, .int .i64 0])) := ⟨p, i, 0, rfl, fun _ => h⟩
set_option maxRecDepth 100000 in
set_option maxHeartbeats 4000000 in
theorem validate6_any {S : Nat → Prop} {a t x r n h s : Value} {C : Cor} (w : World) (q : CorC S w a t x r n h s C) :
    Calls Tryz.prog 25 #[.agg #[a, t, x, r, n, h, s]] w fun e w' => RetIII (ValidC C) e ∧ Below w.heap.size w w' := by
  obtain ⟨o_c, hbw⟩ := new1 w [a, t, x, r, n, h, s] 30
  have q' := q.below hbw
  have hsz : (w.alloc (.cells #[a, t, x, r, n, h, s] 30)).heap.size = w.heap.size + 1 := by simp
  go_enter Tryz.func25, Tryz.ntmps25
  go_upto_region 1 with (fail)
  generalize (w.alloc (.cells #[a, t, x, r, n, h, s] 30)) = wb at o_c hbw hsz q' ⊢
  obtain ⟨B, hB⟩ : ∃ B, B = w.heap.size := ⟨_, rfl⟩
  rw [← hB] at o_c hsz hbw ⊢
  have HB := Lib.hid hB
  clear hB
  clear q
  have c_0 : wb.cell? ⟨B, 0, none⟩ = some (a) := o_c.cell 0
  have c_1 : wb.cell? ⟨B, 1, none⟩ = some (t) := o_c.cell 1
  have c_2 : wb.cell? ⟨B, 2, none⟩ = some (x) := o_c.cell 2
  have c_3 : wb.cell? ⟨B, 3, none⟩ = some (r) := o_c.cell 3
  have c_4 : wb.cell? ⟨B, 4, none⟩ = some (n) := o_c.cell 4
  have c_5 : wb.cell? ⟨B, 5, none⟩ = some (h) := o_c.cell 5
  have c_6 : wb.cell? ⟨B, 6, none⟩ = some (s) := o_c.cell 6
  go_wp2_with fail
  refine (attrs6_any _ q'.a).mono ?_
  rintro e w0 ⟨⟨i0, k0, rfl, hk0⟩, hb0⟩
  replace o_c := o_c.below hb0 (by omega)
  replace hbw := belowB hbw (by omega) hb0
  have hs0 := hb0.size
  replace q' := q'.below hb0
  clear hb0 c_0 c_1 c_2 c_3 c_4 c_5 c_6
  by_cases z0 : k0 = 0
  · skip
    subst z0
    have V0 := Lib.hid (hk0 rfl)
    clear hk0
    have c_0 : w0.cell? ⟨B, 0, none⟩ = some (a) := o_c.cell 0
    have c_1 : w0.cell? ⟨B, 1, none⟩ = some (t) := o_c.cell 1
    have c_2 : w0.cell? ⟨B, 2, none⟩ = some (x) := o_c.cell 2
    have c_3 : w0.cell? ⟨B, 3, none⟩ = some (r) := o_c.cell 3
    have c_4 : w0.cell? ⟨B, 4, none⟩ = some (n) := o_c.cell 4
    have c_5 : w0.cell? ⟨B, 5, none⟩ = some (h) := o_c.cell 5
    have c_6 : w0.cell? ⟨B, 6, none⟩ = some (s) := o_c.cell 6
    go_wp2_with fail
    refine (tokens6_any _ q').mono ?_
    rintro e w1 ⟨⟨i1, k1, rfl, hk1⟩, hb1⟩
    replace o_c := o_c.below hb1 (by omega)
    replace hbw := belowB hbw (by omega) hb1
    have hs1 := hb1.size
    replace q' := q'.below hb1
    clear hb1 c_0 c_1 c_2 c_3 c_4 c_5 c_6
    by_cases z1 : k1 = 0
    · skip
      subst z1
      have V1 := Lib.hid (hk1 rfl)
      clear hk1
      have c_0 : w1.cell? ⟨B, 0, none⟩ = some (a) := o_c.cell 0
      have c_1 : w1.cell? ⟨B, 1, none⟩ = some (t) := o_c.cell 1
      have c_2 : w1.cell? ⟨B, 2, none⟩ = some (x) := o_c.cell 2
      have c_3 : w1.cell? ⟨B, 3, none⟩ = some (r) := o_c.cell 3
      have c_4 : w1.cell? ⟨B, 4, none⟩ = some (n) := o_c.cell 4
      have c_5 : w1.cell? ⟨B, 5, none⟩ = some (h) := o_c.cell 5
      have c_6 : w1.cell? ⟨B, 6, none⟩ = some (s) := o_c.cell 6
      go_wp2_with fail
      refine (texts6_any _ q').mono ?_
      rintro e w2 ⟨⟨i2, k2, rfl, hk2⟩, hb2⟩
      replace o_c := o_c.below hb2 (by omega)
      replace hbw := belowB hbw (by omega) hb2
      have hs2 := hb2.size
      replace q' := q'.below hb2
      clear hb2 c_0 c_1 c_2 c_3 c_4 c_5 c_6
      by_cases z2 : k2 = 0
      · skip
        subst z2
        have V2 := Lib.hid (hk2 rfl)
        clear hk2
        have c_0 : w2.cell? ⟨B, 0, none⟩ = some (a) := o_c.cell 0
        have c_1 : w2.cell? ⟨B, 1, none⟩ = some (t) := o_c.cell 1
        have c_2 : w2.cell? ⟨B, 2, none⟩ = some (x) := o_c.cell 2
        have c_3 : w2.cell? ⟨B, 3, none⟩ = some (r) := o_c.cell 3
        have c_4 : w2.cell? ⟨B, 4, none⟩ = some (n) := o_c.cell 4
        have c_5 : w2.cell? ⟨B, 5, none⟩ = some (h) := o_c.cell 5
        have c_6 : w2.cell? ⟨B, 6, none⟩ = some (s) := o_c.cell 6
        go_wp2_with fail
        refine (regions6_any _ q').mono ?_
        rintro e w3 ⟨⟨i3, k3, rfl, hk3⟩, hb3⟩
        replace o_c := o_c.below hb3 (by omega)
        replace hbw := belowB hbw (by omega) hb3
        have hs3 := hb3.size
        replace q' := q'.below hb3
        clear hb3 c_0 c_1 c_2 c_3 c_4 c_5 c_6
        by_cases z3 : k3 = 0
        · skip
          subst z3
          have V3 := Lib.hid (hk3 rfl)
          clear hk3
          have c_0 : w3.cell? ⟨B, 0, none⟩ = some (a) := o_c.cell 0
          have c_1 : w3.cell? ⟨B, 1, none⟩ = some (t) := o_c.cell 1
          have c_2 : w3.cell? ⟨B, 2, none⟩ = some (x) := o_c.cell 2
          have c_3 : w3.cell? ⟨B, 3, none⟩ = some (r) := o_c.cell 3
          have c_4 : w3.cell? ⟨B, 4, none⟩ = some (n) := o_c.cell 4
          have c_5 : w3.cell? ⟨B, 5, none⟩ = some (h) := o_c.cell 5
          have c_6 : w3.cell? ⟨B, 6, none⟩ = some (s) := o_c.cell 6
          go_wp2_with fail
          refine (nodes6_any _ q' q'.n).mono ?_
          rintro e w4 ⟨⟨i4, k4, rfl, hk4⟩, hb4⟩
          replace o_c := o_c.below hb4 (by omega)
          replace hbw := belowB hbw (by omega) hb4
          have hs4 := hb4.size
          replace q' := q'.below hb4
          clear hb4 c_0 c_1 c_2 c_3 c_4 c_5 c_6
          by_cases z4 : k4 = 0
          · skip
            subst z4
            have V4 := Lib.hid (hk4 rfl)
            clear hk4
            have c_0 : w4.cell? ⟨B, 0, none⟩ = some (a) := o_c.cell 0
            have c_1 : w4.cell? ⟨B, 1, none⟩ = some (t) := o_c.cell 1
            have c_2 : w4.cell? ⟨B, 2, none⟩ = some (x) := o_c.cell 2
            have c_3 : w4.cell? ⟨B, 3, none⟩ = some (r) := o_c.cell 3
            have c_4 : w4.cell? ⟨B, 4, none⟩ = some (n) := o_c.cell 4
            have c_5 : w4.cell? ⟨B, 5, none⟩ = some (h) := o_c.cell 5
            have c_6 : w4.cell? ⟨B, 6, none⟩ = some (s) := o_c.cell 6
            go_wp2_with fail
            refine (heads6_any _ q').mono ?_
            rintro e w5 ⟨⟨i5, k5, rfl, hk5⟩, hb5⟩
            replace o_c := o_c.below hb5 (by omega)
            replace hbw := belowB hbw (by omega) hb5
            have hs5 := hb5.size
            replace q' := q'.below hb5
            clear hb5 c_0 c_1 c_2 c_3 c_4 c_5 c_6
            by_cases z5 : k5 = 0
            · skip
              subst z5
              have V5 := Lib.hid (hk5 rfl)
              clear hk5
              go_wp2
              go_ret3
              exact ⟨RetIII.yes ⟨V0.out, V1.out, V2.out, V3.out, V4.out, V5.out⟩, HB.out ▸ hbw⟩
            · obtain ⟨d1, d2⟩ := ne0 z5
              have HKK := Lib.hid z5
              clear hk5 z5
              go_wp2
              go_ret3
              exact ⟨RetIII.no HKK.out, HB.out ▸ hbw⟩
          · obtain ⟨d1, d2⟩ := ne0 z4
            have HKK := Lib.hid z4
            clear hk4 z4
            go_wp2
            go_ret3
            exact ⟨RetIII.no HKK.out, HB.out ▸ hbw⟩
        · obtain ⟨d1, d2⟩ := ne0 z3
          have HKK := Lib.hid z3
          clear hk3 z3
          go_wp2
          go_ret3
          exact ⟨RetIII.no HKK.out, HB.out ▸ hbw⟩
      · obtain ⟨d1, d2⟩ := ne0 z2
        have HKK := Lib.hid z2
        clear hk2 z2
        go_wp2
        go_ret3
        exact ⟨RetIII.no HKK.out, HB.out ▸ hbw⟩
    · obtain ⟨d1, d2⟩ := ne0 z1
      have HKK := Lib.hid z1
      clear hk1 z1
      go_wp2
      go_ret3
      exact ⟨RetIII.no HKK.out, HB.out ▸ hbw⟩
  · obtain ⟨d1, d2⟩ := ne0 z0
    have HKK := Lib.hid z0
    clear hk0 z0
    go_wp2
    go_ret3
    exact ⟨RetIII.no HKK.out, HB.out ▸ hbw⟩
/-- Says that P holds only where it does. -/
def RetBI (P : Prop) (e : Ending) : Prop := ∃ b : Bool, e = .returned (.bool b) ∧ (b = true → P)
set_option maxRecDepth 100000 in
set_option maxHeartbeats 4000000 in
theorem valid6_any {S : Nat → Prop} {a t x r n h s : Value} {C : Cor} (w : World) (q : CorC S w a t x r n h s C) :
    Calls Tryz.prog 12 #[.agg #[a, t, x, r, n, h, s]] w fun e w' => RetBI (ValidC C) e ∧ Below w.heap.size w w' := by
  obtain ⟨o_c, hbw⟩ := new1 w [a, t, x, r, n, h, s] 30
  have q' := q.below hbw
  have hsz : (w.alloc (.cells #[a, t, x, r, n, h, s] 30)).heap.size = w.heap.size + 1 := by simp
  go_enter Tryz.func12, Tryz.ntmps12
  go_upto_region 1 with (fail)
  generalize (w.alloc (.cells #[a, t, x, r, n, h, s] 30)) = wb at o_c hbw hsz q' ⊢
  obtain ⟨B, hB⟩ : ∃ B, B = w.heap.size := ⟨_, rfl⟩
  rw [← hB] at o_c hsz hbw ⊢
  have HB := Lib.hid hB
  clear hB
  clear q
  have c_0 : wb.cell? ⟨B, 0, none⟩ = some (a) := o_c.cell 0
  have c_1 : wb.cell? ⟨B, 1, none⟩ = some (t) := o_c.cell 1
  have c_2 : wb.cell? ⟨B, 2, none⟩ = some (x) := o_c.cell 2
  have c_3 : wb.cell? ⟨B, 3, none⟩ = some (r) := o_c.cell 3
  have c_4 : wb.cell? ⟨B, 4, none⟩ = some (n) := o_c.cell 4
  have c_5 : wb.cell? ⟨B, 5, none⟩ = some (h) := o_c.cell 5
  have c_6 : wb.cell? ⟨B, 6, none⟩ = some (s) := o_c.cell 6
  go_wp2_with fail
  refine (validate6_any _ q').mono ?_
  rintro e w1 ⟨⟨p, i, k, rfl, hk⟩, hb1⟩
  have hbw := belowB hbw (by omega) hb1
  by_cases z : k = 0
  · subst z
    have HV := Lib.hid (hk rfl)
    clear hk
    go_wp2
    go_ret
    exact ⟨⟨true, rfl, fun _ => HV.out⟩, HB.out ▸ hbw⟩
  · obtain ⟨d1, d2⟩ := ne0 z
    clear hk z
    go_wp2
    go_ret
    exact ⟨⟨false, rfl, (fun h => nomatch h)⟩, HB.out ▸ hbw⟩
end Go.Proofs.YtfenjklilocjgaaGreatDoor
