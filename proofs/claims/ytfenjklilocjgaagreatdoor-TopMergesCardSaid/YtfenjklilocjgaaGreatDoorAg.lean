/- Parts of the proof: Ag. No condition of its own. -/
import Derived.Test.YtfenjklilocjgaaGreatDoorAs
import Derived.Test.YtfenjklilocjgaaGreatDoorXb
set_option linter.unusedSimpArgs false
set_option linter.unusedVariables false
set_option linter.unusedSectionVars false
namespace Go.Proofs.YtfenjklilocjgaaGreatDoor
set_option linter.unusedSimpArgs false
set_option linter.unusedVariables false
set_option linter.unusedSectionVars false
open Go.RowKit Dg

theorem Chg.own9 {g b : Nat} {T : TypeId} {cs : List Value} {w w' : World} (h : Chg (fun k => k = g) w w') (ho : Own w b T cs) (hne : b ≠ g) : Own w' b T cs := h.own ho hne
theorem Rd.chg9 {g k : Nat} {xs : List Value} {w w' : World} (h : Rd w (some ⟨k, 0, none⟩) xs) (hc : Chg (fun k => k = g) w w') (hne : k ≠ g) : Rd w' (some ⟨k, 0, none⟩) xs := by
  intro j u hu
  obtain ⟨b, off, e, hcell⟩ := h j u hu
  injection e with e; injection e with e1 e2; subst e1 e2
  exact ⟨_, _, rfl, hc.cell hcell hne⟩
theorem ownsRow_weak {w : World} {base base' : Nat} {e : TypeId} {size : Nat} {v : Value} {n : Nat} {xs : List Value} (h : w.ownsRow base e size v n xs) (hb : base' ≤ base) : w.ownsRow base' e size v n xs := by
  obtain ⟨h1, h2⟩ := h
  refine ⟨h1, ?_⟩
  rcases h2 with h2 | ⟨g, cap, cur, e1, e2, e3⟩
  · exact .inl h2
  · exact .inr ⟨g, cap, cur, e1, Nat.le_trans hb e2, e3⟩
set_option maxRecDepth 100000 in
set_option maxHeartbeats 1000000 in
theorem tag_close (g k : Nat) (s : ByteArray) (w : World) (ho : Sc9 w g s 0) (hs : s.size ≤ 1000) (hk : 0 < k) (hk2 : k ≤ 32) (hz : s.size = k + 3) (h0 : (s[0]'(by omega)).toNat = 60) (h1 : (s[1]'(by omega)).toNat = 47) (hl : Low s 2 k) (h2 : (s[2 + k]'(by omega)).toNat = 62) :
    Calls Tryz.prog 120 #[.pointer (some ⟨g, 0, none⟩)] w fun e w' => e = .returned (.agg #[.bool true, .string (s.extract 2 (2 + k)), .slice none 0 0]) ∧ (∃ i, Sc9 w' g s i) ∧ Chg (fun k => k = g) w w' := by
  have hEnd : EndN s (2 + k) := ⟨by omega, by rw [h2]; decide, by rw [h2]; decide⟩
  have HL := Lib.hid (fun w ho => eat_yes g 0 s 60 w ho (by omega) hs (by rw [h0]; rfl))
  have HS := Lib.hid (fun w ho => sees_yes g 1 s 47 w ho (by omega) (by rw [h1]; rfl))
  have HN := Lib.hid (fun w ho => name_yes g 2 k s w ho hs hk hk2 hl hEnd)
  have HG := Lib.hid (fun w ho => eat_yes g (2 + k) s 62 w ho (by omega) hs (by rw [h2]; rfl))
  have HZ := Lib.hid hz
  clear hEnd hs hk hk2 hz h0 h1 hl h2
  obtain ⟨o_r, o_t, hbw⟩ := new2 w [.bool false, .string ⟨#[]⟩, .slice none 0 0] [.bool false, .string ⟨#[]⟩, .slice none 0 0] 126 126
  have hlt := ho.lt
  have o_s := ho.below hbw hlt
  have hch : Chg (fun k => k = g) w ((w.alloc (.cells #[.bool false, .string ⟨#[]⟩, .slice none 0 0] 126)).alloc (.cells #[.bool false, .string ⟨#[]⟩, .slice none 0 0] 126)) := Chg.of_below hbw fun k h1 h2 => by omega
  have hnr : w.heap.size ≠ g := by omega
  have hnt : w.heap.size + 1 ≠ g := by omega
  have hrt : w.heap.size ≠ w.heap.size + 1 := by omega
  clear ho hbw
  go_enter Tryz.func120, Tryz.ntmps120
  go_upto_region 2 with (fail)
  generalize ((w.alloc (.cells #[.bool false, .string ⟨#[]⟩, .slice none 0 0] 126)).alloc (.cells #[.bool false, .string ⟨#[]⟩, .slice none 0 0] 126)) = wb at o_r o_t o_s hch ⊢
  go_wp2_with fail
  refine (HL.out _ o_s).mono ?_
  rintro e w1 ⟨rfl, o_s', hc'⟩
  replace o_r := hc'.own9 o_r hnr
  replace o_t := hc'.own9 o_t hnt
  replace hch := hch.trans hc'
  clear hc' o_s
  have o_s := o_s'
  clear o_s'
  go_wp2_with fail
  refine (HS.out _ o_s).mono ?_
  rintro e w2 ⟨rfl, hb'⟩
  replace o_r := o_r.below hb' o_r.lt
  replace o_t := o_t.below hb' o_t.lt
  replace o_s := o_s.below hb' o_s.lt
  replace hch := hch.bel hb'
  clear hb'
  have p1 : w2.cell? ⟨g, 1, none⟩ = some (.int .i64 1) := o_s.cell 1
  have f1 := o_s.frozen 1
  have qt0 : w2.cell? ⟨w.heap.size + 1, 0, none⟩ = some (.bool false) := o_t.cell 0
  have qt1 : w2.cell? ⟨w.heap.size + 1, 1, none⟩ = some (.string ⟨#[]⟩) := o_t.cell 1
  have qt2 : w2.cell? ⟨w.heap.size + 1, 2, none⟩ = some (.slice none 0 0) := o_t.cell 2
  have ft0 := o_t.frozen 0
  have ft1 := o_t.frozen 1
  have ft2 := o_t.frozen 2
  have zc : (w2.setCell ⟨g, 1, none⟩ (.int .i64 2)).cell? ⟨w.heap.size + 1, 0, none⟩ = some (.bool false) := (o_t.far (p := ⟨g, 1, none⟩) hnt (.int .i64 2)).cell 0
  have zf := (o_t.far (p := ⟨g, 1, none⟩) hnt (.int .i64 2)).frozen 0
  replace o_r := o_r.far (p := ⟨g, 1, none⟩) hnr (.int .i64 2)
  replace o_t := o_t.far (p := ⟨g, 1, none⟩) hnt (.int .i64 2)
  replace o_s : Sc9 (w2.setCell ⟨g, 1, none⟩ (.int .i64 2)) g s 2 := o_s.set_ 1 (.int .i64 2)
  replace hch := hch.setCell (p := ⟨g, 1, none⟩) rfl (.int .i64 2)
  replace o_r := o_r.far (p := ⟨w.heap.size + 1, 0, none⟩) hrt (.bool true)
  replace o_s := o_s.far (p := ⟨w.heap.size + 1, 0, none⟩) (Ne.symm hnt) (.bool true)
  replace hch := hch.fresh9 (g := w.heap.size + 1) (by omega) 0 (.bool true)
  replace o_t : Own ((w2.setCell ⟨g, 1, none⟩ (.int .i64 2)).setCell ⟨w.heap.size + 1, 0, none⟩ (.bool true)) (w.heap.size + 1) 126 [.bool true, .string ⟨#[]⟩, .slice none 0 0] := o_t.set_ 0 (.bool true)
  go_wp2_with fail
  clear qt0 qt1 qt2 ft0 ft1 ft2 zc zf p1 f1
  generalize ((w2.setCell ⟨g, 1, none⟩ (.int .i64 2)).setCell ⟨w.heap.size + 1, 0, none⟩ (.bool true)) = w3 at o_r o_t o_s hch ⊢
  refine (HN.out _ o_s).mono ?_
  rintro e w4 ⟨rfl, o_s', hc'⟩
  replace o_r := hc'.own9 o_r hnr
  replace o_t := hc'.own9 o_t hnt
  replace hch := hch.trans hc'
  clear hc' o_s
  have o_s := o_s'
  clear o_s'
  have qt0 : w4.cell? ⟨w.heap.size + 1, 0, none⟩ = some (.bool true) := o_t.cell 0
  have qt1 : w4.cell? ⟨w.heap.size + 1, 1, none⟩ = some (.string ⟨#[]⟩) := o_t.cell 1
  have qt2 : w4.cell? ⟨w.heap.size + 1, 2, none⟩ = some (.slice none 0 0) := o_t.cell 2
  have ft0 := o_t.frozen 0
  have ft1 := o_t.frozen 1
  have ft2 := o_t.frozen 2
  replace o_r := o_r.far (p := ⟨w.heap.size + 1, 1, none⟩) hrt (.string (s.extract 2 (2 + k)))
  replace o_s := o_s.far (p := ⟨w.heap.size + 1, 1, none⟩) (Ne.symm hnt) (.string (s.extract 2 (2 + k)))
  replace hch := hch.fresh9 (g := w.heap.size + 1) (by omega) 1 (.string (s.extract 2 (2 + k)))
  replace o_t : Own (w4.setCell ⟨w.heap.size + 1, 1, none⟩ (.string (s.extract 2 (2 + k)))) (w.heap.size + 1) 126 [.bool true, .string (s.extract 2 (2 + k)), .slice none 0 0] := o_t.set_ 1 (.string (s.extract 2 (2 + k)))
  have tq : (w4.setCell ⟨w.heap.size + 1, 1, none⟩ (.string (s.extract 2 (2 + k)))).cell? ⟨w.heap.size + 1, 0, none⟩ = some (.bool true) := o_t.cell 0
  go_wp2_with fail
  clear qt0 qt1 qt2 ft0 ft1 ft2
  refine wp_loop_rounds 1 ?_
  rw [rounds_succ]
  go_wp2_with fail
  clear tq
  generalize (w4.setCell ⟨w.heap.size + 1, 1, none⟩ (.string (s.extract 2 (2 + k)))) = w5 at o_r o_t o_s hch ⊢
  go_wp2_with fail
  refine (HG.out _ o_s).mono ?_
  rintro e wg ⟨rfl, o_s', hc'⟩
  replace o_r := hc'.own9 o_r hnr
  replace o_t := hc'.own9 o_t hnt
  replace hch := hch.trans hc'
  clear hc' o_s
  have o_s := o_s'
  clear o_s'
  have p0 : wg.cell? ⟨g, 0, none⟩ = some (.string s) := o_s.cell 0
  have p1 : wg.cell? ⟨g, 1, none⟩ = some (.int .i64 ((2 + k + 1 : Nat) : Int)) := o_s.cell 1
  have te : decide (((2 + k + 1 : Nat) : Int) < (s.size : Int)) = false := decide_eq_false (by have := HZ.out; omega)
  have tf : decide (2 + k + 1 < s.size) = false := decide_eq_false (by have := HZ.out; omega)
  obtain ⟨ze, hze⟩ : ∃ ze : Nat, ze = 2 + k + 1 := ⟨_, rfl⟩
  replace o_s : Sc9 wg g s (2 + k + 1) := o_s
  rw [← hze] at p1 te tf o_s
  clear hze
  go_upto_region 12 with (fail)
  refine wp_reg_f [some 46, some 47, some 48, some 49, some 50, some 51, some 52, some 53, some 54, some 55] [?v2_0, ?v2_1, ?v2_2, ?v2_3, ?v2_4, ?v2_5, ?v2_6, ?v2_7, ?v2_8, ?v2_9] [[], [0], [1], [2], [], [4], [5], [6], [7], [3, 8]] [(0, _)] ⟨rfl, trivial⟩ rfl (by kernel_rfl) rfl rfl (by kernel_rfl) (by kernel_rfl) ⟨?s2_0, ?s2_1, ?s2_2, ?s2_3, ?s2_4, ?s2_5, ?s2_6, ?s2_7, ?s2_8, ?s2_9, trivial⟩ ?p2
  all_goals try (intro t9 w9 hT9 K9 hK9; simp only [OV, FV, List.getD_cons_succ, List.getD_cons_zero, Option.getD_some]; intros)
  case s2_0 | s2_1 | s2_2 | s2_3 | s2_4 | s2_5 | s2_6 | s2_7 | s2_8 | s2_9 =>
    have d9_0 := grow_cell hT9 p0; have d9_1 := grow_cell hT9 p1
    go_simp
    exact hK9 _ (Grow.refl _)
  intro w9 hb9
  simp only [putL, Act.put, List.setIfInBounds_toArray, List.set_cons_succ, List.set_cons_zero]
  replace o_r := o_r.below hb9 o_r.lt
  replace o_t := o_t.below hb9 o_t.lt
  replace o_s := o_s.below hb9 o_s.lt
  replace hch := hch.bel hb9
  clear hb9 p0 p1
  have qt0 : w9.cell? ⟨w.heap.size + 1, 0, none⟩ = some (.bool true) := o_t.cell 0
  have qt1 : w9.cell? ⟨w.heap.size + 1, 1, none⟩ = some (.string (s.extract 2 (2 + k))) := o_t.cell 1
  have qt2 : w9.cell? ⟨w.heap.size + 1, 2, none⟩ = some (.slice none 0 0) := o_t.cell 2
  have ft0 := o_t.frozen 0
  have ft1 := o_t.frozen 1
  have ft2 := o_t.frozen 2
  go_wp2_with fail
  clear qt0 qt1 qt2 ft0 ft1 ft2 te tf
  refine (sorted_nil _).mono ?_
  rintro e wk ⟨rfl, hb'⟩
  replace o_r := o_r.below hb' o_r.lt
  replace o_t := o_t.below hb' o_t.lt
  replace o_s := o_s.below hb' o_s.lt
  replace hch := hch.bel hb'
  clear hb'
  have qt0 : wk.cell? ⟨w.heap.size + 1, 0, none⟩ = some (.bool true) := o_t.cell 0
  have qt1 : wk.cell? ⟨w.heap.size + 1, 1, none⟩ = some (.string (s.extract 2 (2 + k))) := o_t.cell 1
  have qt2 : wk.cell? ⟨w.heap.size + 1, 2, none⟩ = some (.slice none 0 0) := o_t.cell 2
  have ft0 := o_t.frozen 0
  have ft1 := o_t.frozen 1
  have ft2 := o_t.frozen 2
  replace o_r := o_r.far (p := ⟨w.heap.size + 1, 2, none⟩) hrt (.slice none 0 0)
  replace o_s := o_s.far (p := ⟨w.heap.size + 1, 2, none⟩) (Ne.symm hnt) (.slice none 0 0)
  replace hch := hch.fresh9 (g := w.heap.size + 1) (by omega) 2 (.slice none 0 0)
  replace o_t : Own (wk.setCell ⟨w.heap.size + 1, 2, none⟩ (.slice none 0 0)) (w.heap.size + 1) 126 [.bool true, .string (s.extract 2 (2 + k)), .slice none 0 0] := o_t.set_ 2 (.slice none 0 0)
  have qu0 : (wk.setCell ⟨w.heap.size + 1, 2, none⟩ (.slice none 0 0)).cell? ⟨w.heap.size + 1, 0, none⟩ = some (.bool true) := o_t.cell 0
  have qu1 : (wk.setCell ⟨w.heap.size + 1, 2, none⟩ (.slice none 0 0)).cell? ⟨w.heap.size + 1, 1, none⟩ = some (.string (s.extract 2 (2 + k))) := o_t.cell 1
  have qu2 : (wk.setCell ⟨w.heap.size + 1, 2, none⟩ (.slice none 0 0)).cell? ⟨w.heap.size + 1, 2, none⟩ = some (.slice none 0 0) := o_t.cell 2
  have qr0 : (wk.setCell ⟨w.heap.size + 1, 2, none⟩ (.slice none 0 0)).cell? ⟨w.heap.size, 0, none⟩ = some (.bool false) := o_r.cell 0
  have qr1 : (wk.setCell ⟨w.heap.size + 1, 2, none⟩ (.slice none 0 0)).cell? ⟨w.heap.size, 1, none⟩ = some (.string ⟨#[]⟩) := o_r.cell 1
  have qr2 : (wk.setCell ⟨w.heap.size + 1, 2, none⟩ (.slice none 0 0)).cell? ⟨w.heap.size, 2, none⟩ = some (.slice none 0 0) := o_r.cell 2
  have fr0 := o_r.frozen 0
  have fr1 := o_r.frozen 1
  have fr2 := o_r.frozen 2
  have o_z := o_r.set3 (.bool true) (.string (s.extract 2 (2 + k))) (.slice none 0 0)
  have o_y := ((o_s.far (p := ⟨w.heap.size, 0, none⟩) (Ne.symm hnr) (.bool true)).far (p := ⟨w.heap.size, 1, none⟩) (Ne.symm hnr) (.string (s.extract 2 (2 + k)))).far (p := ⟨w.heap.size, 2, none⟩) (Ne.symm hnr) (.slice none 0 0)
  have hcz := ((hch.fresh9 (g := w.heap.size) (Nat.le_refl _) 0 (.bool true)).fresh9 (g := w.heap.size) (Nat.le_refl _) 1 (.string (s.extract 2 (2 + k)))).fresh9 (g := w.heap.size) (Nat.le_refl _) 2 (.slice none 0 0)
  go_wp2
  generalize ((((wk.setCell ⟨w.heap.size + 1, 2, none⟩ (.slice none 0 0)).setCell ⟨w.heap.size, 0, none⟩ (.bool true)).setCell ⟨w.heap.size, 1, none⟩ (.string (s.extract 2 (2 + k)))).setCell ⟨w.heap.size, 2, none⟩ (.slice none 0 0)) = wz at o_z o_y hcz ⊢
  have z0 : wz.cell? ⟨w.heap.size, 0, none⟩ = some (.bool true) := o_z.cell 0
  have z1 : wz.cell? ⟨w.heap.size, 1, none⟩ = some (.string (s.extract 2 (2 + k))) := o_z.cell 1
  have z2 : wz.cell? ⟨w.heap.size, 2, none⟩ = some (.slice none 0 0) := o_z.cell 2
  exact bodyPost_ret (v := .agg #[.bool true, .string (s.extract 2 (2 + k)), .slice none 0 0]) (by simp [results, Tryz.results120, go_sem, z0, z1, z2]) rfl ⟨rfl, ⟨_, o_y⟩, hcz⟩
set_option maxRecDepth 100000 in
set_option maxHeartbeats 1000000 in
theorem tag_open (g k : Nat) (s : ByteArray) (w : World) (ho : Sc9 w g s 0) (hs : s.size ≤ 1000) (hk : 0 < k) (hk2 : k ≤ 32) (hz : s.size = k + 2) (h0 : (s[0]'(by omega)).toNat = 60) (hl : Low s 1 k) (h2 : (s[1 + k]'(by omega)).toNat = 62) :
    Calls Tryz.prog 120 #[.pointer (some ⟨g, 0, none⟩)] w fun e w' => e = .returned (.agg #[.bool false, .string (s.extract 1 (1 + k)), .slice none 0 0]) ∧ (∃ i, Sc9 w' g s i) ∧ Chg (fun k => k = g) w w' := by
  have hEnd : EndN s (1 + k) := ⟨by omega, by rw [h2]; decide, by rw [h2]; decide⟩
  have hl1 := hl 1 (by omega) (by omega) (by omega)
  have HL := Lib.hid (fun w ho => eat_yes g 0 s 60 w ho (by omega) hs (by rw [h0]; rfl))
  have HS := Lib.hid (fun w ho => sees_no g 1 s 47 w ho (by omega) (by omega))
  have HN := Lib.hid (fun w ho => name_yes g 1 k s w ho hs hk hk2 hl hEnd)
  have HS2 := Lib.hid (fun w ho => sees_no g (1 + k) s 32 w ho (by omega) (by rw [h2]; decide))
  have HG := Lib.hid (fun w ho => eat_yes g (1 + k) s 62 w ho (by omega) hs (by rw [h2]; rfl))
  have HZ := Lib.hid hz
  clear hEnd hs hk hk2 hz h0 hl h2 hl1
  obtain ⟨o_r, o_t, hbw⟩ := new2 w [.bool false, .string ⟨#[]⟩, .slice none 0 0] [.bool false, .string ⟨#[]⟩, .slice none 0 0] 126 126
  have hlt := ho.lt
  have o_s := ho.below hbw hlt
  have hch : Chg (fun k => k = g) w ((w.alloc (.cells #[.bool false, .string ⟨#[]⟩, .slice none 0 0] 126)).alloc (.cells #[.bool false, .string ⟨#[]⟩, .slice none 0 0] 126)) := Chg.of_below hbw fun k h1 h2 => by omega
  have hnr : w.heap.size ≠ g := by omega
  have hnt : w.heap.size + 1 ≠ g := by omega
  have hrt : w.heap.size ≠ w.heap.size + 1 := by omega
  clear ho hbw
  go_enter Tryz.func120, Tryz.ntmps120
  go_upto_region 2 with (fail)
  generalize ((w.alloc (.cells #[.bool false, .string ⟨#[]⟩, .slice none 0 0] 126)).alloc (.cells #[.bool false, .string ⟨#[]⟩, .slice none 0 0] 126)) = wb at o_r o_t o_s hch ⊢
  go_wp2_with fail
  refine (HL.out _ o_s).mono ?_
  rintro e w1 ⟨rfl, o_s', hc'⟩
  replace o_r := hc'.own9 o_r hnr
  replace o_t := hc'.own9 o_t hnt
  replace hch := hch.trans hc'
  clear hc' o_s
  have o_s := o_s'
  clear o_s'
  go_wp2_with fail
  refine (HS.out _ o_s).mono ?_
  rintro e w2 ⟨rfl, hb'⟩
  replace o_r := o_r.below hb' o_r.lt
  replace o_t := o_t.below hb' o_t.lt
  replace o_s := o_s.below hb' o_s.lt
  replace hch := hch.bel hb'
  clear hb'
  go_wp2_with fail
  refine (HN.out _ o_s).mono ?_
  rintro e w4 ⟨rfl, o_s', hc'⟩
  replace o_r := hc'.own9 o_r hnr
  replace o_t := hc'.own9 o_t hnt
  replace hch := hch.trans hc'
  clear hc' o_s
  have o_s := o_s'
  clear o_s'
  have qt0 : w4.cell? ⟨w.heap.size + 1, 0, none⟩ = some (.bool false) := o_t.cell 0
  have qt1 : w4.cell? ⟨w.heap.size + 1, 1, none⟩ = some (.string ⟨#[]⟩) := o_t.cell 1
  have qt2 : w4.cell? ⟨w.heap.size + 1, 2, none⟩ = some (.slice none 0 0) := o_t.cell 2
  have ft0 := o_t.frozen 0
  have ft1 := o_t.frozen 1
  have ft2 := o_t.frozen 2
  replace o_r := o_r.far (p := ⟨w.heap.size + 1, 1, none⟩) hrt (.string (s.extract 1 (1 + k)))
  replace o_s := o_s.far (p := ⟨w.heap.size + 1, 1, none⟩) (Ne.symm hnt) (.string (s.extract 1 (1 + k)))
  replace hch := hch.fresh9 (g := w.heap.size + 1) (by omega) 1 (.string (s.extract 1 (1 + k)))
  replace o_t : Own (w4.setCell ⟨w.heap.size + 1, 1, none⟩ (.string (s.extract 1 (1 + k)))) (w.heap.size + 1) 126 [.bool false, .string (s.extract 1 (1 + k)), .slice none 0 0] := o_t.set_ 1 (.string (s.extract 1 (1 + k)))
  have tq : (w4.setCell ⟨w.heap.size + 1, 1, none⟩ (.string (s.extract 1 (1 + k)))).cell? ⟨w.heap.size + 1, 0, none⟩ = some (.bool false) := o_t.cell 0
  go_wp2_with fail
  clear qt0 qt1 qt2 ft0 ft1 ft2
  refine wp_loop_rounds 1 ?_
  rw [rounds_succ]
  go_wp2_with fail
  clear tq
  generalize (w4.setCell ⟨w.heap.size + 1, 1, none⟩ (.string (s.extract 1 (1 + k)))) = w5 at o_r o_t o_s hch ⊢
  refine (HS2.out _ o_s).mono ?_
  rintro e w6 ⟨rfl, hb'⟩
  replace o_r := o_r.below hb' o_r.lt
  replace o_t := o_t.below hb' o_t.lt
  replace o_s := o_s.below hb' o_s.lt
  replace hch := hch.bel hb'
  clear hb'
  go_wp2_with fail
  refine (HG.out _ o_s).mono ?_
  rintro e wg ⟨rfl, o_s', hc'⟩
  replace o_r := hc'.own9 o_r hnr
  replace o_t := hc'.own9 o_t hnt
  replace hch := hch.trans hc'
  clear hc' o_s
  have o_s := o_s'
  clear o_s'
  have p0 : wg.cell? ⟨g, 0, none⟩ = some (.string s) := o_s.cell 0
  have p1 : wg.cell? ⟨g, 1, none⟩ = some (.int .i64 ((1 + k + 1 : Nat) : Int)) := o_s.cell 1
  have te : decide (((1 + k + 1 : Nat) : Int) < (s.size : Int)) = false := decide_eq_false (by have := HZ.out; omega)
  have tf : decide (1 + k + 1 < s.size) = false := decide_eq_false (by have := HZ.out; omega)
  obtain ⟨ze, hze⟩ : ∃ ze : Nat, ze = 1 + k + 1 := ⟨_, rfl⟩
  replace o_s : Sc9 wg g s (1 + k + 1) := o_s
  rw [← hze] at p1 te tf o_s
  clear hze
  go_upto_region 12 with (fail)
  refine wp_reg_f [some 46, some 47, some 48, some 49, some 50, some 51, some 52, some 53, some 54, some 55] [?v3_0, ?v3_1, ?v3_2, ?v3_3, ?v3_4, ?v3_5, ?v3_6, ?v3_7, ?v3_8, ?v3_9] [[], [0], [1], [2], [], [4], [5], [6], [7], [3, 8]] [(0, _)] ⟨rfl, trivial⟩ rfl (by kernel_rfl) rfl rfl (by kernel_rfl) (by kernel_rfl) ⟨?s3_0, ?s3_1, ?s3_2, ?s3_3, ?s3_4, ?s3_5, ?s3_6, ?s3_7, ?s3_8, ?s3_9, trivial⟩ ?p3
  all_goals try (intro t9 w9 hT9 K9 hK9; simp only [OV, FV, List.getD_cons_succ, List.getD_cons_zero, Option.getD_some]; intros)
  case s3_0 | s3_1 | s3_2 | s3_3 | s3_4 | s3_5 | s3_6 | s3_7 | s3_8 | s3_9 =>
    have d9_0 := grow_cell hT9 p0; have d9_1 := grow_cell hT9 p1
    go_simp
    exact hK9 _ (Grow.refl _)
  intro w9 hb9
  simp only [putL, Act.put, List.setIfInBounds_toArray, List.set_cons_succ, List.set_cons_zero]
  replace o_r := o_r.below hb9 o_r.lt
  replace o_t := o_t.below hb9 o_t.lt
  replace o_s := o_s.below hb9 o_s.lt
  replace hch := hch.bel hb9
  clear hb9 p0 p1
  have qt0 : w9.cell? ⟨w.heap.size + 1, 0, none⟩ = some (.bool false) := o_t.cell 0
  have qt1 : w9.cell? ⟨w.heap.size + 1, 1, none⟩ = some (.string (s.extract 1 (1 + k))) := o_t.cell 1
  have qt2 : w9.cell? ⟨w.heap.size + 1, 2, none⟩ = some (.slice none 0 0) := o_t.cell 2
  have ft0 := o_t.frozen 0
  have ft1 := o_t.frozen 1
  have ft2 := o_t.frozen 2
  go_wp2_with fail
  clear qt0 qt1 qt2 ft0 ft1 ft2 te tf
  refine (sorted_nil _).mono ?_
  rintro e wk ⟨rfl, hb'⟩
  replace o_r := o_r.below hb' o_r.lt
  replace o_t := o_t.below hb' o_t.lt
  replace o_s := o_s.below hb' o_s.lt
  replace hch := hch.bel hb'
  clear hb'
  have qt0 : wk.cell? ⟨w.heap.size + 1, 0, none⟩ = some (.bool false) := o_t.cell 0
  have qt1 : wk.cell? ⟨w.heap.size + 1, 1, none⟩ = some (.string (s.extract 1 (1 + k))) := o_t.cell 1
  have qt2 : wk.cell? ⟨w.heap.size + 1, 2, none⟩ = some (.slice none 0 0) := o_t.cell 2
  have ft0 := o_t.frozen 0
  have ft1 := o_t.frozen 1
  have ft2 := o_t.frozen 2
  replace o_r := o_r.far (p := ⟨w.heap.size + 1, 2, none⟩) hrt (.slice none 0 0)
  replace o_s := o_s.far (p := ⟨w.heap.size + 1, 2, none⟩) (Ne.symm hnt) (.slice none 0 0)
  replace hch := hch.fresh9 (g := w.heap.size + 1) (by omega) 2 (.slice none 0 0)
  replace o_t : Own (wk.setCell ⟨w.heap.size + 1, 2, none⟩ (.slice none 0 0)) (w.heap.size + 1) 126 [.bool false, .string (s.extract 1 (1 + k)), .slice none 0 0] := o_t.set_ 2 (.slice none 0 0)
  have qu0 : (wk.setCell ⟨w.heap.size + 1, 2, none⟩ (.slice none 0 0)).cell? ⟨w.heap.size + 1, 0, none⟩ = some (.bool false) := o_t.cell 0
  have qu1 : (wk.setCell ⟨w.heap.size + 1, 2, none⟩ (.slice none 0 0)).cell? ⟨w.heap.size + 1, 1, none⟩ = some (.string (s.extract 1 (1 + k))) := o_t.cell 1
  have qu2 : (wk.setCell ⟨w.heap.size + 1, 2, none⟩ (.slice none 0 0)).cell? ⟨w.heap.size + 1, 2, none⟩ = some (.slice none 0 0) := o_t.cell 2
  have qr0 : (wk.setCell ⟨w.heap.size + 1, 2, none⟩ (.slice none 0 0)).cell? ⟨w.heap.size, 0, none⟩ = some (.bool false) := o_r.cell 0
  have qr1 : (wk.setCell ⟨w.heap.size + 1, 2, none⟩ (.slice none 0 0)).cell? ⟨w.heap.size, 1, none⟩ = some (.string ⟨#[]⟩) := o_r.cell 1
  have qr2 : (wk.setCell ⟨w.heap.size + 1, 2, none⟩ (.slice none 0 0)).cell? ⟨w.heap.size, 2, none⟩ = some (.slice none 0 0) := o_r.cell 2
  have fr0 := o_r.frozen 0
  have fr1 := o_r.frozen 1
  have fr2 := o_r.frozen 2
  have o_z := o_r.set3 (.bool false) (.string (s.extract 1 (1 + k))) (.slice none 0 0)
  have o_y := ((o_s.far (p := ⟨w.heap.size, 0, none⟩) (Ne.symm hnr) (.bool false)).far (p := ⟨w.heap.size, 1, none⟩) (Ne.symm hnr) (.string (s.extract 1 (1 + k)))).far (p := ⟨w.heap.size, 2, none⟩) (Ne.symm hnr) (.slice none 0 0)
  have hcz := ((hch.fresh9 (g := w.heap.size) (Nat.le_refl _) 0 (.bool false)).fresh9 (g := w.heap.size) (Nat.le_refl _) 1 (.string (s.extract 1 (1 + k)))).fresh9 (g := w.heap.size) (Nat.le_refl _) 2 (.slice none 0 0)
  go_wp2
  generalize ((((wk.setCell ⟨w.heap.size + 1, 2, none⟩ (.slice none 0 0)).setCell ⟨w.heap.size, 0, none⟩ (.bool false)).setCell ⟨w.heap.size, 1, none⟩ (.string (s.extract 1 (1 + k)))).setCell ⟨w.heap.size, 2, none⟩ (.slice none 0 0)) = wz at o_z o_y hcz ⊢
  have z0 : wz.cell? ⟨w.heap.size, 0, none⟩ = some (.bool false) := o_z.cell 0
  have z1 : wz.cell? ⟨w.heap.size, 1, none⟩ = some (.string (s.extract 1 (1 + k))) := o_z.cell 1
  have z2 : wz.cell? ⟨w.heap.size, 2, none⟩ = some (.slice none 0 0) := o_z.cell 2
  exact bodyPost_ret (v := .agg #[.bool false, .string (s.extract 1 (1 + k)), .slice none 0 0]) (by simp [results, Tryz.results120, go_sem, z0, z1, z2]) rfl ⟨rfl, ⟨_, o_y⟩, hcz⟩
/-- A key is read and appended, in a drawn order. -/
structure TM (w0 : World) (g gr gt : Nat) (s : ByteArray) (i0 i1 : Nat) (NM : Value) (a b : ByteArray) (l1 l4 l5 l6 l7 l9 : Bool) (v6 v7 : Value) (w : World) : Prop where
  h54 : l5 = true → l4 = true
  h65 : l6 = true → l5 = true
  h76 : l7 = true → l6 = true
  h71 : l7 = true → l1 = true
  h97 : l9 = true → l7 = true
  or : Own w gr 126 [.bool false, .string ⟨#[]⟩, .slice none 0 0]
  ch : Chg (fun k => k = g) w0 w
  ot : Own w gt 126 [.bool false, NM, if l9 then v7 else .slice none 0 0]
  os : Sc9 w g s (if l5 then i1 else i0)
  ob : l6 = true → ∃ gb, v6 = .slice (some ⟨gb, 0, none⟩) 1 1 ∧ Own w gb 105 [.string a, .string b]
  ow : l7 = true → w.ownsRow w0.heap.size 105 2 v7 1 [.string a, .string b] ∧ v7.ownBlock ≠ some gt
section
variable {w0 w : World} {g gr gt : Nat} {s : ByteArray} {i0 i1 : Nat} {NM : Value} {a b : ByteArray} {l1 l4 l5 l6 l7 l9 : Bool} {v6 v7 : Value}
theorem TM.nil (h : TM w0 g gr gt s i0 i1 NM a b l1 l4 l5 l6 l7 l9 v6 v7 w) (e : l9 = false) : w.cell? ⟨gt, 2, none⟩ = some (.slice none 0 0) := by
  have := h.ot.cell 2
  rw [e] at this
  exact this
theorem TM.n1 (h : TM w0 g gr gt s i0 i1 NM a b l1 l4 l5 l6 l7 l9 v6 v7 w) (e : l1 = false) : l9 = false := by
  have h1 := h.h71; have h2 := h.h97
  cases l9 <;> cases l7 <;> simp_all
theorem TM.n5 (h : TM w0 g gr gt s i0 i1 NM a b l1 l4 l5 l6 l7 l9 v6 v7 w) (e : l5 = false) : l6 = false ∧ l7 = false ∧ l9 = false := by
  have h1 := h.h65; have h2 := h.h76; have h3 := h.h97
  cases l9 <;> cases l7 <;> cases l6 <;> simp_all
theorem TM.n4 (h : TM w0 g gr gt s i0 i1 NM a b l1 l4 l5 l6 l7 l9 v6 v7 w) (e : l4 = false) : l9 = false := by
  have h1 := h.h54
  exact (h.n5 (by cases l5 <;> simp_all)).2.2
theorem TM.s1 (h : TM w0 g gr gt s i0 i1 NM a b l1 l4 l5 l6 l7 l9 v6 v7 w) : TM w0 g gr gt s i0 i1 NM a b true l4 l5 l6 l7 l9 v6 v7 w := { h with h71 := fun _ => rfl }
theorem TM.s4 (h : TM w0 g gr gt s i0 i1 NM a b l1 l4 l5 l6 l7 l9 v6 v7 w) : TM w0 g gr gt s i0 i1 NM a b l1 true l5 l6 l7 l9 v6 v7 w := { h with h54 := fun _ => rfl }
theorem TM.sc (h : TM w0 g gr gt s i0 i1 NM a b l1 l4 l5 l6 l7 l9 v6 v7 w) (e : l5 = false) : Sc9 w g s i0 := by
  have := h.os
  rw [e] at this
  exact this
theorem TM.s5 (h : TM w0 g gr gt s i0 i1 NM a b l1 l4 l5 l6 l7 l9 v6 v7 w) (e : l5 = false) (h4 : l4 = true) (hr : gr ≠ g) (ht : gt ≠ g) {w' : World} (hs : Sc9 w' g s i1) (hc : Chg (fun k => k = g) w w') : TM w0 g gr gt s i0 i1 NM a b l1 l4 true l6 l7 l9 v6 v7 w' := by
  obtain ⟨e6, e7, e9⟩ := h.n5 e
  subst e6 e7 e9
  exact ⟨fun _ => h4, fun x => (by cases x), fun x => (by cases x), fun x => (by cases x), fun x => (by cases x), hc.own9 h.or hr, h.ch.trans hc, hc.own9 h.ot ht, hs, fun x => (by cases x), fun x => (by cases x)⟩
theorem TM.s6 (h : TM w0 g gr gt s i0 i1 NM a b l1 l4 l5 l6 l7 l9 v6 v7 w) (e : l6 = false) (h5 : l5 = true) : TM w0 g gr gt s i0 i1 NM a b l1 l4 l5 true l7 l9 (.slice (some ⟨w.heap.size, 0, none⟩) 1 1) v7 (w.alloc (.cells #[.string a, .string b] 105)) := by
  have e7 : l7 = false := by have := h.h76; cases l7 <;> simp_all
  have e9 : l9 = false := by have := h.h97; cases l9 <;> simp_all
  subst e7 e9
  exact ⟨h.h54, fun _ => h5, fun _ => rfl, fun x => (by cases x), fun x => (by cases x), h.or.alloc _, h.ch.alloc _, h.ot.alloc _, h.os.alloc _, fun _ => ⟨_, rfl, Own.new w 105 [.string a, .string b]⟩, fun x => (by cases x)⟩
theorem TM.s7 (h : TM w0 g gr gt s i0 i1 NM a b l1 l4 l5 l6 l7 l9 v6 v7 w) (e : l7 = false) (h6 : l6 = true) (h1 : l1 = true) {v' : Value} {w' : World} (hown : w'.ownsRow w0.heap.size 105 2 v' (0 + 1) ([] ++ [.string a, .string b])) (hg : w.grownBy w' (Value.slice none 0 0).ownBlock)
    (hat : v'.ownBlock = (Value.slice none 0 0).ownBlock ∨ v'.ownBlock = some w.heap.size) : TM w0 g gr gt s i0 i1 NM a b l1 l4 l5 l6 true l9 v6 v' w' := by
  have e9 : l9 = false := by have := h.h97; cases l9 <;> simp_all
  subst e9
  have ho : ∀ {b : Nat} {T : TypeId} {cs : List Value}, Own w b T cs → Own w' b T cs := fun o => (hg.block _ o.lt (by intro x; cases x)).trans o
  refine ⟨h.h54, h.h65, fun _ => h6, fun _ => h1, fun x => (by cases x), ho h.or, h.ch.trans ⟨hg.os, hg.tape, hg.output, hg.size, fun k hk _ => hg.block k hk (by intro x; cases x)⟩, ho h.ot, ho h.os, fun _ => ?_, fun _ => ⟨hown, ?_⟩⟩
  · obtain ⟨gb, e1, e2⟩ := h.ob h6
    exact ⟨gb, e1, ho e2⟩
  · have := h.ot.lt
    rcases hat with x | x
    · rw [x]; intro y; cases y
    · rw [x]; intro y; injection y with y; omega
theorem TM.s9 (h : TM w0 g gr gt s i0 i1 NM a b l1 l4 l5 l6 l7 l9 v6 v7 w) (e : l9 = false) (h7 : l7 = true) (hr : gr ≠ gt) (hg : g ≠ gt) (hw : w0.heap.size ≤ gt) (hgb : ∀ gb, v6 = .slice (some ⟨gb, 0, none⟩) 1 1 → gb ≠ gt) : TM w0 g gr gt s i0 i1 NM a b l1 l4 l5 l6 l7 true v6 v7 (w.setCell ⟨gt, 2, none⟩ v7) := by
  subst e
  obtain ⟨r1, r2⟩ := h.ow h7
  refine ⟨h.h54, h.h65, h.h76, h.h71, fun _ => h7, h.or.far (p := ⟨gt, 2, none⟩) hr v7, h.ch.fresh9 hw 2 v7, h.ot.set_ 2 v7, h.os.far (p := ⟨gt, 2, none⟩) hg v7, fun x => ?_, fun _ => ⟨ownsRow_setCell_other r1 r2 v7, r2⟩⟩
  obtain ⟨gb, e1, e2⟩ := h.ob x
  exact ⟨gb, e1, e2.far (p := ⟨gt, 2, none⟩) (hgb gb e1) v7⟩
end
set_option maxRecDepth 100000 in
set_option maxHeartbeats 1000000 in
theorem tag_key (g : Nat) (s : ByteArray) (w : World) (ho : Sc9 w g s 0) (hz : s.size = 13) (h0 : (s[0]'(by omega)).toNat = 60) (hl : Low s 1 4) (h5 : (s[5]'(by omega)).toNat = 32) (hl2 : Low s 6 2) (h8 : (s[8]'(by omega)).toNat = 61) (h9 : (s[9]'(by omega)).toNat = 34) (h10 : (s[10]'(by omega)).toNat = 116) (h11 : (s[11]'(by omega)).toNat = 34) (h12 : (s[12]'(by omega)).toNat = 62) :
    Calls Tryz.prog 120 #[.pointer (some ⟨g, 0, none⟩)] w fun e w' => (∃ v, e = .returned (.agg #[.bool false, .string (s.extract 1 5), v]) ∧ w'.ownsRow w.heap.size 105 2 v 1 [.string (s.extract 6 8), .string (s.extract 10 11)]) ∧ (∃ i, Sc9 w' g s i) ∧ Chg (fun k => k = g) w w' := by
  have hs : s.size ≤ 1000 := by omega
  have hl1 := hl 1 (by omega) (by omega) (by omega)
  have hl6 := hl2 6 (by omega) (by omega) (by omega)
  have HL : Hid (∀ w, Sc9 w g s 0 → Calls Tryz.prog 145 #[.pointer (some ⟨g, 0, none⟩), .int .u8 60] w fun e w' => e = .returned (.tuple #[]) ∧ Sc9 w' g s 1 ∧ Chg (fun k => k = g) w w') := Lib.hid (fun w ho => eat_yes g 0 s 60 w ho (by omega) hs (by rw [h0]; rfl))
  have HS := Lib.hid (fun w ho => sees_no g 1 s 47 w ho (by omega) (by omega))
  have HN : Hid (∀ w, Sc9 w g s 1 → Calls Tryz.prog 147 #[.pointer (some ⟨g, 0, none⟩)] w fun e w' => e = .returned (.string (s.extract 1 5)) ∧ Sc9 w' g s 5 ∧ Chg (fun k => k = g) w w') := Lib.hid (fun w ho => name_yes g 1 4 s w ho hs (by decide) (by decide) hl ⟨by omega, by show ((s[5]'_).toNat : Int) < 65 ∧ _; rw [h5]; decide⟩)
  have HS2 : Hid (∀ w, Sc9 w g s 5 → Calls Tryz.prog 146 #[.pointer (some ⟨g, 0, none⟩), .int .u8 32] w fun e w' => e = .returned (.bool true) ∧ Below w.heap.size w w') := Lib.hid (fun w ho => sees_yes g 5 s 32 w ho (by omega) (by rw [h5]; rfl))
  have HS3 : Hid (∀ w, Sc9 w g s 6 → Calls Tryz.prog 146 #[.pointer (some ⟨g, 0, none⟩), .int .u8 32] w fun e w' => e = .returned (.bool false) ∧ Below w.heap.size w w') := Lib.hid (fun w ho => sees_no g 6 s 32 w ho (by omega) (by omega))
  have HK : Hid (∀ w, Sc9 w g s 6 → Calls Tryz.prog 148 #[.pointer (some ⟨g, 0, none⟩), .slice none 0 0] w fun e w' => e = .returned (.agg #[.string (s.extract 6 8), .string (s.extract 10 11)]) ∧ Sc9 w' g s 12 ∧ Chg (fun k => k = g) w w') := Lib.hid (fun w ho => key_one g 6 2 s w ho hs (by decide) (by decide) hl2 (by omega) h8 h9 (by show 65 ≤ (s[10]'_).toNat; rw [h10]; decide) (by show (s[10]'_).toNat < 127; rw [h10]; decide) h11)
  have HS4 : Hid (∀ w, Sc9 w g s 12 → Calls Tryz.prog 146 #[.pointer (some ⟨g, 0, none⟩), .int .u8 32] w fun e w' => e = .returned (.bool false) ∧ Below w.heap.size w w') := Lib.hid (fun w ho => sees_no g 12 s 32 w ho (by omega) (by rw [h12]; decide))
  have HG : Hid (∀ w, Sc9 w g s 12 → Calls Tryz.prog 145 #[.pointer (some ⟨g, 0, none⟩), .int .u8 62] w fun e w' => e = .returned (.tuple #[]) ∧ Sc9 w' g s 13 ∧ Chg (fun k => k = g) w w') := Lib.hid (fun w ho => eat_yes g 12 s 62 w ho (by omega) hs (by rw [h12]; rfl))
  have HZ := Lib.hid hz
  obtain ⟨i0, hi0, hz0, hz1, hz2⟩ := info_parts pair_info
  have h63 : 0 + 1 ≤ maxLen := by unfold maxLen; omega
  clear hs hz h0 hl hl2 h5 h8 h9 h10 h11 h12 hl1 hl6
  obtain ⟨o_r, o_t, hbw⟩ := new2 w [.bool false, .string ⟨#[]⟩, .slice none 0 0] [.bool false, .string ⟨#[]⟩, .slice none 0 0] 126 126
  have hlt := ho.lt
  have o_s := ho.below hbw hlt
  have hch : Chg (fun k => k = g) w ((w.alloc (.cells #[.bool false, .string ⟨#[]⟩, .slice none 0 0] 126)).alloc (.cells #[.bool false, .string ⟨#[]⟩, .slice none 0 0] 126)) := Chg.of_below hbw fun k h1 h2 => by omega
  have hnr : w.heap.size ≠ g := by omega
  have hnt : w.heap.size + 1 ≠ g := by omega
  have hrt : w.heap.size ≠ w.heap.size + 1 := by omega
  clear ho hbw
  go_enter Tryz.func120, Tryz.ntmps120
  go_upto_region 2 with (fail)
  generalize ((w.alloc (.cells #[.bool false, .string ⟨#[]⟩, .slice none 0 0] 126)).alloc (.cells #[.bool false, .string ⟨#[]⟩, .slice none 0 0] 126)) = wb at o_r o_t o_s hch ⊢
  go_wp2_with fail
  refine (HL.out _ o_s).mono ?_
  rintro e w1 ⟨rfl, o_s', hc'⟩
  replace o_r := hc'.own9 o_r hnr
  replace o_t := hc'.own9 o_t hnt
  replace hch := hch.trans hc'
  clear hc' o_s
  have o_s := o_s'
  clear o_s'
  go_wp2_with fail
  refine (HS.out _ o_s).mono ?_
  rintro e w2 ⟨rfl, hb'⟩
  replace o_r := o_r.below hb' o_r.lt
  replace o_t := o_t.below hb' o_t.lt
  replace o_s := o_s.below hb' o_s.lt
  replace hch := hch.bel hb'
  clear hb'
  go_wp2_with fail
  refine (HN.out _ o_s).mono ?_
  rintro e w4 ⟨rfl, o_s', hc'⟩
  replace o_r := hc'.own9 o_r hnr
  replace o_t := hc'.own9 o_t hnt
  replace hch := hch.trans hc'
  clear hc' o_s
  have o_s := o_s'
  clear o_s'
  have qt0 : w4.cell? ⟨w.heap.size + 1, 0, none⟩ = some (.bool false) := o_t.cell 0
  have qt1 : w4.cell? ⟨w.heap.size + 1, 1, none⟩ = some (.string ⟨#[]⟩) := o_t.cell 1
  have qt2 : w4.cell? ⟨w.heap.size + 1, 2, none⟩ = some (.slice none 0 0) := o_t.cell 2
  have ft0 := o_t.frozen 0
  have ft1 := o_t.frozen 1
  have ft2 := o_t.frozen 2
  replace o_r := o_r.far (p := ⟨w.heap.size + 1, 1, none⟩) hrt (.string (s.extract 1 5))
  replace o_s := o_s.far (p := ⟨w.heap.size + 1, 1, none⟩) (Ne.symm hnt) (.string (s.extract 1 5))
  replace hch := hch.fresh9 (g := w.heap.size + 1) (by omega) 1 (.string (s.extract 1 5))
  replace o_t : Own (w4.setCell ⟨w.heap.size + 1, 1, none⟩ (.string (s.extract 1 5))) (w.heap.size + 1) 126 [.bool false, .string (s.extract 1 5), .slice none 0 0] := o_t.set_ 1 (.string (s.extract 1 5))
  have tq : (w4.setCell ⟨w.heap.size + 1, 1, none⟩ (.string (s.extract 1 5))).cell? ⟨w.heap.size + 1, 0, none⟩ = some (.bool false) := o_t.cell 0
  go_wp2_with fail
  clear qt0 qt1 qt2 ft0 ft1 ft2
  refine wp_loop_rounds 2 ?_
  rw [rounds_succ]
  go_wp2_with fail
  clear tq
  generalize (w4.setCell ⟨w.heap.size + 1, 1, none⟩ (.string (s.extract 1 5))) = w5 at o_r o_t o_s hch ⊢
  refine (HS2.out _ o_s).mono ?_
  rintro e w6 ⟨rfl, hb'⟩
  replace o_r := o_r.below hb' o_r.lt
  replace o_t := o_t.below hb' o_t.lt
  replace o_s := o_s.below hb' o_s.lt
  replace hch := hch.bel hb'
  clear hb'
  go_wp2_with fail
  refine wp_loop_rounds 2 ?_
  rw [rounds_succ]
  go_wp2_with fail
  refine (HS2.out _ o_s).mono ?_
  rintro e w7 ⟨rfl, hb'⟩
  replace o_r := o_r.below hb' o_r.lt
  replace o_t := o_t.below hb' o_t.lt
  replace o_s := o_s.below hb' o_s.lt
  replace hch := hch.bel hb'
  clear hb'
  have p1 : w7.cell? ⟨g, 1, none⟩ = some (.int .i64 5) := o_s.cell 1
  have f1 := o_s.frozen 1
  replace o_r := o_r.far (p := ⟨g, 1, none⟩) hnr (.int .i64 6)
  replace o_t := o_t.far (p := ⟨g, 1, none⟩) hnt (.int .i64 6)
  replace o_s : Sc9 (w7.setCell ⟨g, 1, none⟩ (.int .i64 6)) g s 6 := o_s.set_ 1 (.int .i64 6)
  replace hch := hch.setCell (p := ⟨g, 1, none⟩) rfl (.int .i64 6)
  go_wp2_with fail
  clear p1 f1
  generalize (w7.setCell ⟨g, 1, none⟩ (.int .i64 6)) = w8 at o_r o_t o_s hch ⊢
  rw [rounds_succ]
  go_wp2_with fail
  refine (HS3.out _ o_s).mono ?_
  rintro e wx ⟨rfl, hb'⟩
  replace o_r := o_r.below hb' o_r.lt
  replace o_t := o_t.below hb' o_t.lt
  replace o_s := o_s.below hb' o_s.lt
  replace hch := hch.bel hb'
  clear hb'
  go_upto_region 10 with (fail)
  refine wp_reg_m (fun _ _ => True) (fun L u w8 => TM w g w.heap.size (w.heap.size + 1) s 6 12 (.string (s.extract 1 5)) (s.extract 6 8) (s.extract 10 11) (L 1) (L 4) (L 5) (L 6) (L 7) (L 9) (u 6) (u 7) w8) ((fun _ => trivial)) ((fun _ _ _ _ _ => trivial)) [some 35, some 36, some 37, some 38, some 39, some 40, some 41, some 42, some 43, none] [isV ?v1_0, isV (.slice none 0 0), isV ?v1_2, isV ?v1_3, isV (.slice none 0 0), isV (.agg #[.string (s.extract 6 8), .string (s.extract 10 11)]), (fun _ _ => True), (fun _ _ => True), isV ?v1_8, anyV] rfl (by kernel_rfl) rfl rfl ?n1 ?k1 ⟨?s1_0, ?s1_1, ?s1_2, ?s1_3, ?s1_4, ?s1_5, ?s1_6, ?s1_7, ?s1_8, ?s1_9, trivial⟩ ?p1
  case s1_0 =>
    intro L9 u9 t9 w9 hT9 hL9 hD9 hV9 hO9 hM9 K9 hK9
    have o9_3 := hO9 3 _ (show List.contains _ _ = false from by kernel_rfl) rfl
    clear hV9 hO9
    clear hL9 hD9
    go_simp
    (refine hK9 _ _ ((fun _ => trivial) w9) ?_ hM9; exact rfl)
  case s1_1 =>
    intro L9 u9 t9 w9 hT9 hL9 hD9 hV9 hO9 hM9 K9 hK9
    obtain ⟨x9_0, p9_0, q9_0⟩ := hV9 0 35 rfl rfl (of_decide_eq_true (by kernel_rfl))
    obtain ⟨q9_0, e9_0⟩ := q9_0
    obtain rfl : x9_0 = ?v1_0 := q9_0
    clear e9_0
    clear hV9 hO9
    have d9 := hM9.nil (hM9.n1 hL9)
    go_simp
    exact hK9 _ _ trivial rfl hM9.s1
  case s1_2 =>
    intro L9 u9 t9 w9 hT9 hL9 hD9 hV9 hO9 hM9 K9 hK9
    have o9_0 := hO9 0 _ (show List.contains _ _ = false from by kernel_rfl) rfl
    clear hV9 hO9
    clear hL9 hD9
    go_simp
    (refine hK9 _ _ ((fun _ => trivial) w9) ?_ hM9; exact rfl)
  case s1_3 =>
    intro L9 u9 t9 w9 hT9 hL9 hD9 hV9 hO9 hM9 K9 hK9
    have o9_3 := hO9 3 _ (show List.contains _ _ = false from by kernel_rfl) rfl
    clear hV9 hO9
    clear hL9 hD9
    go_simp
    (refine hK9 _ _ ((fun _ => trivial) w9) ?_ hM9; exact rfl)
  case s1_4 =>
    intro L9 u9 t9 w9 hT9 hL9 hD9 hV9 hO9 hM9 K9 hK9
    obtain ⟨x9_3, p9_3, q9_3⟩ := hV9 3 38 rfl rfl (of_decide_eq_true (by kernel_rfl))
    obtain ⟨q9_3, e9_3⟩ := q9_3
    obtain rfl : x9_3 = ?v1_3 := q9_3
    clear e9_3
    clear hV9 hO9
    have d9 := hM9.nil (hM9.n4 hL9)
    go_simp
    exact hK9 _ _ trivial rfl hM9.s4
  case s1_5 =>
    intro L9 u9 t9 w9 hT9 hL9 hD9 hV9 hO9 hM9 K9 hK9
    obtain ⟨x9_2, p9_2, q9_2⟩ := hV9 2 37 rfl rfl (of_decide_eq_true (by kernel_rfl))
    obtain ⟨q9_2, e9_2⟩ := q9_2
    obtain rfl : x9_2 = ?v1_2 := q9_2
    clear e9_2
    obtain ⟨x9_4, p9_4, q9_4⟩ := hV9 4 39 rfl rfl (of_decide_eq_true (by kernel_rfl))
    obtain ⟨q9_4, e9_4⟩ := q9_4
    obtain rfl : x9_4 = (.slice none 0 0) := q9_4
    clear e9_4
    clear hV9 hO9
    go_simp
    refine (HK.out _ (hM9.sc hL9)).mono ?_
    rintro _ w8 ⟨rfl, hs8, hc8⟩
    exact hK9 _ _ trivial rfl (hM9.s5 hL9 (hD9 4 rfl) hnr hnt hs8 hc8)
  case s1_6 =>
    intro L9 u9 t9 w9 hT9 hL9 hD9 hV9 hO9 hM9 K9 hK9
    obtain ⟨x9_5, p9_5, q9_5⟩ := hV9 5 40 rfl rfl (of_decide_eq_true (by kernel_rfl))
    obtain ⟨q9_5, e9_5⟩ := q9_5
    obtain rfl : x9_5 = (.agg #[.string (s.extract 6 8), .string (s.extract 10 11)]) := q9_5
    clear e9_5
    clear hV9 hO9
    go_simp
    exact hK9 _ _ trivial trivial (hM9.s6 hL9 (hD9 5 rfl))
  case s1_7 =>
    intro L9 u9 t9 w9 hT9 hL9 hD9 hV9 hO9 hM9 K9 hK9
    obtain ⟨x9_1, p9_1, q9_1⟩ := hV9 1 36 rfl rfl (of_decide_eq_true (by kernel_rfl))
    obtain ⟨q9_1, e9_1⟩ := q9_1
    obtain rfl : x9_1 = (.slice none 0 0) := q9_1
    clear e9_1
    obtain ⟨x9_6, p9_6, q9_6⟩ := hV9 6 41 rfl rfl (of_decide_eq_true (by kernel_rfl))
    obtain ⟨q9_6, e9_6⟩ := q9_6
    replace q9_6 : ((fun _ _ => True)) x9_6 w9 := q9_6
    clear hV9 hO9
    obtain ⟨gb, hg, ho⟩ := hM9.ob (hD9 6 rfl)
    have e9 := e9_6
    rw [hg] at e9
    subst e9
    clear e9_6
    rw [if_pos (wanted_of rfl)]
    refine wp_append_at (.tmp 36) (.tmp 41) 67 rfl w.heap.size 105 i0 _ 2 32 Tryz.underlying67 hi0 hz0 hz1 hz2 rfl (by decide) _ 0 [] (eval_tmp p9_1) (World.ownsRow_nil _ _ _ _) ⟨gb, 0, none⟩ 1 1 [.string (s.extract 6 8), .string (s.extract 10 11)] (eval_tmp p9_6) rfl (own_cells ho) (by simp [Value.oneCell']) h63 (by decide) hM9.ch.size ?_
    intro v' w' hown' hgrow _ hat
    exact hK9 _ _ trivial trivial (hM9.s7 hL9 (hD9 6 rfl) (hD9 1 rfl) hown' hgrow hat)
  case s1_8 =>
    intro L9 u9 t9 w9 hT9 hL9 hD9 hV9 hO9 hM9 K9 hK9
    have o9_3 := hO9 3 _ (show List.contains _ _ = false from by kernel_rfl) rfl
    clear hV9 hO9
    clear hL9 hD9
    go_simp
    (refine hK9 _ _ ((fun _ => trivial) w9) ?_ hM9; exact rfl)
  case s1_9 =>
    intro L9 u9 t9 w9 hT9 hL9 hD9 hV9 hO9 hM9 K9 hK9
    obtain ⟨x9_7, p9_7, q9_7⟩ := hV9 7 42 rfl rfl (of_decide_eq_true (by kernel_rfl))
    obtain ⟨q9_7, e9_7⟩ := q9_7
    replace q9_7 : ((fun _ _ => True)) x9_7 w9 := q9_7
    obtain ⟨x9_8, p9_8, q9_8⟩ := hV9 8 43 rfl rfl (of_decide_eq_true (by kernel_rfl))
    obtain ⟨q9_8, e9_8⟩ := q9_8
    obtain rfl : x9_8 = ?v1_8 := q9_8
    clear e9_8
    clear hV9 hO9
    have d9 := hM9.nil hL9
    have f9 := hM9.ot.frozen 2
    obtain ⟨gq, capq, hq, -, -⟩ := (hM9.ow (hD9 7 rfl)).1.form (by decide)
    have e9 := e9_7
    rw [hq] at e9
    subst e9
    clear e9_7
    have hm9 := (hM9.s9 hL9 (hD9 7 rfl) hrt (Ne.symm hnt) (by omega) (fun gb e => by obtain ⟨gc, e1, e2⟩ := hM9.ob (hM9.h76 (hD9 7 rfl)); rw [e1] at e; injection e with e; injection e with e; injection e with e; subst e; intro x; subst x; have h9 := hM9.ot; unfold Own at e2 h9; rw [e2] at h9; injection h9 with h9; injection h9 with _ h9; exact absurd h9 (by decide)))
    have HM : Hid (TM w g w.heap.size (w.heap.size + 1) s 6 12 (.string (s.extract 1 5)) (s.extract 6 8) (s.extract 10 11) (L9 1) (L9 4) (L9 5) (L9 6) (L9 7) true (u9 6) (u9 7) (w9.setCell ⟨w.heap.size + 1, 2, none⟩ (.slice (some ⟨gq, 0, none⟩) 1 capq))) := by
      rw [← hq]
      exact hm9
    clear hM9 hD9 hL9 hq hm9
    go_simp
    exact hK9 undef _ trivial trivial HM.out
  case n1 =>
    intro L9 u9 h9
    have h1 := h9 1 (by decide)
    have h4 := h9 4 (by decide)
    have h5 := h9 5 (by decide)
    have h6 := h9 6 (by decide)
    have h7 := h9 7 (by decide)
    have h8 := h9 9 (by decide)
    show TM w g w.heap.size (w.heap.size + 1) s 6 12 (.string (s.extract 1 5)) (s.extract 6 8) (s.extract 10 11) (L9 1) (L9 4) (L9 5) (L9 6) (L9 7) (L9 9) _ _ _
    rw [h1, h4, h5, h6, h7, h8]
    exact ⟨fun h => h, fun h => h, fun h => h, fun h => h, fun h => h, o_r, hch.drew, o_t, o_s, fun h => (by cases h), fun h => (by cases h)⟩
  case k1 =>
    intro i9 v9 w9 x9 h9 g9
    match i9, h9 with
    | 0, h9 => exact h9
    | 1, h9 => exact h9
    | 2, h9 => exact h9
    | 3, h9 => exact h9
    | 4, h9 => exact h9
    | 5, h9 => exact h9
    | 6, h9 => (replace h9 : (fun _ _ => True) v9 w9 := h9); exact trivial
    | 7, h9 => (replace h9 : (fun _ _ => True) v9 w9 := h9); exact trivial
    | 8, h9 => exact h9
    | 9, h9 => exact h9
    | _ + 10, h9 => exact trivial
  intro u9 w9 hE9 hM9 hu9
  have r9_0 : u9 0 = ?v1_0 := hu9 0 (by decide)
  have r9_1 : u9 1 = (.slice none 0 0) := hu9 1 (by decide)
  have r9_2 : u9 2 = ?v1_2 := hu9 2 (by decide)
  have r9_3 : u9 3 = ?v1_3 := hu9 3 (by decide)
  have r9_4 : u9 4 = (.slice none 0 0) := hu9 4 (by decide)
  have r9_5 : u9 5 = (.agg #[.string (s.extract 6 8), .string (s.extract 10 11)]) := hu9 5 (by decide)
  have r9_6 : (fun _ _ => True) (u9 6) w9 := hu9 6 (by decide)
  have r9_7 : (fun _ _ => True) (u9 7) w9 := hu9 7 (by decide)
  have r9_8 : u9 8 = ?v1_8 := hu9 8 (by decide)
  clear hu9
  simp only [putAll, Act.put, List.setIfInBounds_toArray, List.set_cons_succ, List.set_cons_zero, List.getD_cons_succ, List.getD_cons_zero, Nat.reduceAdd, Nat.zero_add]
  simp only [r9_0, r9_1, r9_2, r9_3, r9_4, r9_5, r9_8]
  clear r9_0 r9_1 r9_2 r9_3 r9_4 r9_5 r9_8
  obtain ⟨hrow, hrb⟩ := hM9.ow rfl
  have o_r := hM9.or
  have o_t : Own w9 (w.heap.size + 1) 126 [.bool false, .string (s.extract 1 5), u9 7] := hM9.ot
  have o_s : Sc9 w9 g s 12 := hM9.os
  have hch := hM9.ch
  clear hM9 hE9
  generalize u9 7 = vk at hrow hrb o_t ⊢
  clear r9_6 r9_7 hrb
  obtain ⟨gk, ck, rfl, hgk, -⟩ := hrow.form (by decide)
  have hrd : Rd w9 (some ⟨gk, 0, none⟩) [.string (s.extract 6 8), .string (s.extract 10 11)] := Rd.of_own hrow
  clear hrow
  generalize w9 = wy at o_r o_t o_s hch hrd ⊢
  have tq : wy.cell? ⟨w.heap.size + 1, 0, none⟩ = some (.bool false) := o_t.cell 0
  go_wp2_with fail
  rw [rounds_succ]
  go_wp2_with fail
  clear tq
  refine (HS4.out _ o_s).mono ?_
  rintro e wz ⟨rfl, hb'⟩
  replace o_r := o_r.below hb' o_r.lt
  replace o_t := o_t.below hb' o_t.lt
  replace o_s := o_s.below hb' o_s.lt
  replace hch := hch.bel hb'
  replace hrd := hrd.below hb'
  clear hb'
  have hkg : gk ≠ g := by omega
  go_wp2_with fail
  refine (HG.out _ o_s).mono ?_
  rintro e wg ⟨rfl, o_s', hc'⟩
  replace o_r := hc'.own9 o_r hnr
  replace o_t := hc'.own9 o_t hnt
  replace hrd := hrd.chg9 hc' hkg
  replace hch := hch.trans hc'
  clear hc' o_s
  have o_s := o_s'
  clear o_s'
  have p0 : wg.cell? ⟨g, 0, none⟩ = some (.string s) := o_s.cell 0
  have p1 : wg.cell? ⟨g, 1, none⟩ = some (.int .i64 ((12 + 1 : Nat) : Int)) := o_s.cell 1
  have te : decide (((12 + 1 : Nat) : Int) < (s.size : Int)) = false := decide_eq_false (by have := HZ.out; omega)
  have tf : decide (12 + 1 < s.size) = false := decide_eq_false (by have := HZ.out; omega)
  obtain ⟨ze, hze⟩ : ∃ ze : Nat, ze = 12 + 1 := ⟨_, rfl⟩
  replace o_s : Sc9 wg g s (12 + 1) := o_s
  rw [← hze] at p1 te tf o_s
  clear hze
  go_upto_region 12 with (fail)
  refine wp_reg_f [some 46, some 47, some 48, some 49, some 50, some 51, some 52, some 53, some 54, some 55] [?v4_0, ?v4_1, ?v4_2, ?v4_3, ?v4_4, ?v4_5, ?v4_6, ?v4_7, ?v4_8, ?v4_9] [[], [0], [1], [2], [], [4], [5], [6], [7], [3, 8]] [(0, _)] ⟨rfl, trivial⟩ rfl (by kernel_rfl) rfl rfl (by kernel_rfl) (by kernel_rfl) ⟨?s4_0, ?s4_1, ?s4_2, ?s4_3, ?s4_4, ?s4_5, ?s4_6, ?s4_7, ?s4_8, ?s4_9, trivial⟩ ?p4
  all_goals try (intro t9 w9 hT9 K9 hK9; simp only [OV, FV, List.getD_cons_succ, List.getD_cons_zero, Option.getD_some]; intros)
  case s4_0 | s4_1 | s4_2 | s4_3 | s4_4 | s4_5 | s4_6 | s4_7 | s4_8 | s4_9 =>
    have d9_0 := grow_cell hT9 p0; have d9_1 := grow_cell hT9 p1
    go_simp
    exact hK9 _ (Grow.refl _)
  intro w9 hb9
  simp only [putL, Act.put, List.setIfInBounds_toArray, List.set_cons_succ, List.set_cons_zero]
  replace o_r := o_r.below hb9 o_r.lt
  replace o_t := o_t.below hb9 o_t.lt
  replace o_s := o_s.below hb9 o_s.lt
  replace hch := hch.bel hb9
  replace hrd := hrd.below hb9
  clear hb9 p0 p1
  have qt0 : w9.cell? ⟨w.heap.size + 1, 0, none⟩ = some (.bool false) := o_t.cell 0
  have qt1 : w9.cell? ⟨w.heap.size + 1, 1, none⟩ = some (.string (s.extract 1 5)) := o_t.cell 1
  have qt2 : w9.cell? ⟨w.heap.size + 1, 2, none⟩ = some (.slice (some ⟨gk, 0, none⟩) 1 ck) := o_t.cell 2
  have ft0 := o_t.frozen 0
  have ft1 := o_t.frozen 1
  have ft2 := o_t.frozen 2
  go_wp2_with fail
  clear qt0 qt1 qt2 ft0 ft1 ft2 te tf
  refine (sorted_one gk ck _ _ _ hrd).mono ?_
  rintro e wk ⟨vs, rfl, hsv, hb'⟩
  have hts := o_t.lt
  replace o_r := o_r.below hb' o_r.lt
  replace o_t := o_t.below hb' o_t.lt
  replace o_s := o_s.below hb' o_s.lt
  replace hch := hch.bel hb'
  obtain ⟨gs, cs, rfl, hgs, -⟩ := hsv.form (by decide)
  replace hsv := ownsRow_weak hsv (show w.heap.size ≤ _ by omega)
  have hq0 : (Value.slice (some ⟨gs, 0, none⟩) 1 cs).ownBlock ≠ some w.heap.size := by intro x; injection x with x; have x2 : gs = w.heap.size := x; omega
  have hq1 : (Value.slice (some ⟨gs, 0, none⟩) 1 cs).ownBlock ≠ some (w.heap.size + 1) := by intro x; injection x with x; have x2 : gs = w.heap.size + 1 := x; omega
  clear hb' hrd hts
  have qt0 : wk.cell? ⟨w.heap.size + 1, 0, none⟩ = some (.bool false) := o_t.cell 0
  have qt1 : wk.cell? ⟨w.heap.size + 1, 1, none⟩ = some (.string (s.extract 1 5)) := o_t.cell 1
  have qt2 : wk.cell? ⟨w.heap.size + 1, 2, none⟩ = some (.slice (some ⟨gk, 0, none⟩) 1 ck) := o_t.cell 2
  have ft0 := o_t.frozen 0
  have ft1 := o_t.frozen 1
  have ft2 := o_t.frozen 2
  replace o_r := o_r.far (p := ⟨w.heap.size + 1, 2, none⟩) hrt (.slice (some ⟨gs, 0, none⟩) 1 cs)
  replace o_s := o_s.far (p := ⟨w.heap.size + 1, 2, none⟩) (Ne.symm hnt) (.slice (some ⟨gs, 0, none⟩) 1 cs)
  replace hch := hch.fresh9 (g := w.heap.size + 1) (by omega) 2 (.slice (some ⟨gs, 0, none⟩) 1 cs)
  replace o_t : Own (wk.setCell ⟨w.heap.size + 1, 2, none⟩ (.slice (some ⟨gs, 0, none⟩) 1 cs)) (w.heap.size + 1) 126 [.bool false, .string (s.extract 1 5), .slice (some ⟨gs, 0, none⟩) 1 cs] := o_t.set_ 2 (.slice (some ⟨gs, 0, none⟩) 1 cs)
  have qu0 : (wk.setCell ⟨w.heap.size + 1, 2, none⟩ (.slice (some ⟨gs, 0, none⟩) 1 cs)).cell? ⟨w.heap.size + 1, 0, none⟩ = some (.bool false) := o_t.cell 0
  have qu1 : (wk.setCell ⟨w.heap.size + 1, 2, none⟩ (.slice (some ⟨gs, 0, none⟩) 1 cs)).cell? ⟨w.heap.size + 1, 1, none⟩ = some (.string (s.extract 1 5)) := o_t.cell 1
  have qu2 : (wk.setCell ⟨w.heap.size + 1, 2, none⟩ (.slice (some ⟨gs, 0, none⟩) 1 cs)).cell? ⟨w.heap.size + 1, 2, none⟩ = some (.slice (some ⟨gs, 0, none⟩) 1 cs) := o_t.cell 2
  have qr0 : (wk.setCell ⟨w.heap.size + 1, 2, none⟩ (.slice (some ⟨gs, 0, none⟩) 1 cs)).cell? ⟨w.heap.size, 0, none⟩ = some (.bool false) := o_r.cell 0
  have qr1 : (wk.setCell ⟨w.heap.size + 1, 2, none⟩ (.slice (some ⟨gs, 0, none⟩) 1 cs)).cell? ⟨w.heap.size, 1, none⟩ = some (.string ⟨#[]⟩) := o_r.cell 1
  have qr2 : (wk.setCell ⟨w.heap.size + 1, 2, none⟩ (.slice (some ⟨gs, 0, none⟩) 1 cs)).cell? ⟨w.heap.size, 2, none⟩ = some (.slice none 0 0) := o_r.cell 2
  have fr0 := o_r.frozen 0
  have fr1 := o_r.frozen 1
  have fr2 := o_r.frozen 2
  have o_z := o_r.set3 (.bool false) (.string (s.extract 1 5)) (.slice (some ⟨gs, 0, none⟩) 1 cs)
  have o_y := ((o_s.far (p := ⟨w.heap.size, 0, none⟩) (Ne.symm hnr) (.bool false)).far (p := ⟨w.heap.size, 1, none⟩) (Ne.symm hnr) (.string (s.extract 1 5))).far (p := ⟨w.heap.size, 2, none⟩) (Ne.symm hnr) (.slice (some ⟨gs, 0, none⟩) 1 cs)
  have hcz := ((hch.fresh9 (g := w.heap.size) (Nat.le_refl _) 0 (.bool false)).fresh9 (g := w.heap.size) (Nat.le_refl _) 1 (.string (s.extract 1 5))).fresh9 (g := w.heap.size) (Nat.le_refl _) 2 (.slice (some ⟨gs, 0, none⟩) 1 cs)
  have hsz := ownsRow_setCell_other (a := ⟨w.heap.size, 2, none⟩) (ownsRow_setCell_other (a := ⟨w.heap.size, 1, none⟩) (ownsRow_setCell_other (a := ⟨w.heap.size, 0, none⟩) (ownsRow_setCell_other (a := ⟨w.heap.size + 1, 2, none⟩) hsv hq1 (.slice (some ⟨gs, 0, none⟩) 1 cs)) hq0 (.bool false)) hq0 (.string (s.extract 1 5))) hq0 (.slice (some ⟨gs, 0, none⟩) 1 cs)
  go_wp2
  generalize ((((wk.setCell ⟨w.heap.size + 1, 2, none⟩ (.slice (some ⟨gs, 0, none⟩) 1 cs)).setCell ⟨w.heap.size, 0, none⟩ (.bool false)).setCell ⟨w.heap.size, 1, none⟩ (.string (s.extract 1 5))).setCell ⟨w.heap.size, 2, none⟩ (.slice (some ⟨gs, 0, none⟩) 1 cs)) = wz at o_z o_y hcz hsz ⊢
  have z0 : wz.cell? ⟨w.heap.size, 0, none⟩ = some (.bool false) := o_z.cell 0
  have z1 : wz.cell? ⟨w.heap.size, 1, none⟩ = some (.string (s.extract 1 5)) := o_z.cell 1
  have z2 : wz.cell? ⟨w.heap.size, 2, none⟩ = some (.slice (some ⟨gs, 0, none⟩) 1 cs) := o_z.cell 2
  exact bodyPost_ret (v := .agg #[.bool false, .string (s.extract 1 5), .slice (some ⟨gs, 0, none⟩) 1 cs]) (by simp [results, Tryz.results120, go_sem, z0, z1, z2]) rfl ⟨⟨_, rfl, hsz⟩, ⟨_, o_y⟩, hcz⟩
end Go.Proofs.YtfenjklilocjgaaGreatDoor
