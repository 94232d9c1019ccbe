/- Parts of the proof: Wf, Wu. No condition of its own. -/
import Derived.Test.YtjimfbmegmnocaaGreatDoorWt
import Derived.Test.YtjimfbmegmnocaaGreatDoorRgn
set_option linter.unusedSimpArgs false
set_option linter.unusedVariables false
set_option maxRecDepth 100000
set_option maxHeartbeats 4000000
namespace Go.Proofs.YtjimfbmegmnocaaGreatDoor
open Go.RowKit

theorem cn_step {ws : List ByteArray} {bl : List Bool} {i : Nat} {b : Bool} {t : ByteArray} (hb : bl[i]? = some b) (ht : ws[i]? = some t) (s : ByteArray) : cn (selN ws bl (i + 1)) s = cn (selN ws bl i) s + (if b = true /\ t = s then 1 else 0) := by
 rw [selN, hb, ht]
 cases b with
 | false => simp
 | true =>
  show cn (selN ws bl i ++ [t]) s = _
  rw [cn_add]
  simp
theorem count_nil {S : Nat -> Prop} (w : World) {a t x r n h s : Value} {C : Cor} (q : CorC S w a t x r n h s C) (j : Nat) (HJ : Hid (∀ row ∈ C.toks, j < row.length)) (hN : C.toks.length <= 1000) (z : ByteArray) :
  Calls Tryz.prog 30 #[.agg #[a, t, x, r, n, h, s], .int .i64 (j : Int), .string z, .slice none 0 0] w fun e w' => e = .returned (.int .i64 ((cn (wordsOf C j) z : Nat) : Int)) /\ Below w.heap.size w w' := by
 obtain ⟨At, ct, rfl, u1, u2, -⟩ := EO.form q.t; unfold maxLen at u2; obtain ⟨o_c, hbw⟩ := new1 w [a, .slice At C.toks.length ct, x, r, n, h, s] 30; have HQ := Z' (q.below hbw); have hsz : (w.alloc (.cells #[a, .slice At C.toks.length ct, x, r, n, h, s] 30)).heap.size = w.heap.size + 1 := by simp
 go_enter Tryz.func30, Tryz.ntmps30
 go_upto_region 1 with (fail)
 generalize (w.alloc (.cells #[a, .slice At C.toks.length ct, x, r, n, h, s] 30)) = wb at o_c hbw hsz HQ |-; obtain ⟨B, hB⟩ : ∃ B, B = w.heap.size := ⟨_, rfl⟩; rw [<- hB] at o_c hsz hbw |-; have HB := Z' hB; clear hB q; have qc := o_c.c1
 go_wp2_with fail
 clear qc
 go_loopg [9, 15] (C.toks.length + 1) (fun q9 v8 v9 wr => ∃ i c : Nat, q9 = C.toks.length + 1 - i /\ i <= C.toks.length /\ v9 = .int .i64 (i : Int) /\ v8 = .int .i64 (c : Int) /\ Hid (c = cn (selN (wordsOf C j) (List.replicate (wordsOf C j).length true) i) z) /\ c <= i /\ wr = wb)
 case atStart => exact ⟨0, 0, rfl, Nat.zero_le _, rfl, rfl, rfl, Nat.le_refl _, rfl⟩
 case round =>
  obtain ⟨i, c, rfl, hi, rfl, rfl, HC, hci, hw9⟩ := hrel; subst hw9
  by_cases hlt : i < C.toks.length
  ·skip
   have hji := HJ.out _ (List.getElem_mem hlt); have HW := Z' (wordsOf_get hlt hji); obtain ⟨b, off, v, rfl, -, k0, hv⟩ := RowsO.get HQ.out.t hlt; obtain ⟨Av, cv, rfl, u3, u4, hv2⟩ := EO.form hv; obtain ⟨b2, off2, rfl, -, k1, -⟩ := StrsO.get hv2 hji; unfold maxLen at u4; clear hv hv2; generalize C.toks[i][j] = sj at k1 HW; generalize C.toks[i].length = nr at *; have hi9 : i < (wordsOf C j).length := by rw [wordsOf_length]; exact hlt
   have hnil : ∀ w, (binOp BinOp.eql 86 (.slice none 0 0) (.slice none 0 0)).run Tryz.prog w = .ok (.bool true) w := fun _ => by first | rfl | kernel_rfl
   have HS := Z' (cn_step (bl := (List.replicate (wordsOf C j).length true)) (i := i) (b := true) (by rw [List.getElem?_replicate, if_pos hi9]) HW.out z); clear hi9
   by_cases hs : sj = z
   ·skip
    subst hs; have d1 : (sj.toList == sj.toList) = true := by rw [str_beq]; exact decide_eq_true rfl
    have HC2 : Hid (c + 1 = cn (selN (wordsOf C j) (List.replicate (wordsOf C j).length true) (i + 1)) sj) := by show _ = _; rw [HS.out, HC.out]; simp
    clear HS HC
    go_wp2
    clear d1 k0 k1 hnil
    go_roundg (C.toks.length + 1 - (i + 1))
    case measure => omega
    case rel => exact ⟨i + 1, c + 1, rfl, by omega, by go_num, by go_num, HC2, by omega, rfl⟩
   ·skip
    have d1 : (sj.toList == z.toList) = false := by rw [str_beq]; exact decide_eq_false hs
    have HC2 : Hid (c = cn (selN (wordsOf C j) (List.replicate (wordsOf C j).length true) (i + 1)) z) := by show _ = _; rw [HS.out, HC.out]; simp [hs]
    clear HS HC hs
    go_wp2
    clear d1 k0 k1 hnil
    go_roundg (C.toks.length + 1 - (i + 1))
    case measure => omega
    case rel => exact ⟨i + 1, c, rfl, by omega, by go_num, rfl, HC2, by omega, rfl⟩
  ·skip
   have ei : i = C.toks.length := by omega
   subst ei; have hres : c = cn (wordsOf C j) z := by rw [HC.out, selN_all _ (by rw [wordsOf_length]; exact Nat.le_refl _), List.take_of_length_le (by rw [wordsOf_length]; exact Nat.le_refl _)]
   have HRS := Z' hres; clear hres HC
   go_wp2
   go_ret
   exact ⟨by rw [<- HRS.out]; rfl, HB.out ▸ hbw⟩
theorem count_near {S : Nat -> Prop} (w : World) {a t x r n h s : Value} {C : Cor} (q : CorC S w a t x r n h s C) (j : Nat) (HJ : Hid (∀ row ∈ C.toks, j < row.length)) (hN : C.toks.length <= 1000) (z : ByteArray) {gn : Nat} {bl : List Bool} (ho : Own w gn 4 (bl.map Value.bool)) (hbl : bl.length = C.toks.length) :
  Calls Tryz.prog 30 #[.agg #[a, t, x, r, n, h, s], .int .i64 (j : Int), .string z, .slice (some ⟨gn, 0, none⟩) C.toks.length C.toks.length] w fun e w' => e = .returned (.int .i64 ((cn (nearW C j bl) z : Nat) : Int)) /\ Below w.heap.size w w' := by
 obtain ⟨At, ct, rfl, u1, u2, -⟩ := EO.form q.t; unfold maxLen at u2; obtain ⟨o_c, hbw⟩ := new1 w [a, .slice At C.toks.length ct, x, r, n, h, s] 30; have HQ := Z' (q.below hbw); have hsz : (w.alloc (.cells #[a, .slice At C.toks.length ct, x, r, n, h, s] 30)).heap.size = w.heap.size + 1 := by simp
 have o_m := ho.below hbw ho.lt; have HBL := Z' hbl; clear ho hbl
 go_enter Tryz.func30, Tryz.ntmps30
 go_upto_region 1 with (fail)
 generalize (w.alloc (.cells #[a, .slice At C.toks.length ct, x, r, n, h, s] 30)) = wb at o_c hbw hsz HQ o_m |-; obtain ⟨B, hB⟩ : ∃ B, B = w.heap.size := ⟨_, rfl⟩; rw [<- hB] at o_c hsz hbw |-; have HB := Z' hB; clear hB q; have qc := o_c.c1
 go_wp2_with fail
 clear qc
 go_loopg [9, 15] (C.toks.length + 1) (fun q9 v8 v9 wr => ∃ i c : Nat, q9 = C.toks.length + 1 - i /\ i <= C.toks.length /\ v9 = .int .i64 (i : Int) /\ v8 = .int .i64 (c : Int) /\ Hid (c = cn (selN (wordsOf C j) bl i) z) /\ c <= i /\ wr = wb)
 case atStart => exact ⟨0, 0, rfl, Nat.zero_le _, rfl, rfl, rfl, Nat.le_refl _, rfl⟩
 case round =>
  obtain ⟨i, c, rfl, hi, rfl, rfl, HC, hci, hw9⟩ := hrel; subst hw9
  by_cases hlt : i < C.toks.length
  ·skip
   have hji := HJ.out _ (List.getElem_mem hlt); have HW := Z' (wordsOf_get hlt hji); obtain ⟨b, off, v, rfl, -, k0, hv⟩ := RowsO.get HQ.out.t hlt; obtain ⟨Av, cv, rfl, u3, u4, hv2⟩ := EO.form hv; obtain ⟨b2, off2, rfl, -, k1, -⟩ := StrsO.get hv2 hji; unfold maxLen at u4; clear hv hv2; generalize C.toks[i][j] = sj at k1 HW; generalize C.toks[i].length = nr at *; have hi9 : i < (wordsOf C j).length := by rw [wordsOf_length]; exact hlt
   have hnil : ∀ w, (binOp BinOp.eql 86 (.slice (some ⟨gn, 0, none⟩) C.toks.length C.toks.length) (.slice none 0 0)).run Tryz.prog w = .ok (.bool false) w := fun _ => by first | rfl | kernel_rfl
   have hbi : i < bl.length := by rw [HBL.out]; exact hlt
   have m1 : wr.cell? ⟨gn, i, none⟩ = some (.bool bl[i]) := by rw [o_m.cell]; simp [hbi]
   have HS := Z' (cn_step (bl := bl) (i := i) (List.getElem?_eq_getElem hbi) HW.out z); generalize bl[i] = bi at m1 HS; clear hi9 hbi
   by_cases hs : sj = z
   ·skip
    subst hs; have d1 : (sj.toList == sj.toList) = true := by rw [str_beq]; exact decide_eq_true rfl
    rcases bi with _ | _
    ·skip
     have HC2 : Hid (c = cn (selN (wordsOf C j) bl (i + 1)) sj) := by show _ = _; rw [HS.out, HC.out]; simp
     clear HS HC
     go_wp2
     clear d1 k0 k1 hnil m1
     go_roundg (C.toks.length + 1 - (i + 1))
     case measure => omega
     case rel => exact ⟨i + 1, c, rfl, by omega, by go_num, rfl, HC2, by omega, rfl⟩
    ·skip
     have HC2 : Hid (c + 1 = cn (selN (wordsOf C j) bl (i + 1)) sj) := by show _ = _; rw [HS.out, HC.out]; simp
     clear HS HC
     go_wp2
     clear d1 k0 k1 hnil m1
     go_roundg (C.toks.length + 1 - (i + 1))
     case measure => omega
     case rel => exact ⟨i + 1, c + 1, rfl, by omega, by go_num, by go_num, HC2, by omega, rfl⟩
   ·skip
    have d1 : (sj.toList == z.toList) = false := by rw [str_beq]; exact decide_eq_false hs
    have HC2 : Hid (c = cn (selN (wordsOf C j) bl (i + 1)) z) := by show _ = _; rw [HS.out, HC.out]; simp [hs]
    clear HS HC hs
    go_wp2
    clear d1 k0 k1 hnil m1
    go_roundg (C.toks.length + 1 - (i + 1))
    case measure => omega
    case rel => exact ⟨i + 1, c, rfl, by omega, by go_num, rfl, HC2, by omega, rfl⟩
  ·skip
   have ei : i = C.toks.length := by omega
   subst ei; have hres : c = cn (nearW C j bl) z := by rw [HC.out]; rfl
   have HRS := Z' hres; clear hres HC
   go_wp2
   go_ret
   exact ⟨by rw [<- HRS.out]; rfl, HB.out ▸ hbw⟩
theorem less38_any (x y : ByteArray) (nx ny : Nat) (x2 x3 x4 y2 y3 y4 : Int) (w : World) :
  Calls Tryz.prog 41 #[.agg #[.string x, .int .i64 (nx : Int), .int .i64 x2, .int .i64 x3, .int .i64 x4], .agg #[.string y, .int .i64 (ny : Int), .int .i64 y2, .int .i64 y3, .int .i64 y4]] w fun e w' => e = .returned (.bool (decide (ny < nx) || (decide (nx = ny) && ltS x y))) /\ Below w.heap.size w w' := by
 obtain ⟨o_x, o_y, hbw⟩ := new2 w [.string x, .int .i64 (nx : Int), .int .i64 x2, .int .i64 x3, .int .i64 x4] [.string y, .int .i64 (ny : Int), .int .i64 y2, .int .i64 y3, .int .i64 y4] 49 49; have hsz : ((w.alloc (.cells #[.string x, .int .i64 (nx : Int), .int .i64 x2, .int .i64 x3, .int .i64 x4] 49)).alloc (.cells #[.string y, .int .i64 (ny : Int), .int .i64 y2, .int .i64 y3, .int .i64 y4] 49)).heap.size = w.heap.size + 1 + 1 := by simp
 obtain ⟨res, hres⟩ : ∃ r, r = (decide (ny < nx) || (decide (nx = ny) && ltS x y)) := ⟨_, rfl⟩; rw [<- hres]; have HR := Z' hres; clear hres
 go_enter Tryz.func41, Tryz.ntmps41
 go_upto_region 1 with (fail)
 generalize ((w.alloc (.cells #[.string x, .int .i64 (nx : Int), .int .i64 x2, .int .i64 x3, .int .i64 x4] 49)).alloc (.cells #[.string y, .int .i64 (ny : Int), .int .i64 y2, .int .i64 y3, .int .i64 y4] 49)) = wb at o_x o_y hbw hsz |-; obtain ⟨B, hB⟩ : ∃ B, B = w.heap.size := ⟨_, rfl⟩; rw [<- hB] at o_x o_y hsz hbw |-; have HB := Z' hB; clear hB; obtain ⟨x_0, x_1, x_2, x_3, x_4⟩ := o_x.cells5; obtain ⟨y_0, y_1, y_2, y_3, y_4⟩ := o_y.cells5
 rcases Nat.lt_trichotomy ny nx with h | h | h
 ·have hr : res = true := by rw [HR.out]; simp [h]
  subst hr; clear HR
  go_wp2
  go_ret
  exact ⟨rfl, HB.out ▸ hbw⟩
 ·subst h
  rcases hl : ltS x y with _ | _
  ·have hr : res = false := by rw [HR.out, hl]; simp
   have d1 : Op.bytesLess x.toList y.toList = false := hl; subst hr; clear HR hl
   go_wp2
   go_ret
   exact ⟨rfl, HB.out ▸ hbw⟩
  ·have hr : res = true := by rw [HR.out, hl]; simp
   have d1 : Op.bytesLess x.toList y.toList = true := hl; subst hr; clear HR hl
   go_wp2
   go_ret
   exact ⟨rfl, HB.out ▸ hbw⟩
 ·have hr : res = false := by rw [HR.out]; simp [show ¬ ny < nx by omega, show ¬ nx = ny by omega]
  subst hr; clear HR; have f1 : ((nx : Int) == (ny : Int)) = false := beq_eq_false_iff_ne.2 (by omega); have f2 : ((nx : Nat) == (ny : Nat)) = false := beq_eq_false_iff_ne.2 (by omega); have f3 : decide (ny < nx) = false := decide_eq_false (by omega)
  go_wp2
  go_ret
  exact ⟨rfl, HB.out ▸ hbw⟩
theorem same38_any {S T : Nat -> Prop} (w : World) {v z : Value} {l : List ByteArray} (cc : ByteArray -> List Value) (hcc : ∀ s, ∃ z x1 x2 x3 x4, cc s = [.string z, .int .i64 x1, .int .i64 x2, .int .i64 x3, .int .i64 x4]) (ha : EO S w 5 (fun s e => e = cc s) v l) (hb : EO T w 5 (fun s e => e = cc s) z l) :
  Calls Tryz.prog 12 #[v, z] w fun e w' => e = .returned (.bool true) /\ Below w.heap.size w w' := by
 obtain ⟨A, c, rfl, h1, h2, ha⟩ := EO.form ha; obtain ⟨A2, c2, rfl, h3, h4, hb⟩ := EO.form hb; unfold maxLen at h2 h4; have ue : ((l.length : Int) == (l.length : Int)) = true := by simp
 have ud : ((l.length : Int) != (l.length : Int)) = false := by simp
 have une : (l.length == l.length) = true := by simp
 have und : (l.length != l.length) = false := by simp
 go_enter Tryz.func12, Tryz.ntmps12
 go_wp2_with fail
 clear ue ud une und
 go_loopg [13] (l.length + 1) (fun q v wr => ∃ j : Nat, q = l.length + 1 - j /\ j <= l.length /\ v = .int .i64 (j : Int) /\ Below w.heap.size w wr)
 case atStart => exact ⟨0, rfl, Nat.zero_le _, rfl, Below.refl _ _⟩
 case round =>
  obtain ⟨j, rfl, hj, rfl, hbr⟩ := hrel; have hwr := hbr.size
  by_cases hlt : j < l.length
  ·obtain ⟨b, off, e, rfl, -, -, he, k⟩ := EO.get (EO.below ha hbr) (by decide) hlt; obtain ⟨b2, off2, e2, rfl, -, -, he2, k2⟩ := EO.get (EO.below hb hbr) (by decide) hlt; obtain ⟨z, x1, x2, x3, x4, hz⟩ := hcc l[j]; rw [he, hz] at k; rw [he2, hz] at k2; clear he he2 hz; have k0 : wr.cell? ⟨b, off + j * 5, none⟩ = some (.string z) := k 0 _ rfl; have k1 : wr.cell? ⟨b, off + j * 5 + 1, none⟩ = some (.int .i64 x1) := k 1 _ rfl; have k2' : wr.cell? ⟨b, off + j * 5 + 2, none⟩ = some (.int .i64 x2) := k 2 _ rfl; have k3 : wr.cell? ⟨b, off + j * 5 + 3, none⟩ = some (.int .i64 x3) := k 3 _ rfl; have k4 : wr.cell? ⟨b, off + j * 5 + 4, none⟩ = some (.int .i64 x4) := k 4 _ rfl; have m0 : wr.cell? ⟨b2, off2 + j * 5, none⟩ = some (.string z) := k2 0 _ rfl; have m1 : wr.cell? ⟨b2, off2 + j * 5 + 1, none⟩ = some (.int .i64 x1) := k2 1 _ rfl; have m2 : wr.cell? ⟨b2, off2 + j * 5 + 2, none⟩ = some (.int .i64 x2) := k2 2 _ rfl
   have m3 : wr.cell? ⟨b2, off2 + j * 5 + 3, none⟩ = some (.int .i64 x3) := k2 3 _ rfl; have m4 : wr.cell? ⟨b2, off2 + j * 5 + 4, none⟩ = some (.int .i64 x4) := k2 4 _ rfl; clear k k2
   go_upto_region 6 with (fail)
   have d1 : (z.toList == z.toList) = true := by rw [str_beq]; exact decide_eq_true rfl
   refine wp_reg_f [some 16, some 17, some 18, some 19, some 20, some 21, some 22, some 23, some 24] [?v1_0, ?v1_1, ?v1_2, ?v1_3, ?v1_4, ?v1_5, ?v1_6, ?v1_7, ?v1_8] [[], [], [0, 1], [2], [], [], [4, 5], [6], [3, 7]] [(0, _), (1, _), (5, _)] ⟨rfl, rfl, rfl, trivial⟩ rfl (by kernel_rfl) rfl rfl (by kernel_rfl) (by kernel_rfl) ⟨?s1_0, ?s1_1, ?s1_2, ?s1_3, ?s1_4, ?s1_5, ?s1_6, ?s1_7, ?s1_8, trivial⟩ ?p1
   all_goals try (intro t9 w9 hT9 K9 hK9; simp only [OV, FV, List.getD_cons_succ, List.getD_cons_zero, Option.getD_some]; intros)
   case s1_0 | s1_1 | s1_2 | s1_3 | s1_4 | s1_5 | s1_6 | s1_7 | s1_8 =>
    have d9_0 := grow_cell hT9 k0; have d9_1 := grow_cell hT9 k1; have d9_2 := grow_cell hT9 k2'; have d9_3 := grow_cell hT9 k3; have d9_4 := grow_cell hT9 k4; have d9_5 := grow_cell hT9 m0; have d9_6 := grow_cell hT9 m1; have d9_7 := grow_cell hT9 m2; have d9_8 := grow_cell hT9 m3; have d9_9 := grow_cell hT9 m4
    go_simp; exact hK9 _ (Grow.refl _)
   intro w9 hb9
   simp only [putL, Act.put, List.setIfInBounds_toArray, List.set_cons_succ, List.set_cons_zero]
   go_wp2
   go_roundg (l.length + 1 - (j + 1))
   case measure => omega
   case rel => exact ⟨j + 1, rfl, by omega, by go_num, belowB hbr hwr hb9⟩
  ·go_wp2
   go_ret
   exact ⟨rfl, hbr⟩
open Go.RowKit

theorem txt_none_of {C : Cor} (hF : ChainT 0 C.texts C.toks.length) {q : Int × Int} (h : C.texts.find? (atP q.1) = none) : txtOf C q = none := by
 cases hx : txtOf C q with
 | none => rfl
 | some u => have := (txt_at hF hx).1; rw [h] at this; cases this
theorem txt_none_bad {C : Cor} (hF : ChainT 0 C.texts C.toks.length) {q : Int × Int} {t : Spn} (h : C.texts.find? (atP q.1) = some t) (hb : q.2 <= q.1 \/ t.hi < q.2) : txtOf C q = none := by
 cases hx : txtOf C q with
 | none => rfl
 | some u =>
  obtain ⟨h1, -, -, h2, h3, -⟩ := txt_at hF hx; rw [h] at h1
  injection h1 with h1
  subst h1
  omega
theorem txt_some_of {C : Cor} (hF : ChainT 0 C.texts C.toks.length) {q : Int × Int} {t : Spn} (h : C.texts.find? (atP q.1) = some t) (h1 : q.1 < q.2) (h2 : q.2 <= t.hi) : txtOf C q = some t := by
 cases hx : txtOf C q with
 | none => have := txt_no hF hx h; omega
 | some u =>
  have h3 := (txt_at hF hx).1; rw [h] at h3; exact h3.symm
theorem hit_end (t : Spn) {tl th p e : Nat} (W : Int) (bl : List Bool) (h1 : t.lo = (tl : Int)) (h2 : t.hi = (th : Int)) (h3 : tl <= p) (h4 : p < e) (h5 : e <= th) :
  mk9 bl (fun j => decide (tl <= j) && decide (j < th) && hitB t W ((p : Int), (e : Int)) j) = mk9 bl (hitB t W ((p : Int), (e : Int))) := by
 refine mk9_same fun j _ => ?_; rw [Bool.eq_iff_iff]
 simp only [hitB, Bool.or_eq_true, Bool.and_eq_true, decide_eq_true_eq]
 omega
def flat5 (cc : ByteArray -> List Value) (l : List ByteArray) : List Value := (l.map cc).flatten
section
variable {cc : ByteArray -> List Value} {l m : List ByteArray}
theorem flat5_app : flat5 cc (l ++ m) = flat5 cc l ++ flat5 cc m := by simp [flat5]
theorem flat5_one (s : ByteArray) : flat5 cc [s] = cc s := by simp [flat5]
theorem flat5_len (h5 : ∀ s, (cc s).length = 5) : (flat5 cc l).length = l.length * 5 := by
 induction l with
 | nil => rfl
 | cons s r ih => show ((s :: r).map cc).flatten.length = _; rw [List.map_cons, List.flatten_cons, List.length_append, h5]; have : (r.map cc).flatten.length = r.length * 5 := ih; rw [this, List.length_cons, Nat.add_mul]; omega
theorem flat5_split (h5 : ∀ s, (cc s).length = 5) (k : Nat) (hk : k <= l.length) : (flat5 cc l).take (k * 5) = flat5 cc (l.take k) /\ (flat5 cc l).drop (k * 5) = flat5 cc (l.drop k) := by
 have e : flat5 cc l = flat5 cc (l.take k) ++ flat5 cc (l.drop k) := by rw [<- flat5_app, List.take_append_drop]
 have hl : (flat5 cc (l.take k)).length = k * 5 := by rw [flat5_len h5, List.length_take, Nat.min_eq_left hk]
 rw [e]; exact ⟨List.take_left' hl, List.drop_left' hl⟩
theorem flat5_els (h5 : ∀ s, (cc s).length = 5) : Els 5 (fun s e => e = cc s) (l.map cc) l := ⟨by simp, fun e he => by obtain ⟨s, -, rfl⟩ := List.mem_map.1 he; exact h5 s, fun i e x h1 h2 => by rw [List.getElem?_map, h2] at h1; exact (Option.some.inj h1).symm⟩
theorem flat5_one9 (h1 : ∀ s, ∀ v ∈ cc s, v.oneCell' = true) : ∀ v ∈ flat5 cc l, v.oneCell' = true := by
 intro v hv; obtain ⟨e, he, hv⟩ := List.mem_flatten.1 hv; obtain ⟨s, -, rfl⟩ := List.mem_map.1 he; exact h1 s v hv
theorem flat5_cell {w : World} {B : Nat} {A : Option Addr} {c : Nat} (h5 : ∀ s, (cc s).length = 5) (h : w.ownsRow B 49 5 (.slice A l.length c) l.length (flat5 cc l)) {i : Nat} (hi : i < l.length) :
  ∃ g, A = some ⟨g, 0, none⟩ /\ ∀ j u, (cc l[i])[j]? = some u -> w.cell? ⟨g, i * 5 + j, none⟩ = some u := by
 have hr := Rd.of_own h; have he := flat5_els (l := l) h5; have hg : ∀ j u, (cc l[i])[j]? = some u -> (flat5 cc l)[i * 5 + j]? = some u := fun j u hu => flat_get he.wide i (cc l[i]) j u (by rw [List.getElem?_map, List.getElem?_eq_getElem hi]; rfl) hu; obtain ⟨u0, hu0⟩ : ∃ u, (cc l[i])[0]? = some u := ⟨(cc l[i])[0]'(by rw [h5]; decide), List.getElem?_eq_getElem (by rw [h5]; decide)⟩
 rcases h.2 with ⟨h0, h00⟩ | ⟨g, cap, cur, hv, -⟩
 ·omega
 ·injection hv with e1
  subst e1; refine ⟨g, rfl, fun j u hu => ?_⟩; obtain ⟨b, off, e, hc⟩ := hr _ u (hg j u hu)
  injection e with e
  injection e with e1 e2
  subst e1 e2; rw [Nat.zero_add] at hc; exact hc
end
structure XK (B9 : Nat) (cells : List Value) (la lb : Bool) (u : Value) (w : World) : Prop where
 h : lb = true -> la = true
 a : la = true -> ∃ g, u = .pointer (some ⟨g, 0, none⟩) /\ B9 <= g /\ (lb = false -> Own w g 49 [.string ⟨#[]⟩, .int .i64 0, .int .i64 0, .int .i64 0, .int .i64 0]) /\ (lb = true -> Own w g 49 cells)
 hs : B9 <= w.heap.size
section
variable {B9 : Nat} {cells : List Value} {la lb : Bool} {u : Value} {w w' : World}
theorem XK.next (h : XK B9 cells la lb u w) (hb : Below w.heap.size w w') : XK B9 cells la lb u w' := by
 refine ⟨h.h, fun a => ?_, Nat.le_trans h.hs hb.size⟩; obtain ⟨g, e1, e2, e3, e4⟩ := h.a a; exact ⟨g, e1, e2, fun b => (e3 b).below hb (e3 b).lt, fun b => (e4 b).below hb (e4 b).lt⟩
end
theorem Srt.insert9 {lt : ByteArray -> ByteArray -> Bool} (T : Tot lt) {l : List ByteArray} (h : Srt lt l) {s : ByteArray} {k : Nat} (hk : k <= l.length) (h1 : ∀ y ∈ l.drop k, lt s y = true) (h2 : ∀ y, 0 < k -> l[k - 1]? = some y -> lt s y = false /\ y ≠ s) :
  Srt lt (l.take k ++ [s] ++ l.drop k) /\ ∀ x, x ∈ l.take k ++ [s] ++ l.drop k ↔ (x ∈ l \/ x = s) := by
 refine ⟨?_, fun x => ?_⟩
 ·rw [List.append_assoc]; refine h.put T h1 ?_
  rcases Nat.eq_zero_or_pos k with h0 | h0
  ·subst h0; intro y hy; simp at hy
  ·obtain ⟨k, rfl⟩ : ∃ q, k = q + 1 := ⟨k - 1, by omega⟩; have hlt : k < l.length := by omega
   obtain ⟨a, b⟩ := h2 l[k] (by omega) (List.getElem?_eq_getElem hlt); have hl : lt l[k] s = true := by
    cases hc : lt l[k] s with
    | true => rfl
    | false => exact absurd (T.tri _ _ hc a) b
   exact h.ahead T (List.getElem?_eq_getElem hlt) hl
 ·have e : l = l.take k ++ l.drop k := (List.take_append_drop k l).symm; rw [show (x ∈ l) = (x ∈ l.take k ++ l.drop k) from by rw [<- e]]
  simp only [List.mem_append, List.mem_singleton]
  constructor
  ·rintro ((h | h) | h)
   ·exact .inl (.inl h)
   ·exact .inr h
   ·exact .inl (.inr h)
  ·rintro ((h | h) | h)
   ·exact .inl (.inl h)
   ·exact .inr h
   ·exact .inl (.inr h)
theorem drop_step {α : Type} {l : List α} {k : Nat} (hk : 0 < k) (hl : k <= l.length) {P : α -> Prop} (h : ∀ y ∈ l.drop k, P y) (h1 : ∀ y, l[k - 1]? = some y -> P y) : ∀ y ∈ l.drop (k - 1), P y := by
 obtain ⟨k, rfl⟩ : ∃ q, k = q + 1 := ⟨k - 1, by omega⟩; have hlt : k < l.length := by omega
 intro y hy; rw [Nat.add_sub_cancel, List.drop_eq_getElem_cons hlt] at hy
 rcases List.mem_cons.1 hy with rfl | hy
 ·exact h1 _ (List.getElem?_eq_getElem hlt)
 ·exact h y hy
theorem mem_selN {ws : List ByteArray} {bl : List Bool} {i : Nat} {b : Bool} {t : ByteArray} (hb : bl[i]? = some b) (ht : ws[i]? = some t) (x : ByteArray) : x ∈ selN ws bl (i + 1) ↔ (x ∈ selN ws bl i \/ (b = true /\ x = t)) := by
 rw [selN, hb, ht, List.mem_append]
 cases b <;> simp
end Go.Proofs.YtjimfbmegmnocaaGreatDoor
