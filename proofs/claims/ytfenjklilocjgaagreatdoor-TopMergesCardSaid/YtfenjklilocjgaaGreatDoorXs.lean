/- Parts of the proof: Xs. No condition of its own. -/
import Derived.Test.YtfenjklilocjgaaGreatDoorCk
import Derived.Test.YtfenjklilocjgaaGreatDoorRgn
set_option linter.unusedSimpArgs false
set_option linter.unusedVariables false
set_option linter.unusedSectionVars false
namespace Go.Proofs.YtfenjklilocjgaaGreatDoor
set_option linter.unusedSimpArgs false
set_option linter.unusedVariables false
set_option linter.unusedSectionVars false
open Go.RowKit

theorem belowQ {B : Nat} {w w1 w2 : World} (h : Below B w w1) (hB : B ≤ w.heap.size) (h2 : Below w1.heap.size w1 w2) : Below B w w2 := h.trans (h2.mono (Nat.le_trans hB h.size))
set_option maxRecDepth 100000 in
set_option maxHeartbeats 2000000 in
theorem weight_any {S : Nat → Prop} (v : Value) (l : List (ByteArray × ByteArray)) (w : World) (h : PairsO S w v l) :
    Calls Tryz.prog 24 #[v] w fun e w' => (∃ z : Int, e = .returned (.int .i64 z)) ∧ Below w.heap.size w w' := by
  obtain ⟨A, c, rfl, h1, h2, hp⟩ := EO.form h
  unfold maxLen at h2
  have HP := Lib.hid hp
  clear h hp
  obtain ⟨B, hB⟩ : ∃ B, B = w.heap.size := ⟨_, rfl⟩
  have HB := Lib.hid hB
  clear hB
  go_enter Tryz.func24, Tryz.ntmps24
  go_wp2_with fail
  go_loopg [3, 10] (l.length + 1) (fun q v3 vi wr => ∃ (j : Nat) (x : Int), q = l.length + 1 - j ∧ j ≤ l.length ∧ vi = .int .i64 (j : Int) ∧ v3 = .int .i64 x ∧ Below B w wr)
  case atStart => exact ⟨0, _, rfl, Nat.zero_le _, rfl, rfl, Below.refl _ _⟩
  case round =>
    obtain ⟨j, x, rfl, hj, rfl, rfl, hb⟩ := hrel
    have hbw : Below w.heap.size w wr := by rw [← HB.out]; exact hb
    by_cases hlt : j < l.length
    · obtain ⟨b, off, rfl, -, k0, k1, -, -⟩ := PairsO.get (HP.out.below hbw) hlt
      obtain ⟨o_t, hbt⟩ := new1 wr [.string l[j].1, .string l[j].2] 105
      have hb2 : Below B w (wr.alloc (.cells #[.string l[j].1, .string l[j].2] 105)) := belowQ hb (by have := HB.out; omega) hbt
      clear hbw
      go_upto_region 5 with (fail)
      generalize (wr.alloc (.cells #[.string l[j].1, .string l[j].2] 105)) = wt at o_t hb2 ⊢
      have t0 : wt.cell? ⟨wr.heap.size, 0, none⟩ = some (.string l[j].1) := o_t.cell 0
      have t1 : wt.cell? ⟨wr.heap.size, 1, none⟩ = some (.string l[j].2) := o_t.cell 1
      clear k0 k1 hb hbt
      go_wp2
      go_roundg (l.length + 1 - (j + 1))
      case measure => omega
      case rel => exact ⟨j + 1, _, rfl, by omega, by go_num, rfl, hb2⟩
    · go_wp2
      go_ret
      exact ⟨⟨_, rfl⟩, hbw⟩
set_option maxRecDepth 100000 in
set_option maxHeartbeats 4000000 in
theorem weight6_any {S : Nat → Prop} {a t x r n h s : Value} {C : Cor} (w : World) (q : CorC S w a t x r n h s C) :
    Calls Tryz.prog 11 #[.agg #[a, t, x, r, n, h, s]] w fun e w' => (∃ z : Int, e = .returned (.int .i64 z)) ∧ Below w.heap.size w w' := by
  obtain ⟨A0, c0, rfl, l0, u0, -⟩ := EO.form q.a
  have b0 : C.attrs.length ≤ 9223372036854775807 := by unfold maxLen at u0; omega
  obtain ⟨A1, c1, rfl, l1, u1, -⟩ := EO.form q.t
  have b1 : C.toks.length ≤ 9223372036854775807 := by unfold maxLen at u1; omega
  obtain ⟨A2, c2, rfl, l2, u2, -⟩ := EO.form q.x
  have b2 : C.texts.length ≤ 9223372036854775807 := by unfold maxLen at u2; omega
  obtain ⟨A3, c3, rfl, l3, u3, -⟩ := EO.form q.r
  have b3 : C.regs.length ≤ 9223372036854775807 := by unfold maxLen at u3; omega
  obtain ⟨A4, c4, rfl, l4, u4, -⟩ := EO.form q.n
  have b4 : C.nodes.length ≤ 9223372036854775807 := by unfold maxLen at u4; omega
  obtain ⟨A5, c5, rfl, l5, u5, -⟩ := EO.form q.h
  have b5 : C.heads.length ≤ 9223372036854775807 := by unfold maxLen at u5; omega
  obtain ⟨A6, c6, rfl, l6, u6, -⟩ := EO.form q.s
  have b6 : C.rels.length ≤ 9223372036854775807 := by unfold maxLen at u6; omega
  clear u0 u1 u2 u3 u4 u5 u6 l0 l1 l2 l3 l4 l5 l6
  have HQ := Lib.hid q
  clear q
  obtain ⟨o_c, hbw⟩ := new1 w [.slice A0 C.attrs.length c0, .slice A1 C.toks.length c1, .slice A2 C.texts.length c2, .slice A3 C.regs.length c3, .slice A4 C.nodes.length c4, .slice A5 C.heads.length c5, .slice A6 C.rels.length c6] 30
  go_enter Tryz.func11, Tryz.ntmps11
  go_upto_region 1 with (fail)
  generalize (w.alloc (.cells #[.slice A0 C.attrs.length c0, .slice A1 C.toks.length c1, .slice A2 C.texts.length c2, .slice A3 C.regs.length c3, .slice A4 C.nodes.length c4, .slice A5 C.heads.length c5, .slice A6 C.rels.length c6] 30)) = wb at o_c hbw ⊢
  obtain ⟨B, hB⟩ : ∃ B, B = w.heap.size := ⟨_, rfl⟩
  rw [← hB] at o_c hbw ⊢
  have HB := Lib.hid hB
  have HO := Lib.hid o_c
  have hb := hbw
  clear hB o_c hbw
  have m0 : wb.cell? ⟨B, 0, none⟩ = some (.slice A0 C.attrs.length c0) := HO.out.cell 0
  have m5 : wb.cell? ⟨B, 5, none⟩ = some (.slice A5 C.heads.length c5) := HO.out.cell 5
  go_wp2_with fail
  go_loopg [3, 28] (C.attrs.length + 1) (fun q v3 vi wr => ∃ (j : Nat) (x : Int), q = C.attrs.length + 1 - j ∧ j ≤ C.attrs.length ∧ vi = .int .i64 (j : Int) ∧ v3 = .int .i64 x ∧ Hid (Own wr B 30 [.slice A0 C.attrs.length c0, .slice A1 C.toks.length c1, .slice A2 C.texts.length c2, .slice A3 C.regs.length c3, .slice A4 C.nodes.length c4, .slice A5 C.heads.length c5, .slice A6 C.rels.length c6]) ∧ Below B w wr)
  case atStart => exact ⟨0, _, rfl, Nat.zero_le _, rfl, rfl, HO, hb⟩
  case round =>
    clear HO hb m0 m5
    obtain ⟨j, x, rfl, hj, rfl, rfl, HO, hb⟩ := hrel
    by_cases hlt : j < C.attrs.length
    · have hbw : Below w.heap.size w wr := by rw [← HB.out]; exact hb
      have q := HQ.out.below hbw
      clear hbw
      obtain ⟨b, off, rfl, -, k0, k1, -⟩ := AttrsO.get q.a hlt
      generalize C.attrs[j] = u at k0 k1
      clear q
      obtain ⟨o_t, hbt⟩ := new1 wr [.string u.1, .bool u.2] 64
      have hb2 : Below B w (wr.alloc (.cells #[.string u.1, .bool u.2] 64)) := belowQ hb (by have := HB.out; omega) hbt
      have HO2 := Lib.hid (HO.out.below hbt HO.out.lt)
      go_upto_region 5 with (fail)
      generalize (wr.alloc (.cells #[.string u.1, .bool u.2] 64)) = wt at o_t hbt hb2 HO2 ⊢
      have t0 : wt.cell? ⟨wr.heap.size, 0, none⟩ = some (.string u.1) := o_t.cell 0
      clear k0 k1 hbt HO hb
      go_wp2
      go_roundg (C.attrs.length + 1 - (j + 1))
      case measure => omega
      case rel => exact ⟨j + 1, _, rfl, by omega, by go_num, rfl, HO2, hb2⟩
    · obtain ⟨w0, hw0⟩ : ∃ x, x = wr := ⟨_, rfl⟩
      rw [← hw0] at HO hb ⊢
      clear hw0
      have m1 : w0.cell? ⟨B, 1, none⟩ = some (.slice A1 C.toks.length c1) := HO.out.cell 1
      go_wp2_with fail
      go_loopg [3, 41] (C.toks.length + 1) (fun q v3 vi wr => ∃ (j : Nat) (x : Int), q = C.toks.length + 1 - j ∧ j ≤ C.toks.length ∧ vi = .int .i64 (j : Int) ∧ v3 = .int .i64 x ∧ Hid (Own wr B 30 [.slice A0 C.attrs.length c0, .slice A1 C.toks.length c1, .slice A2 C.texts.length c2, .slice A3 C.regs.length c3, .slice A4 C.nodes.length c4, .slice A5 C.heads.length c5, .slice A6 C.rels.length c6]) ∧ Below B w wr)
      case atStart => exact ⟨0, _, rfl, Nat.zero_le _, rfl, rfl, HO, hb⟩
      case round =>
        clear HO hb m1
        obtain ⟨j, x, rfl, hj, rfl, rfl, HO, hb⟩ := hrel
        by_cases hlt : j < C.toks.length
        · have hbw : Below w.heap.size w wr := by rw [← HB.out]; exact hb
          have q := HQ.out.below hbw
          clear hbw
          obtain ⟨b, off, v, rfl, -, k0, hv⟩ := RowsO.get q.t hlt
          obtain ⟨Av, cv, rfl, l2, u2, -⟩ := EO.form hv
          unfold maxLen at u2
          generalize C.toks[j] = row at k0 hv u2 l2
          have b9 : row.length ≤ 9223372036854775807 := by omega
          clear u2 l2
          have HV := Lib.hid hv
          obtain ⟨wi, hwi⟩ : ∃ x, x = wr := ⟨_, rfl⟩
          rw [← hwi] at HO hb HV k0 ⊢
          clear q hv hwi
          go_wp2_with fail
          clear k0
          go_loopg [3, 49] (row.length + 1) (fun q v3 vi wr => ∃ (k : Nat) (y : Int), q = row.length + 1 - k ∧ k ≤ row.length ∧ vi = .int .i64 (k : Int) ∧ v3 = .int .i64 y ∧ wr = wi)
          case atStart => exact ⟨0, _, rfl, Nat.zero_le _, rfl, rfl, rfl⟩
          case round =>
            obtain ⟨k, y, rfl, hk, rfl, rfl, hw⟩ := hrel
            subst hw
            by_cases hlk : k < row.length
            · obtain ⟨b3, off3, rfl, -, k3, -⟩ := StrsO.get HV.out hlk
              generalize row[k] = u at k3
              go_wp2
              go_roundg (row.length + 1 - (k + 1))
              case measure => omega
              case rel => exact ⟨k + 1, _, rfl, by omega, by go_num, rfl, rfl⟩
            · go_wp2
              go_roundg (C.toks.length + 1 - (j + 1))
              case measure => omega
              case rel => exact ⟨j + 1, _, rfl, by omega, by go_num, rfl, HO, hb⟩
        · obtain ⟨w1, hw1⟩ : ∃ x, x = wr := ⟨_, rfl⟩
          rw [← hw1] at HO hb ⊢
          clear hw1
          have m2 : w1.cell? ⟨B, 2, none⟩ = some (.slice A2 C.texts.length c2) := HO.out.cell 2
          go_wp2_with fail
          go_loopg [3, 63] (C.texts.length + 1) (fun q v3 vi wr => ∃ (j : Nat) (x : Int), q = C.texts.length + 1 - j ∧ j ≤ C.texts.length ∧ vi = .int .i64 (j : Int) ∧ v3 = .int .i64 x ∧ Hid (Own wr B 30 [.slice A0 C.attrs.length c0, .slice A1 C.toks.length c1, .slice A2 C.texts.length c2, .slice A3 C.regs.length c3, .slice A4 C.nodes.length c4, .slice A5 C.heads.length c5, .slice A6 C.rels.length c6]) ∧ Below B w wr)
          case atStart => exact ⟨0, _, rfl, Nat.zero_le _, rfl, rfl, HO, hb⟩
          case round =>
            clear HO hb m2
            obtain ⟨j, x, rfl, hj, rfl, rfl, HO, hb⟩ := hrel
            by_cases hlt : j < C.texts.length
            · have hbw : Below w.heap.size w wr := by rw [← HB.out]; exact hb
              have q := HQ.out.below hbw
              clear hbw
              obtain ⟨b, off, m, rfl, -, k0, k1, k2, k3, hm, -, -, -⟩ := SpnsO.get q.x hlt
              obtain ⟨Am, cm, rfl, -, -, -⟩ := EO.form hm
              generalize C.texts[j] = u at k0 k1 k2 k3 hm
              clear q
              obtain ⟨o_t, hbt⟩ := new1 wr [.string u.name, .int .i64 u.lo, .int .i64 u.hi, .slice Am u.keys.length cm] 71
              have hb2 : Below B w (wr.alloc (.cells #[.string u.name, .int .i64 u.lo, .int .i64 u.hi, .slice Am u.keys.length cm] 71)) := belowQ hb (by have := HB.out; omega) hbt
              have HO2 := Lib.hid (HO.out.below hbt HO.out.lt)
              go_upto_region 20 with (fail)
              generalize (wr.alloc (.cells #[.string u.name, .int .i64 u.lo, .int .i64 u.hi, .slice Am u.keys.length cm] 71)) = wt at o_t hbt hb2 HO2 ⊢
              have t0 : wt.cell? ⟨wr.heap.size, 0, none⟩ = some (.string u.name) := o_t.cell 0
              have t3 : wt.cell? ⟨wr.heap.size, 3, none⟩ = some (.slice Am u.keys.length cm) := o_t.cell 3
              have HM := Lib.hid (hm.below hbt)
              clear k0 k1 k2 k3 hbt HO hb hm
              refine wp_reg_n (fun a b => Below wt.heap.size a b) (fun L u w8 => (L 10 = false → u 10 = .int .i64 x) ∧ (L 10 = true → L 0 = true) ∧ (L 9 = true → L 0 = true)) ((fun a => Below.refl _ a)) ((fun _ _ _ h h' => h.trans h')) [some 67, some 68, some 69, some 70, some 71, some 72, some 73, some 74, some 75, some 76, some 3] [isV (.int .i64 x), isV ?v1_1, isV ?v1_2, isV ?v1_3, isV ?v1_4, isV ?v1_5, isV ?v1_6, (fun v _ => ∃ z : Int, v = .int .i64 z), (fun v _ => ∃ z : Int, v = .int .i64 z), (fun v _ => ∃ z : Int, v = .int .i64 z), (fun v _ => ∃ z : Int, v = .int .i64 z)] rfl (by kernel_rfl) rfl rfl ?n1 ?k1 ⟨?s1_0, ?s1_1, ?s1_2, ?s1_3, ?s1_4, ?s1_5, ?s1_6, ?s1_7, ?s1_8, ?s1_9, ?s1_10, trivial⟩ ?p1
              case s1_0 =>
                intro L9 u9 t9 w9 hT9 hL9 hD9 hV9 hO9 hN9 hM9 K9 hK9
                clear hV9 hO9
                have d0 : w9.cell? ⟨wr.heap.size, 0, none⟩ = some (.string u.name) := (Own.below (show Own (World.drew wt) _ _ _ from o_t) hT9 o_t.lt).cell 0
                have d3 : w9.cell? ⟨wr.heap.size, 3, none⟩ = some (.slice Am u.keys.length cm) := (Own.below (show Own (World.drew wt) _ _ _ from o_t) hT9 o_t.lt).cell 3
                obtain ⟨m1, m2, m3⟩ := hM9
                have l10 : L9 10 = false := by cases h : L9 10 with | false => rfl | true => (have := m2 h; rw [hL9] at this; cases this)
                have o9_3 : t9[3]? = some (.int .i64 x) := by rw [hN9 10 3 rfl (of_decide_eq_true (by kernel_rfl)), m1 l10]
                go_simp
                exact hK9 _ _ (Below.refl _ w9) rfl ⟨fun _ => m1 l10, fun _ => rfl, fun _ => rfl⟩
              case s1_1 =>
                intro L9 u9 t9 w9 hT9 hL9 hD9 hV9 hO9 hN9 hM9 K9 hK9
                have o9_11 := hO9 11 _ (show List.contains _ _ = false from by kernel_rfl) rfl
                clear hV9 hO9 hN9
                clear hL9 hD9
                go_simp
                (refine hK9 _ _ ((fun a => Below.refl _ a) w9) ?_ hM9; exact rfl)
              case s1_2 =>
                intro L9 u9 t9 w9 hT9 hL9 hD9 hV9 hO9 hN9 hM9 K9 hK9
                obtain ⟨x9_1, p9_1, q9_1⟩ := hV9 1 68 rfl rfl (of_decide_eq_true (by kernel_rfl))
                obtain ⟨q9_1, e9_1⟩ := q9_1
                obtain rfl : x9_1 = ?v1_1 := q9_1
                clear e9_1
                clear hV9 hO9 hN9
                clear hL9 hD9
                have d0 : w9.cell? ⟨wr.heap.size, 0, none⟩ = some (.string u.name) := (Own.below (show Own (World.drew wt) _ _ _ from o_t) hT9 o_t.lt).cell 0
                have d3 : w9.cell? ⟨wr.heap.size, 3, none⟩ = some (.slice Am u.keys.length cm) := (Own.below (show Own (World.drew wt) _ _ _ from o_t) hT9 o_t.lt).cell 3
                go_simp
                (refine hK9 _ _ ((fun a => Below.refl _ a) w9) ?_ hM9; exact rfl)
              case s1_3 =>
                intro L9 u9 t9 w9 hT9 hL9 hD9 hV9 hO9 hN9 hM9 K9 hK9
                obtain ⟨x9_2, p9_2, q9_2⟩ := hV9 2 69 rfl rfl (of_decide_eq_true (by kernel_rfl))
                obtain ⟨q9_2, e9_2⟩ := q9_2
                obtain rfl : x9_2 = ?v1_2 := q9_2
                clear e9_2
                clear hV9 hO9 hN9
                clear hL9 hD9
                go_simp
                (refine hK9 _ _ ((fun a => Below.refl _ a) w9) ?_ hM9; exact rfl)
              case s1_4 =>
                intro L9 u9 t9 w9 hT9 hL9 hD9 hV9 hO9 hN9 hM9 K9 hK9
                obtain ⟨x9_3, p9_3, q9_3⟩ := hV9 3 70 rfl rfl (of_decide_eq_true (by kernel_rfl))
                obtain ⟨q9_3, e9_3⟩ := q9_3
                obtain rfl : x9_3 = ?v1_3 := q9_3
                clear e9_3
                clear hV9 hO9 hN9
                clear hL9 hD9
                go_simp
                (refine hK9 _ _ ((fun a => Below.refl _ a) w9) ?_ hM9; exact rfl)
              case s1_5 =>
                intro L9 u9 t9 w9 hT9 hL9 hD9 hV9 hO9 hN9 hM9 K9 hK9
                have o9_11 := hO9 11 _ (show List.contains _ _ = false from by kernel_rfl) rfl
                clear hV9 hO9 hN9
                clear hL9 hD9
                go_simp
                (refine hK9 _ _ ((fun a => Below.refl _ a) w9) ?_ hM9; exact rfl)
              case s1_6 =>
                intro L9 u9 t9 w9 hT9 hL9 hD9 hV9 hO9 hN9 hM9 K9 hK9
                obtain ⟨x9_5, p9_5, q9_5⟩ := hV9 5 72 rfl rfl (of_decide_eq_true (by kernel_rfl))
                obtain ⟨q9_5, e9_5⟩ := q9_5
                obtain rfl : x9_5 = ?v1_5 := q9_5
                clear e9_5
                clear hV9 hO9 hN9
                clear hL9 hD9
                have d0 : w9.cell? ⟨wr.heap.size, 0, none⟩ = some (.string u.name) := (Own.below (show Own (World.drew wt) _ _ _ from o_t) hT9 o_t.lt).cell 0
                have d3 : w9.cell? ⟨wr.heap.size, 3, none⟩ = some (.slice Am u.keys.length cm) := (Own.below (show Own (World.drew wt) _ _ _ from o_t) hT9 o_t.lt).cell 3
                go_simp
                (refine hK9 _ _ ((fun a => Below.refl _ a) w9) ?_ hM9; exact rfl)
              case s1_7 =>
                intro L9 u9 t9 w9 hT9 hL9 hD9 hV9 hO9 hN9 hM9 K9 hK9
                obtain ⟨x9_6, p9_6, q9_6⟩ := hV9 6 73 rfl rfl (of_decide_eq_true (by kernel_rfl))
                obtain ⟨q9_6, e9_6⟩ := q9_6
                obtain rfl : x9_6 = ?v1_6 := q9_6
                clear e9_6
                clear hV9 hO9
                have d0 : w9.cell? ⟨wr.heap.size, 0, none⟩ = some (.string u.name) := (Own.below (show Own (World.drew wt) _ _ _ from o_t) hT9 o_t.lt).cell 0
                have d3 : w9.cell? ⟨wr.heap.size, 3, none⟩ = some (.slice Am u.keys.length cm) := (Own.below (show Own (World.drew wt) _ _ _ from o_t) hT9 o_t.lt).cell 3
                go_simp
                refine (weight_any _ _ _ (HM.out.below (show Below wt.heap.size wt w9 from ⟨hT9.os, hT9.tape, hT9.output, hT9.size, hT9.block⟩))).mono ?_
                rintro e w8 ⟨⟨z, rfl⟩, hb8⟩
                exact hK9 _ _ (hb8.mono hT9.size) ⟨z, rfl⟩ hM9
              case s1_8 =>
                intro L9 u9 t9 w9 hT9 hL9 hD9 hV9 hO9 hN9 hM9 K9 hK9
                obtain ⟨x9_4, p9_4, q9_4⟩ := hV9 4 71 rfl rfl (of_decide_eq_true (by kernel_rfl))
                obtain ⟨q9_4, e9_4⟩ := q9_4
                obtain rfl : x9_4 = ?v1_4 := q9_4
                clear e9_4
                obtain ⟨x9_7, p9_7, q9_7⟩ := hV9 7 74 rfl rfl (of_decide_eq_true (by kernel_rfl))
                obtain ⟨q9_7, e9_7⟩ := q9_7
                replace q9_7 : ((fun v _ => ∃ z : Int, v = .int .i64 z)) x9_7 w9 := q9_7
                obtain ⟨z7, rfl⟩ := q9_7
                clear hV9 hO9
                have d0 : w9.cell? ⟨wr.heap.size, 0, none⟩ = some (.string u.name) := (Own.below (show Own (World.drew wt) _ _ _ from o_t) hT9 o_t.lt).cell 0
                have d3 : w9.cell? ⟨wr.heap.size, 3, none⟩ = some (.slice Am u.keys.length cm) := (Own.below (show Own (World.drew wt) _ _ _ from o_t) hT9 o_t.lt).cell 3
                clear e9_7
                go_simp
                exact hK9 _ _ (Below.refl _ w9) ⟨_, rfl⟩ hM9
              case s1_9 =>
                intro L9 u9 t9 w9 hT9 hL9 hD9 hV9 hO9 hN9 hM9 K9 hK9
                obtain ⟨x9_0, p9_0, q9_0⟩ := hV9 0 67 rfl rfl (of_decide_eq_true (by kernel_rfl))
                obtain ⟨q9_0, e9_0⟩ := q9_0
                obtain rfl : x9_0 = (.int .i64 x) := q9_0
                clear e9_0
                obtain ⟨x9_8, p9_8, q9_8⟩ := hV9 8 75 rfl rfl (of_decide_eq_true (by kernel_rfl))
                obtain ⟨q9_8, e9_8⟩ := q9_8
                replace q9_8 : ((fun v _ => ∃ z : Int, v = .int .i64 z)) x9_8 w9 := q9_8
                obtain ⟨z8, rfl⟩ := q9_8
                clear hV9 hO9
                have d0 : w9.cell? ⟨wr.heap.size, 0, none⟩ = some (.string u.name) := (Own.below (show Own (World.drew wt) _ _ _ from o_t) hT9 o_t.lt).cell 0
                have d3 : w9.cell? ⟨wr.heap.size, 3, none⟩ = some (.slice Am u.keys.length cm) := (Own.below (show Own (World.drew wt) _ _ _ from o_t) hT9 o_t.lt).cell 3
                have l0 := hD9 0 rfl
                clear e9_8
                go_simp
                exact hK9 _ _ (Below.refl _ w9) ⟨_, rfl⟩ ⟨hM9.1, hM9.2.1, fun _ => l0⟩
              case s1_10 =>
                intro L9 u9 t9 w9 hT9 hL9 hD9 hV9 hO9 hN9 hM9 K9 hK9
                obtain ⟨x9_9, p9_9, q9_9⟩ := hV9 9 76 rfl rfl (of_decide_eq_true (by kernel_rfl))
                obtain ⟨q9_9, e9_9⟩ := q9_9
                replace q9_9 : ((fun v _ => ∃ z : Int, v = .int .i64 z)) x9_9 w9 := q9_9
                obtain ⟨z9, rfl⟩ := q9_9
                clear hV9 hO9
                have d0 : w9.cell? ⟨wr.heap.size, 0, none⟩ = some (.string u.name) := (Own.below (show Own (World.drew wt) _ _ _ from o_t) hT9 o_t.lt).cell 0
                have d3 : w9.cell? ⟨wr.heap.size, 3, none⟩ = some (.slice Am u.keys.length cm) := (Own.below (show Own (World.drew wt) _ _ _ from o_t) hT9 o_t.lt).cell 3
                have l0 := hM9.2.2 (hD9 9 rfl)
                clear e9_9
                go_simp
                exact hK9 _ _ (Below.refl _ w9) ⟨_, rfl⟩ ⟨(fun h => nomatch h), (fun _ => l0), hM9.2.2⟩
              case n1 =>
                intro L9 u9 h9 n9
                exact ⟨fun _ => (Option.some.inj (n9 10 3 rfl (of_decide_eq_true (by kernel_rfl)))).symm, (fun h => by rw [h9 10 (by decide)] at h; cases h), (fun h => by rw [h9 9 (by decide)] at h; cases h)⟩
              case k1 =>
                intro i9 v9 w9 x9 h9 g9
                match i9, h9 with
                | 0, h9 => exact h9
                | 1, h9 => exact h9
                | 2, h9 => exact h9
                | 3, h9 => exact h9
                | 4, h9 => exact h9
                | 5, h9 => exact h9
                | 6, h9 => exact h9
                | 7, h9 => (replace h9 : (fun v _ => ∃ z : Int, v = .int .i64 z) v9 w9 := h9); exact h9
                | 8, h9 => (replace h9 : (fun v _ => ∃ z : Int, v = .int .i64 z) v9 w9 := h9); exact h9
                | 9, h9 => (replace h9 : (fun v _ => ∃ z : Int, v = .int .i64 z) v9 w9 := h9); exact h9
                | 10, h9 => (replace h9 : (fun v _ => ∃ z : Int, v = .int .i64 z) v9 w9 := h9); exact h9
                | _ + 11, h9 => exact trivial
              intro u9 w9 hE9 hM9 hu9
              have r9_0 : u9 0 = (.int .i64 x) := hu9 0 (by decide)
              have r9_1 : u9 1 = ?v1_1 := hu9 1 (by decide)
              have r9_2 : u9 2 = ?v1_2 := hu9 2 (by decide)
              have r9_3 : u9 3 = ?v1_3 := hu9 3 (by decide)
              have r9_4 : u9 4 = ?v1_4 := hu9 4 (by decide)
              have r9_5 : u9 5 = ?v1_5 := hu9 5 (by decide)
              have r9_6 : u9 6 = ?v1_6 := hu9 6 (by decide)
              have r9_7 : (fun v _ => ∃ z : Int, v = .int .i64 z) (u9 7) w9 := hu9 7 (by decide)
              have r9_8 : (fun v _ => ∃ z : Int, v = .int .i64 z) (u9 8) w9 := hu9 8 (by decide)
              have r9_9 : (fun v _ => ∃ z : Int, v = .int .i64 z) (u9 9) w9 := hu9 9 (by decide)
              have r9_10 : (fun v _ => ∃ z : Int, v = .int .i64 z) (u9 10) w9 := hu9 10 (by decide)
              clear hu9
              simp only [putAll, Act.put, List.setIfInBounds_toArray, List.set_cons_succ, List.set_cons_zero, List.getD_cons_succ, List.getD_cons_zero, Nat.reduceAdd, Nat.zero_add]
              simp only [r9_0, r9_1, r9_2, r9_3, r9_4, r9_5, r9_6]
              clear r9_0 r9_1 r9_2 r9_3 r9_4 r9_5 r9_6
              generalize u9 7 = z9_7 at r9_7 ⊢
              generalize u9 8 = z9_8 at r9_8 ⊢
              generalize u9 9 = z9_9 at r9_9 ⊢
              generalize u9 10 = z9_10 at r9_10 ⊢
              replace hE9 : Below wt.heap.size wt w9 := ⟨hE9.os, hE9.tape, hE9.output, hE9.size, hE9.block⟩
              clear hM9
              obtain ⟨z9, rfl⟩ := r9_10
              have HO3 := Lib.hid (HO2.out.below hE9 HO2.out.lt)
              have hb3 := belowQ hb2 (by have := HB.out; omega) hE9
              clear HO2 hb2 t0 t3
              go_wp2
              go_roundg (C.texts.length + 1 - (j + 1))
              case measure => omega
              case rel => exact ⟨j + 1, _, rfl, by omega, by go_num, rfl, HO3, hb3⟩
            · obtain ⟨w2, hw2⟩ : ∃ x, x = wr := ⟨_, rfl⟩
              rw [← hw2] at HO hb ⊢
              clear hw2
              have m3 : w2.cell? ⟨B, 3, none⟩ = some (.slice A3 C.regs.length c3) := HO.out.cell 3
              go_wp2_with fail
              go_loopg [3, 81] (C.regs.length + 1) (fun q v3 vi wr => ∃ (j : Nat) (x : Int), q = C.regs.length + 1 - j ∧ j ≤ C.regs.length ∧ vi = .int .i64 (j : Int) ∧ v3 = .int .i64 x ∧ Hid (Own wr B 30 [.slice A0 C.attrs.length c0, .slice A1 C.toks.length c1, .slice A2 C.texts.length c2, .slice A3 C.regs.length c3, .slice A4 C.nodes.length c4, .slice A5 C.heads.length c5, .slice A6 C.rels.length c6]) ∧ Below B w wr)
              case atStart => exact ⟨0, _, rfl, Nat.zero_le _, rfl, rfl, HO, hb⟩
              case round =>
                clear HO hb m3
                obtain ⟨j, x, rfl, hj, rfl, rfl, HO, hb⟩ := hrel
                by_cases hlt : j < C.regs.length
                · have hbw : Below w.heap.size w wr := by rw [← HB.out]; exact hb
                  have q := HQ.out.below hbw
                  clear hbw
                  obtain ⟨b, off, m, rfl, -, k0, k1, k2, k3, hm, -, -, -⟩ := SpnsO.get q.r hlt
                  obtain ⟨Am, cm, rfl, -, -, -⟩ := EO.form hm
                  generalize C.regs[j] = u at k0 k1 k2 k3 hm
                  clear q
                  obtain ⟨o_t, hbt⟩ := new1 wr [.string u.name, .int .i64 u.lo, .int .i64 u.hi, .slice Am u.keys.length cm] 69
                  have hb2 : Below B w (wr.alloc (.cells #[.string u.name, .int .i64 u.lo, .int .i64 u.hi, .slice Am u.keys.length cm] 69)) := belowQ hb (by have := HB.out; omega) hbt
                  have HO2 := Lib.hid (HO.out.below hbt HO.out.lt)
                  go_upto_region 25 with (fail)
                  generalize (wr.alloc (.cells #[.string u.name, .int .i64 u.lo, .int .i64 u.hi, .slice Am u.keys.length cm] 69)) = wt at o_t hbt hb2 HO2 ⊢
                  have t0 : wt.cell? ⟨wr.heap.size, 0, none⟩ = some (.string u.name) := o_t.cell 0
                  have t3 : wt.cell? ⟨wr.heap.size, 3, none⟩ = some (.slice Am u.keys.length cm) := o_t.cell 3
                  have HM := Lib.hid (hm.below hbt)
                  clear k0 k1 k2 k3 hbt HO hb hm
                  refine wp_reg_n (fun a b => Below wt.heap.size a b) (fun L u w8 => (L 10 = false → u 10 = .int .i64 x) ∧ (L 10 = true → L 0 = true) ∧ (L 9 = true → L 0 = true)) ((fun a => Below.refl _ a)) ((fun _ _ _ h h' => h.trans h')) [some 85, some 86, some 87, some 88, some 89, some 90, some 91, some 92, some 93, some 94, some 3] [isV (.int .i64 x), isV ?v2_1, isV ?v2_2, isV ?v2_3, isV ?v2_4, isV ?v2_5, isV ?v2_6, (fun v _ => ∃ z : Int, v = .int .i64 z), (fun v _ => ∃ z : Int, v = .int .i64 z), (fun v _ => ∃ z : Int, v = .int .i64 z), (fun v _ => ∃ z : Int, v = .int .i64 z)] rfl (by kernel_rfl) rfl rfl ?n2 ?k2 ⟨?s2_0, ?s2_1, ?s2_2, ?s2_3, ?s2_4, ?s2_5, ?s2_6, ?s2_7, ?s2_8, ?s2_9, ?s2_10, trivial⟩ ?p2
                  case s2_0 =>
                    intro L9 u9 t9 w9 hT9 hL9 hD9 hV9 hO9 hN9 hM9 K9 hK9
                    clear hV9 hO9
                    have d0 : w9.cell? ⟨wr.heap.size, 0, none⟩ = some (.string u.name) := (Own.below (show Own (World.drew wt) _ _ _ from o_t) hT9 o_t.lt).cell 0
                    have d3 : w9.cell? ⟨wr.heap.size, 3, none⟩ = some (.slice Am u.keys.length cm) := (Own.below (show Own (World.drew wt) _ _ _ from o_t) hT9 o_t.lt).cell 3
                    obtain ⟨m1, m2, m3⟩ := hM9
                    have l10 : L9 10 = false := by cases h : L9 10 with | false => rfl | true => (have := m2 h; rw [hL9] at this; cases this)
                    have o9_3 : t9[3]? = some (.int .i64 x) := by rw [hN9 10 3 rfl (of_decide_eq_true (by kernel_rfl)), m1 l10]
                    go_simp
                    exact hK9 _ _ (Below.refl _ w9) rfl ⟨fun _ => m1 l10, fun _ => rfl, fun _ => rfl⟩
                  case s2_1 =>
                    intro L9 u9 t9 w9 hT9 hL9 hD9 hV9 hO9 hN9 hM9 K9 hK9
                    have o9_13 := hO9 13 _ (show List.contains _ _ = false from by kernel_rfl) rfl
                    clear hV9 hO9 hN9
                    clear hL9 hD9
                    go_simp
                    (refine hK9 _ _ ((fun a => Below.refl _ a) w9) ?_ hM9; exact rfl)
                  case s2_2 =>
                    intro L9 u9 t9 w9 hT9 hL9 hD9 hV9 hO9 hN9 hM9 K9 hK9
                    obtain ⟨x9_1, p9_1, q9_1⟩ := hV9 1 86 rfl rfl (of_decide_eq_true (by kernel_rfl))
                    obtain ⟨q9_1, e9_1⟩ := q9_1
                    obtain rfl : x9_1 = ?v2_1 := q9_1
                    clear e9_1
                    clear hV9 hO9 hN9
                    clear hL9 hD9
                    have d0 : w9.cell? ⟨wr.heap.size, 0, none⟩ = some (.string u.name) := (Own.below (show Own (World.drew wt) _ _ _ from o_t) hT9 o_t.lt).cell 0
                    have d3 : w9.cell? ⟨wr.heap.size, 3, none⟩ = some (.slice Am u.keys.length cm) := (Own.below (show Own (World.drew wt) _ _ _ from o_t) hT9 o_t.lt).cell 3
                    go_simp
                    (refine hK9 _ _ ((fun a => Below.refl _ a) w9) ?_ hM9; exact rfl)
                  case s2_3 =>
                    intro L9 u9 t9 w9 hT9 hL9 hD9 hV9 hO9 hN9 hM9 K9 hK9
                    obtain ⟨x9_2, p9_2, q9_2⟩ := hV9 2 87 rfl rfl (of_decide_eq_true (by kernel_rfl))
                    obtain ⟨q9_2, e9_2⟩ := q9_2
                    obtain rfl : x9_2 = ?v2_2 := q9_2
                    clear e9_2
                    clear hV9 hO9 hN9
                    clear hL9 hD9
                    go_simp
                    (refine hK9 _ _ ((fun a => Below.refl _ a) w9) ?_ hM9; exact rfl)
                  case s2_4 =>
                    intro L9 u9 t9 w9 hT9 hL9 hD9 hV9 hO9 hN9 hM9 K9 hK9
                    obtain ⟨x9_3, p9_3, q9_3⟩ := hV9 3 88 rfl rfl (of_decide_eq_true (by kernel_rfl))
                    obtain ⟨q9_3, e9_3⟩ := q9_3
                    obtain rfl : x9_3 = ?v2_3 := q9_3
                    clear e9_3
                    clear hV9 hO9 hN9
                    clear hL9 hD9
                    go_simp
                    (refine hK9 _ _ ((fun a => Below.refl _ a) w9) ?_ hM9; exact rfl)
                  case s2_5 =>
                    intro L9 u9 t9 w9 hT9 hL9 hD9 hV9 hO9 hN9 hM9 K9 hK9
                    have o9_13 := hO9 13 _ (show List.contains _ _ = false from by kernel_rfl) rfl
                    clear hV9 hO9 hN9
                    clear hL9 hD9
                    go_simp
                    (refine hK9 _ _ ((fun a => Below.refl _ a) w9) ?_ hM9; exact rfl)
                  case s2_6 =>
                    intro L9 u9 t9 w9 hT9 hL9 hD9 hV9 hO9 hN9 hM9 K9 hK9
                    obtain ⟨x9_5, p9_5, q9_5⟩ := hV9 5 90 rfl rfl (of_decide_eq_true (by kernel_rfl))
                    obtain ⟨q9_5, e9_5⟩ := q9_5
                    obtain rfl : x9_5 = ?v2_5 := q9_5
                    clear e9_5
                    clear hV9 hO9 hN9
                    clear hL9 hD9
                    have d0 : w9.cell? ⟨wr.heap.size, 0, none⟩ = some (.string u.name) := (Own.below (show Own (World.drew wt) _ _ _ from o_t) hT9 o_t.lt).cell 0
                    have d3 : w9.cell? ⟨wr.heap.size, 3, none⟩ = some (.slice Am u.keys.length cm) := (Own.below (show Own (World.drew wt) _ _ _ from o_t) hT9 o_t.lt).cell 3
                    go_simp
                    (refine hK9 _ _ ((fun a => Below.refl _ a) w9) ?_ hM9; exact rfl)
                  case s2_7 =>
                    intro L9 u9 t9 w9 hT9 hL9 hD9 hV9 hO9 hN9 hM9 K9 hK9
                    obtain ⟨x9_6, p9_6, q9_6⟩ := hV9 6 91 rfl rfl (of_decide_eq_true (by kernel_rfl))
                    obtain ⟨q9_6, e9_6⟩ := q9_6
                    obtain rfl : x9_6 = ?v2_6 := q9_6
                    clear e9_6
                    clear hV9 hO9
                    have d0 : w9.cell? ⟨wr.heap.size, 0, none⟩ = some (.string u.name) := (Own.below (show Own (World.drew wt) _ _ _ from o_t) hT9 o_t.lt).cell 0
                    have d3 : w9.cell? ⟨wr.heap.size, 3, none⟩ = some (.slice Am u.keys.length cm) := (Own.below (show Own (World.drew wt) _ _ _ from o_t) hT9 o_t.lt).cell 3
                    go_simp
                    refine (weight_any _ _ _ (HM.out.below (show Below wt.heap.size wt w9 from ⟨hT9.os, hT9.tape, hT9.output, hT9.size, hT9.block⟩))).mono ?_
                    rintro e w8 ⟨⟨z, rfl⟩, hb8⟩
                    exact hK9 _ _ (hb8.mono hT9.size) ⟨z, rfl⟩ hM9
                  case s2_8 =>
                    intro L9 u9 t9 w9 hT9 hL9 hD9 hV9 hO9 hN9 hM9 K9 hK9
                    obtain ⟨x9_4, p9_4, q9_4⟩ := hV9 4 89 rfl rfl (of_decide_eq_true (by kernel_rfl))
                    obtain ⟨q9_4, e9_4⟩ := q9_4
                    obtain rfl : x9_4 = ?v2_4 := q9_4
                    clear e9_4
                    obtain ⟨x9_7, p9_7, q9_7⟩ := hV9 7 92 rfl rfl (of_decide_eq_true (by kernel_rfl))
                    obtain ⟨q9_7, e9_7⟩ := q9_7
                    replace q9_7 : ((fun v _ => ∃ z : Int, v = .int .i64 z)) x9_7 w9 := q9_7
                    obtain ⟨z7, rfl⟩ := q9_7
                    clear hV9 hO9
                    have d0 : w9.cell? ⟨wr.heap.size, 0, none⟩ = some (.string u.name) := (Own.below (show Own (World.drew wt) _ _ _ from o_t) hT9 o_t.lt).cell 0
                    have d3 : w9.cell? ⟨wr.heap.size, 3, none⟩ = some (.slice Am u.keys.length cm) := (Own.below (show Own (World.drew wt) _ _ _ from o_t) hT9 o_t.lt).cell 3
                    clear e9_7
                    go_simp
                    exact hK9 _ _ (Below.refl _ w9) ⟨_, rfl⟩ hM9
                  case s2_9 =>
                    intro L9 u9 t9 w9 hT9 hL9 hD9 hV9 hO9 hN9 hM9 K9 hK9
                    obtain ⟨x9_0, p9_0, q9_0⟩ := hV9 0 85 rfl rfl (of_decide_eq_true (by kernel_rfl))
                    obtain ⟨q9_0, e9_0⟩ := q9_0
                    obtain rfl : x9_0 = (.int .i64 x) := q9_0
                    clear e9_0
                    obtain ⟨x9_8, p9_8, q9_8⟩ := hV9 8 93 rfl rfl (of_decide_eq_true (by kernel_rfl))
                    obtain ⟨q9_8, e9_8⟩ := q9_8
                    replace q9_8 : ((fun v _ => ∃ z : Int, v = .int .i64 z)) x9_8 w9 := q9_8
                    obtain ⟨z8, rfl⟩ := q9_8
                    clear hV9 hO9
                    have d0 : w9.cell? ⟨wr.heap.size, 0, none⟩ = some (.string u.name) := (Own.below (show Own (World.drew wt) _ _ _ from o_t) hT9 o_t.lt).cell 0
                    have d3 : w9.cell? ⟨wr.heap.size, 3, none⟩ = some (.slice Am u.keys.length cm) := (Own.below (show Own (World.drew wt) _ _ _ from o_t) hT9 o_t.lt).cell 3
                    have l0 := hD9 0 rfl
                    clear e9_8
                    go_simp
                    exact hK9 _ _ (Below.refl _ w9) ⟨_, rfl⟩ ⟨hM9.1, hM9.2.1, fun _ => l0⟩
                  case s2_10 =>
                    intro L9 u9 t9 w9 hT9 hL9 hD9 hV9 hO9 hN9 hM9 K9 hK9
                    obtain ⟨x9_9, p9_9, q9_9⟩ := hV9 9 94 rfl rfl (of_decide_eq_true (by kernel_rfl))
                    obtain ⟨q9_9, e9_9⟩ := q9_9
                    replace q9_9 : ((fun v _ => ∃ z : Int, v = .int .i64 z)) x9_9 w9 := q9_9
                    obtain ⟨z9, rfl⟩ := q9_9
                    clear hV9 hO9
                    have d0 : w9.cell? ⟨wr.heap.size, 0, none⟩ = some (.string u.name) := (Own.below (show Own (World.drew wt) _ _ _ from o_t) hT9 o_t.lt).cell 0
                    have d3 : w9.cell? ⟨wr.heap.size, 3, none⟩ = some (.slice Am u.keys.length cm) := (Own.below (show Own (World.drew wt) _ _ _ from o_t) hT9 o_t.lt).cell 3
                    have l0 := hM9.2.2 (hD9 9 rfl)
                    clear e9_9
                    go_simp
                    exact hK9 _ _ (Below.refl _ w9) ⟨_, rfl⟩ ⟨(fun h => nomatch h), (fun _ => l0), hM9.2.2⟩
                  case n2 =>
                    intro L9 u9 h9 n9
                    exact ⟨fun _ => (Option.some.inj (n9 10 3 rfl (of_decide_eq_true (by kernel_rfl)))).symm, (fun h => by rw [h9 10 (by decide)] at h; cases h), (fun h => by rw [h9 9 (by decide)] at h; cases h)⟩
                  case k2 =>
                    intro i9 v9 w9 x9 h9 g9
                    match i9, h9 with
                    | 0, h9 => exact h9
                    | 1, h9 => exact h9
                    | 2, h9 => exact h9
                    | 3, h9 => exact h9
                    | 4, h9 => exact h9
                    | 5, h9 => exact h9
                    | 6, h9 => exact h9
                    | 7, h9 => (replace h9 : (fun v _ => ∃ z : Int, v = .int .i64 z) v9 w9 := h9); exact h9
                    | 8, h9 => (replace h9 : (fun v _ => ∃ z : Int, v = .int .i64 z) v9 w9 := h9); exact h9
                    | 9, h9 => (replace h9 : (fun v _ => ∃ z : Int, v = .int .i64 z) v9 w9 := h9); exact h9
                    | 10, h9 => (replace h9 : (fun v _ => ∃ z : Int, v = .int .i64 z) v9 w9 := h9); exact h9
                    | _ + 11, h9 => exact trivial
                  intro u9 w9 hE9 hM9 hu9
                  have r9_0 : u9 0 = (.int .i64 x) := hu9 0 (by decide)
                  have r9_1 : u9 1 = ?v2_1 := hu9 1 (by decide)
                  have r9_2 : u9 2 = ?v2_2 := hu9 2 (by decide)
                  have r9_3 : u9 3 = ?v2_3 := hu9 3 (by decide)
                  have r9_4 : u9 4 = ?v2_4 := hu9 4 (by decide)
                  have r9_5 : u9 5 = ?v2_5 := hu9 5 (by decide)
                  have r9_6 : u9 6 = ?v2_6 := hu9 6 (by decide)
                  have r9_7 : (fun v _ => ∃ z : Int, v = .int .i64 z) (u9 7) w9 := hu9 7 (by decide)
                  have r9_8 : (fun v _ => ∃ z : Int, v = .int .i64 z) (u9 8) w9 := hu9 8 (by decide)
                  have r9_9 : (fun v _ => ∃ z : Int, v = .int .i64 z) (u9 9) w9 := hu9 9 (by decide)
                  have r9_10 : (fun v _ => ∃ z : Int, v = .int .i64 z) (u9 10) w9 := hu9 10 (by decide)
                  clear hu9
                  simp only [putAll, Act.put, List.setIfInBounds_toArray, List.set_cons_succ, List.set_cons_zero, List.getD_cons_succ, List.getD_cons_zero, Nat.reduceAdd, Nat.zero_add]
                  simp only [r9_0, r9_1, r9_2, r9_3, r9_4, r9_5, r9_6]
                  clear r9_0 r9_1 r9_2 r9_3 r9_4 r9_5 r9_6
                  generalize u9 7 = z9_7 at r9_7 ⊢
                  generalize u9 8 = z9_8 at r9_8 ⊢
                  generalize u9 9 = z9_9 at r9_9 ⊢
                  generalize u9 10 = z9_10 at r9_10 ⊢
                  replace hE9 : Below wt.heap.size wt w9 := ⟨hE9.os, hE9.tape, hE9.output, hE9.size, hE9.block⟩
                  clear hM9
                  obtain ⟨z9, rfl⟩ := r9_10
                  have HO3 := Lib.hid (HO2.out.below hE9 HO2.out.lt)
                  have hb3 := belowQ hb2 (by have := HB.out; omega) hE9
                  clear HO2 hb2 t0 t3
                  go_wp2
                  go_roundg (C.regs.length + 1 - (j + 1))
                  case measure => omega
                  case rel => exact ⟨j + 1, _, rfl, by omega, by go_num, rfl, HO3, hb3⟩
                · obtain ⟨w3, hw3⟩ : ∃ x, x = wr := ⟨_, rfl⟩
                  rw [← hw3] at HO hb ⊢
                  clear hw3
                  have m4 : w3.cell? ⟨B, 4, none⟩ = some (.slice A4 C.nodes.length c4) := HO.out.cell 4
                  go_wp2_with fail
                  go_loopg [3, 99] (C.nodes.length + 1) (fun q v3 vi wr => ∃ (j : Nat) (x : Int), q = C.nodes.length + 1 - j ∧ j ≤ C.nodes.length ∧ vi = .int .i64 (j : Int) ∧ v3 = .int .i64 x ∧ Hid (Own wr B 30 [.slice A0 C.attrs.length c0, .slice A1 C.toks.length c1, .slice A2 C.texts.length c2, .slice A3 C.regs.length c3, .slice A4 C.nodes.length c4, .slice A5 C.heads.length c5, .slice A6 C.rels.length c6]) ∧ Below B w wr)
                  case atStart => exact ⟨0, _, rfl, Nat.zero_le _, rfl, rfl, HO, hb⟩
                  case round =>
                    clear HO hb m4
                    obtain ⟨j, x, rfl, hj, rfl, rfl, HO, hb⟩ := hrel
                    by_cases hlt : j < C.nodes.length
                    · have hbw : Below w.heap.size w wr := by rw [← HB.out]; exact hb
                      have q := HQ.out.below hbw
                      clear hbw
                      obtain ⟨b, off, rfl, -, k0, k1, k2, k3, -, -, -, -⟩ := NodesO.get q.n hlt
                      generalize C.nodes[j] = u at k0 k1 k2 k3
                      clear q
                      obtain ⟨o_t, hbt⟩ := new1 wr [.string u.1, .int .i64 u.2.1, .int .i64 u.2.2.1, .int .i64 u.2.2.2] 74
                      have hb2 : Below B w (wr.alloc (.cells #[.string u.1, .int .i64 u.2.1, .int .i64 u.2.2.1, .int .i64 u.2.2.2] 74)) := belowQ hb (by have := HB.out; omega) hbt
                      have HO2 := Lib.hid (HO.out.below hbt HO.out.lt)
                      go_upto_region 30 with (fail)
                      generalize (wr.alloc (.cells #[.string u.1, .int .i64 u.2.1, .int .i64 u.2.2.1, .int .i64 u.2.2.2] 74)) = wt at o_t hbt hb2 HO2 ⊢
                      have t0 : wt.cell? ⟨wr.heap.size, 0, none⟩ = some (.string u.1) := o_t.cell 0
                      clear k0 k1 k2 k3 hbt HO hb
                      go_wp2
                      go_roundg (C.nodes.length + 1 - (j + 1))
                      case measure => omega
                      case rel => exact ⟨j + 1, _, rfl, by omega, by go_num, rfl, HO2, hb2⟩
                    · obtain ⟨w4, hw4⟩ : ∃ x, x = wr := ⟨_, rfl⟩
                      rw [← hw4] at HO hb ⊢
                      clear hw4
                      have m6 : w4.cell? ⟨B, 6, none⟩ = some (.slice A6 C.rels.length c6) := HO.out.cell 6
                      go_wp2_with fail
                      go_loopg [3, 113] (C.rels.length + 1) (fun q v3 vi wr => ∃ (j : Nat) (x : Int), q = C.rels.length + 1 - j ∧ j ≤ C.rels.length ∧ vi = .int .i64 (j : Int) ∧ v3 = .int .i64 x ∧ Hid (Own wr B 30 [.slice A0 C.attrs.length c0, .slice A1 C.toks.length c1, .slice A2 C.texts.length c2, .slice A3 C.regs.length c3, .slice A4 C.nodes.length c4, .slice A5 C.heads.length c5, .slice A6 C.rels.length c6]) ∧ Below B w wr)
                      case atStart => exact ⟨0, _, rfl, Nat.zero_le _, rfl, rfl, HO, hb⟩
                      case round =>
                        clear HO hb m6
                        obtain ⟨j, x, rfl, hj, rfl, rfl, HO, hb⟩ := hrel
                        by_cases hlt : j < C.rels.length
                        · have hbw : Below w.heap.size w wr := by rw [← HB.out]; exact hb
                          have q := HQ.out.below hbw
                          clear hbw
                          obtain ⟨b, off, rfl, -, k0, -⟩ := StrsO.get q.s hlt
                          generalize C.rels[j] = u at k0
                          have HO2 := HO
                          have hb2 := hb
                          clear q HO hb
                          go_wp2
                          go_roundg (C.rels.length + 1 - (j + 1))
                          case measure => omega
                          case rel => exact ⟨j + 1, _, rfl, by omega, by go_num, rfl, HO2, hb2⟩
                        · obtain ⟨w6, hw6⟩ : ∃ x, x = wr := ⟨_, rfl⟩
                          rw [← hw6] at HO hb ⊢
                          clear hw6
                          go_wp2
                          go_ret
                          exact ⟨⟨_, rfl⟩, by rw [← HB.out]; exact hb⟩
end Go.Proofs.YtfenjklilocjgaaGreatDoor
