/- The law EncloseRaw as a walk. -/
import Derived.Test.YtdjkgjpehneejaaEw
namespace Go.Proofs.Ytdjkgjpehneejaa
set_option linter.unusedSimpArgs false
set_option linter.unusedVariables false
set_option linter.unusedSectionVars false
open Go.RowKit Dg

/-- The texts of the first j of four ratios are short. -/
def Short (sa ta sb tb sc tc sd td : ByteArray) (j : Nat) : Prop := (0 < j → sa.size ≤ 12 ∧ ta.size ≤ 12) ∧ (1 < j → sb.size ≤ 12 ∧ tb.size ≤ 12) ∧ (2 < j → sc.size ≤ 12 ∧ tc.size ≤ 12) ∧ (3 < j → sd.size ≤ 12 ∧ td.size ≤ 12)
set_option maxRecDepth 100000 in
set_option maxHeartbeats 16000000 in
theorem law_raw (na : Bool) (sa ta : ByteArray) (nb : Bool) (sb tb : ByteArray) (nc : Bool) (sc tc : ByteArray) (nd : Bool) (sd td : ByteArray) (k : Int) (w : World) :
    Calls Try.prog 10 #[.agg #[.bool na, .string sa, .string ta, .bool nb, .string sb, .string tb], .agg #[.bool nc, .string sc, .string tc, .bool nd, .string sd, .string td], .int .i64 k] w (Holds w) := by
  obtain ⟨o_a, o_b, hbw⟩ := new2 w [.bool na, .string sa, .string ta, .bool nb, .string sb, .string tb] [.bool nc, .string sc, .string tc, .bool nd, .string sd, .string td] 37 37
  go_enter Try.func10, Try.ntmps10
  go_upto_region 1 with (fail)
  generalize ((w.alloc (.cells #[.bool na, .string sa, .string ta, .bool nb, .string sb, .string tb] 37)).alloc (.cells #[.bool nc, .string sc, .string tc, .bool nd, .string sd, .string td] 37)) = wb at o_a o_b hbw ⊢
  have qa_0 : wb.cell? ⟨w.heap.size, 0, none⟩ = some (.bool na) := o_a.cell 0
  have qa_1 : wb.cell? ⟨w.heap.size, 1, none⟩ = some (.string sa) := o_a.cell 1
  have qa_2 : wb.cell? ⟨w.heap.size, 2, none⟩ = some (.string ta) := o_a.cell 2
  have qa_3 : wb.cell? ⟨w.heap.size, 3, none⟩ = some (.bool nb) := o_a.cell 3
  have qa_4 : wb.cell? ⟨w.heap.size, 4, none⟩ = some (.string sb) := o_a.cell 4
  have qa_5 : wb.cell? ⟨w.heap.size, 5, none⟩ = some (.string tb) := o_a.cell 5
  have qb_0 : wb.cell? ⟨w.heap.size + 1, 0, none⟩ = some (.bool nc) := o_b.cell 0
  have qb_1 : wb.cell? ⟨w.heap.size + 1, 1, none⟩ = some (.string sc) := o_b.cell 1
  have qb_2 : wb.cell? ⟨w.heap.size + 1, 2, none⟩ = some (.string tc) := o_b.cell 2
  have qb_3 : wb.cell? ⟨w.heap.size + 1, 3, none⟩ = some (.bool nd) := o_b.cell 3
  have qb_4 : wb.cell? ⟨w.heap.size + 1, 4, none⟩ = some (.string sd) := o_b.cell 4
  have qb_5 : wb.cell? ⟨w.heap.size + 1, 5, none⟩ = some (.string td) := o_b.cell 5
  have N1 := Own.new wb 26 [.bool na, .string sa, .string ta, .bool nb, .string sb, .string tb, .bool nc, .string sc, .string tc, .bool nd, .string sd, .string td]
  replace o_a := o_a.alloc (.cells #[.bool na, .string sa, .string ta, .bool nb, .string sb, .string tb, .bool nc, .string sc, .string tc, .bool nd, .string sd, .string td] 26)
  replace o_b := o_b.alloc (.cells #[.bool na, .string sa, .string ta, .bool nb, .string sb, .string tb, .bool nc, .string sc, .string tc, .bool nd, .string sd, .string td] 26)
  replace hbw := hbw.alloc hbw.size (.cells #[.bool na, .string sa, .string ta, .bool nb, .string sb, .string tb, .bool nc, .string sc, .string tc, .bool nd, .string sd, .string td] 26)
  go_wp2_with fail
  clear qa_0 qa_1 qa_2 qa_3 qa_4 qa_5 qb_0 qb_1 qb_2 qb_3 qb_4 qb_5
  have HG := Lib.hid N1.lt
  generalize (wb.alloc (.cells #[.bool na, .string sa, .string ta, .bool nb, .string sb, .string tb, .bool nc, .string sc, .string tc, .bool nd, .string sd, .string td] 26)) = wl at o_a o_b N1 hbw HG ⊢
  generalize wb.heap.size = gs at N1 HG ⊢
  have o_s := N1
  clear N1 HG
  go_loopg [37] 4 (fun q v37 wr => ∃ j : Nat, q = 4 - j ∧ j ≤ 4 ∧ v37 = .int .i64 (j : Int) ∧ Hid (Short sa ta sb tb sc tc sd td j) ∧ Own wr (w.heap.size) 37 [.bool na, .string sa, .string ta, .bool nb, .string sb, .string tb] ∧ Own wr (w.heap.size + 1) 37 [.bool nc, .string sc, .string tc, .bool nd, .string sd, .string td] ∧ Own wr gs 26 [.bool na, .string sa, .string ta, .bool nb, .string sb, .string tb, .bool nc, .string sc, .string tc, .bool nd, .string sd, .string td] ∧ Below w.heap.size w wr)
  case atStart => exact ⟨0, rfl, by omega, rfl, ⟨fun h => by omega, fun h => by omega, fun h => by omega, fun h => by omega⟩, o_a, o_b, o_s, hbw⟩
  case round =>
    clear o_a o_b o_s hbw
    obtain ⟨j, hq, hj, rfl, hsz, o_a, o_b, o_s, hbw⟩ := hrel
    have HQ := Lib.hid hq; clear hq
    rcases (show j = 0 ∨ j = 1 ∨ j = 2 ∨ j = 3 ∨ j = 4 by omega) with rfl | rfl | rfl | rfl | rfl
    · clear hj
      have dj : decide ((0 : Int) < 4) = true := by decide
      by_cases g1 : 12 < sa.size
      · have d1 : decide ((12 : Int) < (sa.size : Int)) = true := decide_eq_true (by omega)
        clear g1
        have qs_0 : wr.cell? ⟨gs, 0, none⟩ = some (.bool na) := o_s.cell 0
        have qs_1 : wr.cell? ⟨gs, 1, none⟩ = some (.string sa) := o_s.cell 1
        have qs_2 : wr.cell? ⟨gs, 2, none⟩ = some (.string ta) := o_s.cell 2
        obtain ⟨o_r, hz1⟩ := new1 wr [.bool na, .string sa, .string ta] 26
        replace o_a := o_a.alloc (.cells #[.bool na, .string sa, .string ta] 26)
        replace o_b := o_b.alloc (.cells #[.bool na, .string sa, .string ta] 26)
        replace o_s := o_s.alloc (.cells #[.bool na, .string sa, .string ta] 26)
        replace hbw := below6 hbw hz1
        clear hz1
        go_upto_region 4 with (fail)
        generalize (wr.alloc (.cells #[.bool na, .string sa, .string ta] 26)) = wa2 at o_a o_b o_s o_r hbw ⊢
        generalize wr.heap.size = g2 at o_r ⊢
        clear qs_0 qs_1 qs_2
        have qr_0 : wa2.cell? ⟨g2, 0, none⟩ = some (.bool na) := o_r.cell 0
        have qr_1 : wa2.cell? ⟨g2, 1, none⟩ = some (.string sa) := o_r.cell 1
        have qr_2 : wa2.cell? ⟨g2, 2, none⟩ = some (.string ta) := o_r.cell 2
        go_wp2
        go_ret
        exact ⟨rfl, hbw⟩
      · by_cases g2 : 12 < ta.size
        · have d1 : decide ((12 : Int) < (sa.size : Int)) = false := decide_eq_false (by omega)
          have d2 : decide ((12 : Int) < (ta.size : Int)) = true := decide_eq_true (by omega)
          clear g1 g2
          have qs_0 : wr.cell? ⟨gs, 0, none⟩ = some (.bool na) := o_s.cell 0
          have qs_1 : wr.cell? ⟨gs, 1, none⟩ = some (.string sa) := o_s.cell 1
          have qs_2 : wr.cell? ⟨gs, 2, none⟩ = some (.string ta) := o_s.cell 2
          obtain ⟨o_r, hz1⟩ := new1 wr [.bool na, .string sa, .string ta] 26
          replace o_a := o_a.alloc (.cells #[.bool na, .string sa, .string ta] 26)
          replace o_b := o_b.alloc (.cells #[.bool na, .string sa, .string ta] 26)
          replace o_s := o_s.alloc (.cells #[.bool na, .string sa, .string ta] 26)
          replace hbw := below6 hbw hz1
          clear hz1
          go_upto_region 4 with (fail)
          generalize (wr.alloc (.cells #[.bool na, .string sa, .string ta] 26)) = wa2 at o_a o_b o_s o_r hbw ⊢
          generalize wr.heap.size = g2 at o_r ⊢
          clear qs_0 qs_1 qs_2
          have qr_0 : wa2.cell? ⟨g2, 0, none⟩ = some (.bool na) := o_r.cell 0
          have qr_1 : wa2.cell? ⟨g2, 1, none⟩ = some (.string sa) := o_r.cell 1
          have qr_2 : wa2.cell? ⟨g2, 2, none⟩ = some (.string ta) := o_r.cell 2
          go_wp2
          go_ret
          exact ⟨rfl, hbw⟩
        · have d1 : decide ((12 : Int) < (sa.size : Int)) = false := decide_eq_false (by omega)
          have d2 : decide ((12 : Int) < (ta.size : Int)) = false := decide_eq_false (by omega)
          have G1 := Lib.hid g1
          have G2 := Lib.hid g2
          clear g1 g2
          have qs_0 : wr.cell? ⟨gs, 0, none⟩ = some (.bool na) := o_s.cell 0
          have qs_1 : wr.cell? ⟨gs, 1, none⟩ = some (.string sa) := o_s.cell 1
          have qs_2 : wr.cell? ⟨gs, 2, none⟩ = some (.string ta) := o_s.cell 2
          obtain ⟨o_r, hz1⟩ := new1 wr [.bool na, .string sa, .string ta] 26
          replace o_a := o_a.alloc (.cells #[.bool na, .string sa, .string ta] 26)
          replace o_b := o_b.alloc (.cells #[.bool na, .string sa, .string ta] 26)
          replace o_s := o_s.alloc (.cells #[.bool na, .string sa, .string ta] 26)
          replace hbw := below6 hbw hz1
          clear hz1
          go_upto_region 4 with (fail)
          generalize (wr.alloc (.cells #[.bool na, .string sa, .string ta] 26)) = wa2 at o_a o_b o_s o_r hbw ⊢
          generalize wr.heap.size = g2 at o_r ⊢
          clear qs_0 qs_1 qs_2
          have qr_0 : wa2.cell? ⟨g2, 0, none⟩ = some (.bool na) := o_r.cell 0
          have qr_1 : wa2.cell? ⟨g2, 1, none⟩ = some (.string sa) := o_r.cell 1
          have qr_2 : wa2.cell? ⟨g2, 2, none⟩ = some (.string ta) := o_r.cell 2
          go_wp2_with fail
          clear qr_0 qr_1 qr_2
          go_roundg 3
          case measure => have := HQ.out; omega
          case rel => exact ⟨1, rfl, by omega, by first | rfl | go_num, ⟨fun _ => ⟨by have := G1.out; omega, by have := G2.out; omega⟩, fun h => by omega, fun h => by omega, fun h => by omega⟩, o_a, o_b, o_s, hbw⟩
    · clear hj
      have dj : decide ((1 : Int) < 4) = true := by decide
      by_cases g1 : 12 < sb.size
      · have d1 : decide ((12 : Int) < (sb.size : Int)) = true := decide_eq_true (by omega)
        clear g1
        have qs_0 : wr.cell? ⟨gs, 3, none⟩ = some (.bool nb) := o_s.cell 3
        have qs_1 : wr.cell? ⟨gs, 4, none⟩ = some (.string sb) := o_s.cell 4
        have qs_2 : wr.cell? ⟨gs, 5, none⟩ = some (.string tb) := o_s.cell 5
        obtain ⟨o_r, hz1⟩ := new1 wr [.bool nb, .string sb, .string tb] 26
        replace o_a := o_a.alloc (.cells #[.bool nb, .string sb, .string tb] 26)
        replace o_b := o_b.alloc (.cells #[.bool nb, .string sb, .string tb] 26)
        replace o_s := o_s.alloc (.cells #[.bool nb, .string sb, .string tb] 26)
        replace hbw := below6 hbw hz1
        clear hz1
        go_upto_region 4 with (fail)
        generalize (wr.alloc (.cells #[.bool nb, .string sb, .string tb] 26)) = wa2 at o_a o_b o_s o_r hbw ⊢
        generalize wr.heap.size = g2 at o_r ⊢
        clear qs_0 qs_1 qs_2
        have qr_0 : wa2.cell? ⟨g2, 0, none⟩ = some (.bool nb) := o_r.cell 0
        have qr_1 : wa2.cell? ⟨g2, 1, none⟩ = some (.string sb) := o_r.cell 1
        have qr_2 : wa2.cell? ⟨g2, 2, none⟩ = some (.string tb) := o_r.cell 2
        go_wp2
        go_ret
        exact ⟨rfl, hbw⟩
      · by_cases g2 : 12 < tb.size
        · have d1 : decide ((12 : Int) < (sb.size : Int)) = false := decide_eq_false (by omega)
          have d2 : decide ((12 : Int) < (tb.size : Int)) = true := decide_eq_true (by omega)
          clear g1 g2
          have qs_0 : wr.cell? ⟨gs, 3, none⟩ = some (.bool nb) := o_s.cell 3
          have qs_1 : wr.cell? ⟨gs, 4, none⟩ = some (.string sb) := o_s.cell 4
          have qs_2 : wr.cell? ⟨gs, 5, none⟩ = some (.string tb) := o_s.cell 5
          obtain ⟨o_r, hz1⟩ := new1 wr [.bool nb, .string sb, .string tb] 26
          replace o_a := o_a.alloc (.cells #[.bool nb, .string sb, .string tb] 26)
          replace o_b := o_b.alloc (.cells #[.bool nb, .string sb, .string tb] 26)
          replace o_s := o_s.alloc (.cells #[.bool nb, .string sb, .string tb] 26)
          replace hbw := below6 hbw hz1
          clear hz1
          go_upto_region 4 with (fail)
          generalize (wr.alloc (.cells #[.bool nb, .string sb, .string tb] 26)) = wa2 at o_a o_b o_s o_r hbw ⊢
          generalize wr.heap.size = g2 at o_r ⊢
          clear qs_0 qs_1 qs_2
          have qr_0 : wa2.cell? ⟨g2, 0, none⟩ = some (.bool nb) := o_r.cell 0
          have qr_1 : wa2.cell? ⟨g2, 1, none⟩ = some (.string sb) := o_r.cell 1
          have qr_2 : wa2.cell? ⟨g2, 2, none⟩ = some (.string tb) := o_r.cell 2
          go_wp2
          go_ret
          exact ⟨rfl, hbw⟩
        · have d1 : decide ((12 : Int) < (sb.size : Int)) = false := decide_eq_false (by omega)
          have d2 : decide ((12 : Int) < (tb.size : Int)) = false := decide_eq_false (by omega)
          have G1 := Lib.hid g1
          have G2 := Lib.hid g2
          clear g1 g2
          have qs_0 : wr.cell? ⟨gs, 3, none⟩ = some (.bool nb) := o_s.cell 3
          have qs_1 : wr.cell? ⟨gs, 4, none⟩ = some (.string sb) := o_s.cell 4
          have qs_2 : wr.cell? ⟨gs, 5, none⟩ = some (.string tb) := o_s.cell 5
          obtain ⟨o_r, hz1⟩ := new1 wr [.bool nb, .string sb, .string tb] 26
          replace o_a := o_a.alloc (.cells #[.bool nb, .string sb, .string tb] 26)
          replace o_b := o_b.alloc (.cells #[.bool nb, .string sb, .string tb] 26)
          replace o_s := o_s.alloc (.cells #[.bool nb, .string sb, .string tb] 26)
          replace hbw := below6 hbw hz1
          clear hz1
          go_upto_region 4 with (fail)
          generalize (wr.alloc (.cells #[.bool nb, .string sb, .string tb] 26)) = wa2 at o_a o_b o_s o_r hbw ⊢
          generalize wr.heap.size = g2 at o_r ⊢
          clear qs_0 qs_1 qs_2
          have qr_0 : wa2.cell? ⟨g2, 0, none⟩ = some (.bool nb) := o_r.cell 0
          have qr_1 : wa2.cell? ⟨g2, 1, none⟩ = some (.string sb) := o_r.cell 1
          have qr_2 : wa2.cell? ⟨g2, 2, none⟩ = some (.string tb) := o_r.cell 2
          go_wp2_with fail
          clear qr_0 qr_1 qr_2
          go_roundg 2
          case measure => have := HQ.out; omega
          case rel => exact ⟨2, rfl, by omega, by first | rfl | go_num, ⟨fun h => hsz.out.1 (by omega), fun _ => ⟨by have := G1.out; omega, by have := G2.out; omega⟩, fun h => by omega, fun h => by omega⟩, o_a, o_b, o_s, hbw⟩
    · clear hj
      have dj : decide ((2 : Int) < 4) = true := by decide
      by_cases g1 : 12 < sc.size
      · have d1 : decide ((12 : Int) < (sc.size : Int)) = true := decide_eq_true (by omega)
        clear g1
        have qs_0 : wr.cell? ⟨gs, 6, none⟩ = some (.bool nc) := o_s.cell 6
        have qs_1 : wr.cell? ⟨gs, 7, none⟩ = some (.string sc) := o_s.cell 7
        have qs_2 : wr.cell? ⟨gs, 8, none⟩ = some (.string tc) := o_s.cell 8
        obtain ⟨o_r, hz1⟩ := new1 wr [.bool nc, .string sc, .string tc] 26
        replace o_a := o_a.alloc (.cells #[.bool nc, .string sc, .string tc] 26)
        replace o_b := o_b.alloc (.cells #[.bool nc, .string sc, .string tc] 26)
        replace o_s := o_s.alloc (.cells #[.bool nc, .string sc, .string tc] 26)
        replace hbw := below6 hbw hz1
        clear hz1
        go_upto_region 4 with (fail)
        generalize (wr.alloc (.cells #[.bool nc, .string sc, .string tc] 26)) = wa2 at o_a o_b o_s o_r hbw ⊢
        generalize wr.heap.size = g2 at o_r ⊢
        clear qs_0 qs_1 qs_2
        have qr_0 : wa2.cell? ⟨g2, 0, none⟩ = some (.bool nc) := o_r.cell 0
        have qr_1 : wa2.cell? ⟨g2, 1, none⟩ = some (.string sc) := o_r.cell 1
        have qr_2 : wa2.cell? ⟨g2, 2, none⟩ = some (.string tc) := o_r.cell 2
        go_wp2
        go_ret
        exact ⟨rfl, hbw⟩
      · by_cases g2 : 12 < tc.size
        · have d1 : decide ((12 : Int) < (sc.size : Int)) = false := decide_eq_false (by omega)
          have d2 : decide ((12 : Int) < (tc.size : Int)) = true := decide_eq_true (by omega)
          clear g1 g2
          have qs_0 : wr.cell? ⟨gs, 6, none⟩ = some (.bool nc) := o_s.cell 6
          have qs_1 : wr.cell? ⟨gs, 7, none⟩ = some (.string sc) := o_s.cell 7
          have qs_2 : wr.cell? ⟨gs, 8, none⟩ = some (.string tc) := o_s.cell 8
          obtain ⟨o_r, hz1⟩ := new1 wr [.bool nc, .string sc, .string tc] 26
          replace o_a := o_a.alloc (.cells #[.bool nc, .string sc, .string tc] 26)
          replace o_b := o_b.alloc (.cells #[.bool nc, .string sc, .string tc] 26)
          replace o_s := o_s.alloc (.cells #[.bool nc, .string sc, .string tc] 26)
          replace hbw := below6 hbw hz1
          clear hz1
          go_upto_region 4 with (fail)
          generalize (wr.alloc (.cells #[.bool nc, .string sc, .string tc] 26)) = wa2 at o_a o_b o_s o_r hbw ⊢
          generalize wr.heap.size = g2 at o_r ⊢
          clear qs_0 qs_1 qs_2
          have qr_0 : wa2.cell? ⟨g2, 0, none⟩ = some (.bool nc) := o_r.cell 0
          have qr_1 : wa2.cell? ⟨g2, 1, none⟩ = some (.string sc) := o_r.cell 1
          have qr_2 : wa2.cell? ⟨g2, 2, none⟩ = some (.string tc) := o_r.cell 2
          go_wp2
          go_ret
          exact ⟨rfl, hbw⟩
        · have d1 : decide ((12 : Int) < (sc.size : Int)) = false := decide_eq_false (by omega)
          have d2 : decide ((12 : Int) < (tc.size : Int)) = false := decide_eq_false (by omega)
          have G1 := Lib.hid g1
          have G2 := Lib.hid g2
          clear g1 g2
          have qs_0 : wr.cell? ⟨gs, 6, none⟩ = some (.bool nc) := o_s.cell 6
          have qs_1 : wr.cell? ⟨gs, 7, none⟩ = some (.string sc) := o_s.cell 7
          have qs_2 : wr.cell? ⟨gs, 8, none⟩ = some (.string tc) := o_s.cell 8
          obtain ⟨o_r, hz1⟩ := new1 wr [.bool nc, .string sc, .string tc] 26
          replace o_a := o_a.alloc (.cells #[.bool nc, .string sc, .string tc] 26)
          replace o_b := o_b.alloc (.cells #[.bool nc, .string sc, .string tc] 26)
          replace o_s := o_s.alloc (.cells #[.bool nc, .string sc, .string tc] 26)
          replace hbw := below6 hbw hz1
          clear hz1
          go_upto_region 4 with (fail)
          generalize (wr.alloc (.cells #[.bool nc, .string sc, .string tc] 26)) = wa2 at o_a o_b o_s o_r hbw ⊢
          generalize wr.heap.size = g2 at o_r ⊢
          clear qs_0 qs_1 qs_2
          have qr_0 : wa2.cell? ⟨g2, 0, none⟩ = some (.bool nc) := o_r.cell 0
          have qr_1 : wa2.cell? ⟨g2, 1, none⟩ = some (.string sc) := o_r.cell 1
          have qr_2 : wa2.cell? ⟨g2, 2, none⟩ = some (.string tc) := o_r.cell 2
          go_wp2_with fail
          clear qr_0 qr_1 qr_2
          go_roundg 1
          case measure => have := HQ.out; omega
          case rel => exact ⟨3, rfl, by omega, by first | rfl | go_num, ⟨fun h => hsz.out.1 (by omega), fun h => hsz.out.2.1 (by omega), fun _ => ⟨by have := G1.out; omega, by have := G2.out; omega⟩, fun h => by omega⟩, o_a, o_b, o_s, hbw⟩
    · clear hj
      have dj : decide ((3 : Int) < 4) = true := by decide
      by_cases g1 : 12 < sd.size
      · have d1 : decide ((12 : Int) < (sd.size : Int)) = true := decide_eq_true (by omega)
        clear g1
        have qs_0 : wr.cell? ⟨gs, 9, none⟩ = some (.bool nd) := o_s.cell 9
        have qs_1 : wr.cell? ⟨gs, 10, none⟩ = some (.string sd) := o_s.cell 10
        have qs_2 : wr.cell? ⟨gs, 11, none⟩ = some (.string td) := o_s.cell 11
        obtain ⟨o_r, hz1⟩ := new1 wr [.bool nd, .string sd, .string td] 26
        replace o_a := o_a.alloc (.cells #[.bool nd, .string sd, .string td] 26)
        replace o_b := o_b.alloc (.cells #[.bool nd, .string sd, .string td] 26)
        replace o_s := o_s.alloc (.cells #[.bool nd, .string sd, .string td] 26)
        replace hbw := below6 hbw hz1
        clear hz1
        go_upto_region 4 with (fail)
        generalize (wr.alloc (.cells #[.bool nd, .string sd, .string td] 26)) = wa2 at o_a o_b o_s o_r hbw ⊢
        generalize wr.heap.size = g2 at o_r ⊢
        clear qs_0 qs_1 qs_2
        have qr_0 : wa2.cell? ⟨g2, 0, none⟩ = some (.bool nd) := o_r.cell 0
        have qr_1 : wa2.cell? ⟨g2, 1, none⟩ = some (.string sd) := o_r.cell 1
        have qr_2 : wa2.cell? ⟨g2, 2, none⟩ = some (.string td) := o_r.cell 2
        go_wp2
        go_ret
        exact ⟨rfl, hbw⟩
      · by_cases g2 : 12 < td.size
        · have d1 : decide ((12 : Int) < (sd.size : Int)) = false := decide_eq_false (by omega)
          have d2 : decide ((12 : Int) < (td.size : Int)) = true := decide_eq_true (by omega)
          clear g1 g2
          have qs_0 : wr.cell? ⟨gs, 9, none⟩ = some (.bool nd) := o_s.cell 9
          have qs_1 : wr.cell? ⟨gs, 10, none⟩ = some (.string sd) := o_s.cell 10
          have qs_2 : wr.cell? ⟨gs, 11, none⟩ = some (.string td) := o_s.cell 11
          obtain ⟨o_r, hz1⟩ := new1 wr [.bool nd, .string sd, .string td] 26
          replace o_a := o_a.alloc (.cells #[.bool nd, .string sd, .string td] 26)
          replace o_b := o_b.alloc (.cells #[.bool nd, .string sd, .string td] 26)
          replace o_s := o_s.alloc (.cells #[.bool nd, .string sd, .string td] 26)
          replace hbw := below6 hbw hz1
          clear hz1
          go_upto_region 4 with (fail)
          generalize (wr.alloc (.cells #[.bool nd, .string sd, .string td] 26)) = wa2 at o_a o_b o_s o_r hbw ⊢
          generalize wr.heap.size = g2 at o_r ⊢
          clear qs_0 qs_1 qs_2
          have qr_0 : wa2.cell? ⟨g2, 0, none⟩ = some (.bool nd) := o_r.cell 0
          have qr_1 : wa2.cell? ⟨g2, 1, none⟩ = some (.string sd) := o_r.cell 1
          have qr_2 : wa2.cell? ⟨g2, 2, none⟩ = some (.string td) := o_r.cell 2
          go_wp2
          go_ret
          exact ⟨rfl, hbw⟩
        · have d1 : decide ((12 : Int) < (sd.size : Int)) = false := decide_eq_false (by omega)
          have d2 : decide ((12 : Int) < (td.size : Int)) = false := decide_eq_false (by omega)
          have G1 := Lib.hid g1
          have G2 := Lib.hid g2
          clear g1 g2
          have qs_0 : wr.cell? ⟨gs, 9, none⟩ = some (.bool nd) := o_s.cell 9
          have qs_1 : wr.cell? ⟨gs, 10, none⟩ = some (.string sd) := o_s.cell 10
          have qs_2 : wr.cell? ⟨gs, 11, none⟩ = some (.string td) := o_s.cell 11
          obtain ⟨o_r, hz1⟩ := new1 wr [.bool nd, .string sd, .string td] 26
          replace o_a := o_a.alloc (.cells #[.bool nd, .string sd, .string td] 26)
          replace o_b := o_b.alloc (.cells #[.bool nd, .string sd, .string td] 26)
          replace o_s := o_s.alloc (.cells #[.bool nd, .string sd, .string td] 26)
          replace hbw := below6 hbw hz1
          clear hz1
          go_upto_region 4 with (fail)
          generalize (wr.alloc (.cells #[.bool nd, .string sd, .string td] 26)) = wa2 at o_a o_b o_s o_r hbw ⊢
          generalize wr.heap.size = g2 at o_r ⊢
          clear qs_0 qs_1 qs_2
          have qr_0 : wa2.cell? ⟨g2, 0, none⟩ = some (.bool nd) := o_r.cell 0
          have qr_1 : wa2.cell? ⟨g2, 1, none⟩ = some (.string sd) := o_r.cell 1
          have qr_2 : wa2.cell? ⟨g2, 2, none⟩ = some (.string td) := o_r.cell 2
          go_wp2_with fail
          clear qr_0 qr_1 qr_2
          go_roundg 0
          case measure => have := HQ.out; omega
          case rel => exact ⟨4, rfl, by omega, by first | rfl | go_num, ⟨fun h => hsz.out.1 (by omega), fun h => hsz.out.2.1 (by omega), fun h => hsz.out.2.2.1 (by omega), fun _ => ⟨by have := G1.out; omega, by have := G2.out; omega⟩⟩, o_a, o_b, o_s, hbw⟩
    · clear hj o_s HQ
      obtain ⟨y1, y2, y3, y4⟩ := hsz.out
      obtain ⟨u1, u2⟩ := y1 (by omega)
      obtain ⟨u3, u4⟩ := y2 (by omega)
      obtain ⟨u5, u6⟩ := y3 (by omega)
      obtain ⟨u7, u8⟩ := y4 (by omega)
      clear hsz y1 y2 y3 y4
      obtain ⟨lm, lb, le, hl1, hl2⟩ := log2 na sa ta k u1 u2
      obtain ⟨nsa, ssa, tsa, nsb, ssb, tsb, ks, hs1, hs2⟩ := add2 na sa ta nb sb tb nc sc tc nd sd td u1 u2 u3 u4 u5 u6 u7 u8
      obtain ⟨npa, spa, tpa, npb, spb, tpb, kp, hp1, hp2⟩ := scale2 na sa ta nb sb tb nc sc tc u1 u2 u3 u4 u5 u6
      obtain ⟨nxa, sxa, txa, nxb, sxb, txb, kx, hx1, hx2⟩ := exact2 na sa ta u1 u2
      obtain ⟨bv, hv1, hv2, -⟩ := val2 na sa ta nb sb tb u1 u2 u3 u4
      obtain ⟨bc, hc1, hc2⟩ := contains2 na sa ta nb sb tb nc sc tc u1 u2 u3 u4 u5 u6
      obtain ⟨kc, hm1, hm2⟩ := compare2 na sa ta nb sb tb nc sc tc nd sd td u1 u2 u3 u4 u5 u6 u7 u8
      clear u1 u2 u3 u4 u5 u6 u7 u8
      have HL1 := Lib.hid hl1
      clear hl1
      have HL2 := Lib.hid hl2
      clear hl2
      have HS1 := Lib.hid hs1
      clear hs1
      have HS2 := Lib.hid hs2
      clear hs2
      have HP1 := Lib.hid hp1
      clear hp1
      have HP2 := Lib.hid hp2
      clear hp2
      have HX1 := Lib.hid hx1
      clear hx1
      have HX2 := Lib.hid hx2
      clear hx2
      have HV1 := Lib.hid hv1
      clear hv1
      have HV2 := Lib.hid hv2
      clear hv2
      have HC1 := Lib.hid hc1
      clear hc1
      have HC2 := Lib.hid hc2
      clear hc2
      have HM1 := Lib.hid hm1
      clear hm1
      have HM2 := Lib.hid hm2
      clear hm2
      have qa_0 : wr.cell? ⟨w.heap.size, 0, none⟩ = some (.bool na) := o_a.cell 0
      have qa_1 : wr.cell? ⟨w.heap.size, 1, none⟩ = some (.string sa) := o_a.cell 1
      have qa_2 : wr.cell? ⟨w.heap.size, 2, none⟩ = some (.string ta) := o_a.cell 2
      have qa_3 : wr.cell? ⟨w.heap.size, 3, none⟩ = some (.bool nb) := o_a.cell 3
      have qa_4 : wr.cell? ⟨w.heap.size, 4, none⟩ = some (.string sb) := o_a.cell 4
      have qa_5 : wr.cell? ⟨w.heap.size, 5, none⟩ = some (.string tb) := o_a.cell 5
      go_wp2_with fail
      clear qa_0 qa_1 qa_2 qa_3 qa_4 qa_5
      refine (HL1.out _).mono ?_
      rintro e w1 ⟨rfl, hb1⟩
      replace o_a := o_a.below hb1 o_a.lt
      replace o_b := o_b.below hb1 o_b.lt
      replace hbw := below6 hbw hb1
      clear hb1
      have qa_0 : w1.cell? ⟨w.heap.size, 0, none⟩ = some (.bool na) := o_a.cell 0
      have qa_1 : w1.cell? ⟨w.heap.size, 1, none⟩ = some (.string sa) := o_a.cell 1
      have qa_2 : w1.cell? ⟨w.heap.size, 2, none⟩ = some (.string ta) := o_a.cell 2
      have qa_3 : w1.cell? ⟨w.heap.size, 3, none⟩ = some (.bool nb) := o_a.cell 3
      have qa_4 : w1.cell? ⟨w.heap.size, 4, none⟩ = some (.string sb) := o_a.cell 4
      have qa_5 : w1.cell? ⟨w.heap.size, 5, none⟩ = some (.string tb) := o_a.cell 5
      go_wp2_with fail
      clear qa_0 qa_1 qa_2 qa_3 qa_4 qa_5
      refine (HL2.out _).mono ?_
      rintro e w2 ⟨rfl, hb2⟩
      replace o_a := o_a.below hb2 o_a.lt
      replace o_b := o_b.below hb2 o_b.lt
      replace hbw := below6 hbw hb2
      clear hb2
      have qa_0 : w2.cell? ⟨w.heap.size, 0, none⟩ = some (.bool na) := o_a.cell 0
      have qa_1 : w2.cell? ⟨w.heap.size, 1, none⟩ = some (.string sa) := o_a.cell 1
      have qa_2 : w2.cell? ⟨w.heap.size, 2, none⟩ = some (.string ta) := o_a.cell 2
      have qa_3 : w2.cell? ⟨w.heap.size, 3, none⟩ = some (.bool nb) := o_a.cell 3
      have qa_4 : w2.cell? ⟨w.heap.size, 4, none⟩ = some (.string sb) := o_a.cell 4
      have qa_5 : w2.cell? ⟨w.heap.size, 5, none⟩ = some (.string tb) := o_a.cell 5
      have qb_0 : w2.cell? ⟨w.heap.size + 1, 0, none⟩ = some (.bool nc) := o_b.cell 0
      have qb_1 : w2.cell? ⟨w.heap.size + 1, 1, none⟩ = some (.string sc) := o_b.cell 1
      have qb_2 : w2.cell? ⟨w.heap.size + 1, 2, none⟩ = some (.string tc) := o_b.cell 2
      have qb_3 : w2.cell? ⟨w.heap.size + 1, 3, none⟩ = some (.bool nd) := o_b.cell 3
      have qb_4 : w2.cell? ⟨w.heap.size + 1, 4, none⟩ = some (.string sd) := o_b.cell 4
      have qb_5 : w2.cell? ⟨w.heap.size + 1, 5, none⟩ = some (.string td) := o_b.cell 5
      go_wp2_with fail
      clear qa_0 qa_1 qa_2 qa_3 qa_4 qa_5 qb_0 qb_1 qb_2 qb_3 qb_4 qb_5
      refine (HS1.out _).mono ?_
      rintro e w3 ⟨rfl, hb3⟩
      replace o_a := o_a.below hb3 o_a.lt
      replace o_b := o_b.below hb3 o_b.lt
      replace hbw := below6 hbw hb3
      clear hb3
      obtain ⟨o_s, hz4⟩ := new1 w3 [.bool nsa, .string ssa, .string tsa, .bool nsb, .string ssb, .string tsb] 37
      replace o_a := o_a.alloc (.cells #[.bool nsa, .string ssa, .string tsa, .bool nsb, .string ssb, .string tsb] 37)
      replace o_b := o_b.alloc (.cells #[.bool nsa, .string ssa, .string tsa, .bool nsb, .string ssb, .string tsb] 37)
      replace hbw := below6 hbw hz4
      clear hz4
      have qa_0 : (w3.alloc (.cells #[.bool nsa, .string ssa, .string tsa, .bool nsb, .string ssb, .string tsb] 37)).cell? ⟨w.heap.size, 0, none⟩ = some (.bool na) := o_a.cell 0
      have qa_1 : (w3.alloc (.cells #[.bool nsa, .string ssa, .string tsa, .bool nsb, .string ssb, .string tsb] 37)).cell? ⟨w.heap.size, 1, none⟩ = some (.string sa) := o_a.cell 1
      have qa_2 : (w3.alloc (.cells #[.bool nsa, .string ssa, .string tsa, .bool nsb, .string ssb, .string tsb] 37)).cell? ⟨w.heap.size, 2, none⟩ = some (.string ta) := o_a.cell 2
      have qa_3 : (w3.alloc (.cells #[.bool nsa, .string ssa, .string tsa, .bool nsb, .string ssb, .string tsb] 37)).cell? ⟨w.heap.size, 3, none⟩ = some (.bool nb) := o_a.cell 3
      have qa_4 : (w3.alloc (.cells #[.bool nsa, .string ssa, .string tsa, .bool nsb, .string ssb, .string tsb] 37)).cell? ⟨w.heap.size, 4, none⟩ = some (.string sb) := o_a.cell 4
      have qa_5 : (w3.alloc (.cells #[.bool nsa, .string ssa, .string tsa, .bool nsb, .string ssb, .string tsb] 37)).cell? ⟨w.heap.size, 5, none⟩ = some (.string tb) := o_a.cell 5
      have qb_0 : (w3.alloc (.cells #[.bool nsa, .string ssa, .string tsa, .bool nsb, .string ssb, .string tsb] 37)).cell? ⟨w.heap.size + 1, 0, none⟩ = some (.bool nc) := o_b.cell 0
      have qb_1 : (w3.alloc (.cells #[.bool nsa, .string ssa, .string tsa, .bool nsb, .string ssb, .string tsb] 37)).cell? ⟨w.heap.size + 1, 1, none⟩ = some (.string sc) := o_b.cell 1
      have qb_2 : (w3.alloc (.cells #[.bool nsa, .string ssa, .string tsa, .bool nsb, .string ssb, .string tsb] 37)).cell? ⟨w.heap.size + 1, 2, none⟩ = some (.string tc) := o_b.cell 2
      have qb_3 : (w3.alloc (.cells #[.bool nsa, .string ssa, .string tsa, .bool nsb, .string ssb, .string tsb] 37)).cell? ⟨w.heap.size + 1, 3, none⟩ = some (.bool nd) := o_b.cell 3
      have qb_4 : (w3.alloc (.cells #[.bool nsa, .string ssa, .string tsa, .bool nsb, .string ssb, .string tsb] 37)).cell? ⟨w.heap.size + 1, 4, none⟩ = some (.string sd) := o_b.cell 4
      have qb_5 : (w3.alloc (.cells #[.bool nsa, .string ssa, .string tsa, .bool nsb, .string ssb, .string tsb] 37)).cell? ⟨w.heap.size + 1, 5, none⟩ = some (.string td) := o_b.cell 5
      go_wp2_with fail
      generalize (w3.alloc (.cells #[.bool nsa, .string ssa, .string tsa, .bool nsb, .string ssb, .string tsb] 37)) = wa5 at o_a o_b o_s hbw ⊢
      generalize w3.heap.size = g5 at o_s ⊢
      clear qa_0 qa_1 qa_2 qa_3 qa_4 qa_5 qb_0 qb_1 qb_2 qb_3 qb_4 qb_5
      refine (HS2.out _).mono ?_
      rintro e w6 ⟨rfl, hb6⟩
      replace o_a := o_a.below hb6 o_a.lt
      replace o_b := o_b.below hb6 o_b.lt
      replace o_s := o_s.below hb6 o_s.lt
      replace hbw := below6 hbw hb6
      clear hb6
      obtain ⟨o_t, hz7⟩ := new1 w6 [.bool nsa, .string ssa, .string tsa, .bool nsb, .string ssb, .string tsb] 37
      replace o_a := o_a.alloc (.cells #[.bool nsa, .string ssa, .string tsa, .bool nsb, .string ssb, .string tsb] 37)
      replace o_b := o_b.alloc (.cells #[.bool nsa, .string ssa, .string tsa, .bool nsb, .string ssb, .string tsb] 37)
      replace o_s := o_s.alloc (.cells #[.bool nsa, .string ssa, .string tsa, .bool nsb, .string ssb, .string tsb] 37)
      replace hbw := below6 hbw hz7
      clear hz7
      have qa_0 : (w6.alloc (.cells #[.bool nsa, .string ssa, .string tsa, .bool nsb, .string ssb, .string tsb] 37)).cell? ⟨w.heap.size, 0, none⟩ = some (.bool na) := o_a.cell 0
      have qa_1 : (w6.alloc (.cells #[.bool nsa, .string ssa, .string tsa, .bool nsb, .string ssb, .string tsb] 37)).cell? ⟨w.heap.size, 1, none⟩ = some (.string sa) := o_a.cell 1
      have qa_2 : (w6.alloc (.cells #[.bool nsa, .string ssa, .string tsa, .bool nsb, .string ssb, .string tsb] 37)).cell? ⟨w.heap.size, 2, none⟩ = some (.string ta) := o_a.cell 2
      have qa_3 : (w6.alloc (.cells #[.bool nsa, .string ssa, .string tsa, .bool nsb, .string ssb, .string tsb] 37)).cell? ⟨w.heap.size, 3, none⟩ = some (.bool nb) := o_a.cell 3
      have qa_4 : (w6.alloc (.cells #[.bool nsa, .string ssa, .string tsa, .bool nsb, .string ssb, .string tsb] 37)).cell? ⟨w.heap.size, 4, none⟩ = some (.string sb) := o_a.cell 4
      have qa_5 : (w6.alloc (.cells #[.bool nsa, .string ssa, .string tsa, .bool nsb, .string ssb, .string tsb] 37)).cell? ⟨w.heap.size, 5, none⟩ = some (.string tb) := o_a.cell 5
      have qb_0 : (w6.alloc (.cells #[.bool nsa, .string ssa, .string tsa, .bool nsb, .string ssb, .string tsb] 37)).cell? ⟨w.heap.size + 1, 0, none⟩ = some (.bool nc) := o_b.cell 0
      have qb_1 : (w6.alloc (.cells #[.bool nsa, .string ssa, .string tsa, .bool nsb, .string ssb, .string tsb] 37)).cell? ⟨w.heap.size + 1, 1, none⟩ = some (.string sc) := o_b.cell 1
      have qb_2 : (w6.alloc (.cells #[.bool nsa, .string ssa, .string tsa, .bool nsb, .string ssb, .string tsb] 37)).cell? ⟨w.heap.size + 1, 2, none⟩ = some (.string tc) := o_b.cell 2
      have qb_3 : (w6.alloc (.cells #[.bool nsa, .string ssa, .string tsa, .bool nsb, .string ssb, .string tsb] 37)).cell? ⟨w.heap.size + 1, 3, none⟩ = some (.bool nd) := o_b.cell 3
      have qb_4 : (w6.alloc (.cells #[.bool nsa, .string ssa, .string tsa, .bool nsb, .string ssb, .string tsb] 37)).cell? ⟨w.heap.size + 1, 4, none⟩ = some (.string sd) := o_b.cell 4
      have qb_5 : (w6.alloc (.cells #[.bool nsa, .string ssa, .string tsa, .bool nsb, .string ssb, .string tsb] 37)).cell? ⟨w.heap.size + 1, 5, none⟩ = some (.string td) := o_b.cell 5
      go_wp2_with fail
      generalize (w6.alloc (.cells #[.bool nsa, .string ssa, .string tsa, .bool nsb, .string ssb, .string tsb] 37)) = wa8 at o_a o_b o_s o_t hbw ⊢
      generalize w6.heap.size = g8 at o_t ⊢
      clear qa_0 qa_1 qa_2 qa_3 qa_4 qa_5 qb_0 qb_1 qb_2 qb_3 qb_4 qb_5
      refine (HP1.out _).mono ?_
      rintro e w9 ⟨rfl, hb9⟩
      replace o_a := o_a.below hb9 o_a.lt
      replace o_b := o_b.below hb9 o_b.lt
      replace o_s := o_s.below hb9 o_s.lt
      replace o_t := o_t.below hb9 o_t.lt
      replace hbw := below6 hbw hb9
      clear hb9
      obtain ⟨o_p, hz10⟩ := new1 w9 [.bool npa, .string spa, .string tpa, .bool npb, .string spb, .string tpb] 37
      replace o_a := o_a.alloc (.cells #[.bool npa, .string spa, .string tpa, .bool npb, .string spb, .string tpb] 37)
      replace o_b := o_b.alloc (.cells #[.bool npa, .string spa, .string tpa, .bool npb, .string spb, .string tpb] 37)
      replace o_s := o_s.alloc (.cells #[.bool npa, .string spa, .string tpa, .bool npb, .string spb, .string tpb] 37)
      replace o_t := o_t.alloc (.cells #[.bool npa, .string spa, .string tpa, .bool npb, .string spb, .string tpb] 37)
      replace hbw := below6 hbw hz10
      clear hz10
      have qa_0 : (w9.alloc (.cells #[.bool npa, .string spa, .string tpa, .bool npb, .string spb, .string tpb] 37)).cell? ⟨w.heap.size, 0, none⟩ = some (.bool na) := o_a.cell 0
      have qa_1 : (w9.alloc (.cells #[.bool npa, .string spa, .string tpa, .bool npb, .string spb, .string tpb] 37)).cell? ⟨w.heap.size, 1, none⟩ = some (.string sa) := o_a.cell 1
      have qa_2 : (w9.alloc (.cells #[.bool npa, .string spa, .string tpa, .bool npb, .string spb, .string tpb] 37)).cell? ⟨w.heap.size, 2, none⟩ = some (.string ta) := o_a.cell 2
      have qa_3 : (w9.alloc (.cells #[.bool npa, .string spa, .string tpa, .bool npb, .string spb, .string tpb] 37)).cell? ⟨w.heap.size, 3, none⟩ = some (.bool nb) := o_a.cell 3
      have qa_4 : (w9.alloc (.cells #[.bool npa, .string spa, .string tpa, .bool npb, .string spb, .string tpb] 37)).cell? ⟨w.heap.size, 4, none⟩ = some (.string sb) := o_a.cell 4
      have qa_5 : (w9.alloc (.cells #[.bool npa, .string spa, .string tpa, .bool npb, .string spb, .string tpb] 37)).cell? ⟨w.heap.size, 5, none⟩ = some (.string tb) := o_a.cell 5
      have qb_0 : (w9.alloc (.cells #[.bool npa, .string spa, .string tpa, .bool npb, .string spb, .string tpb] 37)).cell? ⟨w.heap.size + 1, 0, none⟩ = some (.bool nc) := o_b.cell 0
      have qb_1 : (w9.alloc (.cells #[.bool npa, .string spa, .string tpa, .bool npb, .string spb, .string tpb] 37)).cell? ⟨w.heap.size + 1, 1, none⟩ = some (.string sc) := o_b.cell 1
      have qb_2 : (w9.alloc (.cells #[.bool npa, .string spa, .string tpa, .bool npb, .string spb, .string tpb] 37)).cell? ⟨w.heap.size + 1, 2, none⟩ = some (.string tc) := o_b.cell 2
      have qb_3 : (w9.alloc (.cells #[.bool npa, .string spa, .string tpa, .bool npb, .string spb, .string tpb] 37)).cell? ⟨w.heap.size + 1, 3, none⟩ = some (.bool nd) := o_b.cell 3
      have qb_4 : (w9.alloc (.cells #[.bool npa, .string spa, .string tpa, .bool npb, .string spb, .string tpb] 37)).cell? ⟨w.heap.size + 1, 4, none⟩ = some (.string sd) := o_b.cell 4
      have qb_5 : (w9.alloc (.cells #[.bool npa, .string spa, .string tpa, .bool npb, .string spb, .string tpb] 37)).cell? ⟨w.heap.size + 1, 5, none⟩ = some (.string td) := o_b.cell 5
      go_wp2_with fail
      generalize (w9.alloc (.cells #[.bool npa, .string spa, .string tpa, .bool npb, .string spb, .string tpb] 37)) = wa11 at o_a o_b o_s o_t o_p hbw ⊢
      generalize w9.heap.size = g11 at o_p ⊢
      clear qa_0 qa_1 qa_2 qa_3 qa_4 qa_5 qb_0 qb_1 qb_2 qb_3 qb_4 qb_5
      refine (HP2.out _).mono ?_
      rintro e w12 ⟨rfl, hb12⟩
      replace o_a := o_a.below hb12 o_a.lt
      replace o_b := o_b.below hb12 o_b.lt
      replace o_s := o_s.below hb12 o_s.lt
      replace o_t := o_t.below hb12 o_t.lt
      replace o_p := o_p.below hb12 o_p.lt
      replace hbw := below6 hbw hb12
      clear hb12
      obtain ⟨o_q, hz13⟩ := new1 w12 [.bool npa, .string spa, .string tpa, .bool npb, .string spb, .string tpb] 37
      replace o_a := o_a.alloc (.cells #[.bool npa, .string spa, .string tpa, .bool npb, .string spb, .string tpb] 37)
      replace o_b := o_b.alloc (.cells #[.bool npa, .string spa, .string tpa, .bool npb, .string spb, .string tpb] 37)
      replace o_s := o_s.alloc (.cells #[.bool npa, .string spa, .string tpa, .bool npb, .string spb, .string tpb] 37)
      replace o_t := o_t.alloc (.cells #[.bool npa, .string spa, .string tpa, .bool npb, .string spb, .string tpb] 37)
      replace o_p := o_p.alloc (.cells #[.bool npa, .string spa, .string tpa, .bool npb, .string spb, .string tpb] 37)
      replace hbw := below6 hbw hz13
      clear hz13
      have qa_0 : (w12.alloc (.cells #[.bool npa, .string spa, .string tpa, .bool npb, .string spb, .string tpb] 37)).cell? ⟨w.heap.size, 0, none⟩ = some (.bool na) := o_a.cell 0
      have qa_1 : (w12.alloc (.cells #[.bool npa, .string spa, .string tpa, .bool npb, .string spb, .string tpb] 37)).cell? ⟨w.heap.size, 1, none⟩ = some (.string sa) := o_a.cell 1
      have qa_2 : (w12.alloc (.cells #[.bool npa, .string spa, .string tpa, .bool npb, .string spb, .string tpb] 37)).cell? ⟨w.heap.size, 2, none⟩ = some (.string ta) := o_a.cell 2
      have qa_3 : (w12.alloc (.cells #[.bool npa, .string spa, .string tpa, .bool npb, .string spb, .string tpb] 37)).cell? ⟨w.heap.size, 3, none⟩ = some (.bool nb) := o_a.cell 3
      have qa_4 : (w12.alloc (.cells #[.bool npa, .string spa, .string tpa, .bool npb, .string spb, .string tpb] 37)).cell? ⟨w.heap.size, 4, none⟩ = some (.string sb) := o_a.cell 4
      have qa_5 : (w12.alloc (.cells #[.bool npa, .string spa, .string tpa, .bool npb, .string spb, .string tpb] 37)).cell? ⟨w.heap.size, 5, none⟩ = some (.string tb) := o_a.cell 5
      have qb_0 : (w12.alloc (.cells #[.bool npa, .string spa, .string tpa, .bool npb, .string spb, .string tpb] 37)).cell? ⟨w.heap.size + 1, 0, none⟩ = some (.bool nc) := o_b.cell 0
      have qb_1 : (w12.alloc (.cells #[.bool npa, .string spa, .string tpa, .bool npb, .string spb, .string tpb] 37)).cell? ⟨w.heap.size + 1, 1, none⟩ = some (.string sc) := o_b.cell 1
      have qb_2 : (w12.alloc (.cells #[.bool npa, .string spa, .string tpa, .bool npb, .string spb, .string tpb] 37)).cell? ⟨w.heap.size + 1, 2, none⟩ = some (.string tc) := o_b.cell 2
      have qb_3 : (w12.alloc (.cells #[.bool npa, .string spa, .string tpa, .bool npb, .string spb, .string tpb] 37)).cell? ⟨w.heap.size + 1, 3, none⟩ = some (.bool nd) := o_b.cell 3
      have qb_4 : (w12.alloc (.cells #[.bool npa, .string spa, .string tpa, .bool npb, .string spb, .string tpb] 37)).cell? ⟨w.heap.size + 1, 4, none⟩ = some (.string sd) := o_b.cell 4
      have qb_5 : (w12.alloc (.cells #[.bool npa, .string spa, .string tpa, .bool npb, .string spb, .string tpb] 37)).cell? ⟨w.heap.size + 1, 5, none⟩ = some (.string td) := o_b.cell 5
      go_wp2_with fail
      generalize (w12.alloc (.cells #[.bool npa, .string spa, .string tpa, .bool npb, .string spb, .string tpb] 37)) = wa14 at o_a o_b o_s o_t o_p o_q hbw ⊢
      generalize w12.heap.size = g14 at o_q ⊢
      clear qa_0 qa_1 qa_2 qa_3 qa_4 qa_5 qb_0 qb_1 qb_2 qb_3 qb_4 qb_5
      refine (HX1.out _).mono ?_
      rintro e w15 ⟨rfl, hb15⟩
      replace o_a := o_a.below hb15 o_a.lt
      replace o_b := o_b.below hb15 o_b.lt
      replace o_s := o_s.below hb15 o_s.lt
      replace o_t := o_t.below hb15 o_t.lt
      replace o_p := o_p.below hb15 o_p.lt
      replace o_q := o_q.below hb15 o_q.lt
      replace hbw := below6 hbw hb15
      clear hb15
      obtain ⟨o_x, hz16⟩ := new1 w15 [.bool nxa, .string sxa, .string txa, .bool nxb, .string sxb, .string txb] 37
      replace o_a := o_a.alloc (.cells #[.bool nxa, .string sxa, .string txa, .bool nxb, .string sxb, .string txb] 37)
      replace o_b := o_b.alloc (.cells #[.bool nxa, .string sxa, .string txa, .bool nxb, .string sxb, .string txb] 37)
      replace o_s := o_s.alloc (.cells #[.bool nxa, .string sxa, .string txa, .bool nxb, .string sxb, .string txb] 37)
      replace o_t := o_t.alloc (.cells #[.bool nxa, .string sxa, .string txa, .bool nxb, .string sxb, .string txb] 37)
      replace o_p := o_p.alloc (.cells #[.bool nxa, .string sxa, .string txa, .bool nxb, .string sxb, .string txb] 37)
      replace o_q := o_q.alloc (.cells #[.bool nxa, .string sxa, .string txa, .bool nxb, .string sxb, .string txb] 37)
      replace hbw := below6 hbw hz16
      clear hz16
      have qa_0 : (w15.alloc (.cells #[.bool nxa, .string sxa, .string txa, .bool nxb, .string sxb, .string txb] 37)).cell? ⟨w.heap.size, 0, none⟩ = some (.bool na) := o_a.cell 0
      have qa_1 : (w15.alloc (.cells #[.bool nxa, .string sxa, .string txa, .bool nxb, .string sxb, .string txb] 37)).cell? ⟨w.heap.size, 1, none⟩ = some (.string sa) := o_a.cell 1
      have qa_2 : (w15.alloc (.cells #[.bool nxa, .string sxa, .string txa, .bool nxb, .string sxb, .string txb] 37)).cell? ⟨w.heap.size, 2, none⟩ = some (.string ta) := o_a.cell 2
      have qa_3 : (w15.alloc (.cells #[.bool nxa, .string sxa, .string txa, .bool nxb, .string sxb, .string txb] 37)).cell? ⟨w.heap.size, 3, none⟩ = some (.bool nb) := o_a.cell 3
      have qa_4 : (w15.alloc (.cells #[.bool nxa, .string sxa, .string txa, .bool nxb, .string sxb, .string txb] 37)).cell? ⟨w.heap.size, 4, none⟩ = some (.string sb) := o_a.cell 4
      have qa_5 : (w15.alloc (.cells #[.bool nxa, .string sxa, .string txa, .bool nxb, .string sxb, .string txb] 37)).cell? ⟨w.heap.size, 5, none⟩ = some (.string tb) := o_a.cell 5
      have qb_0 : (w15.alloc (.cells #[.bool nxa, .string sxa, .string txa, .bool nxb, .string sxb, .string txb] 37)).cell? ⟨w.heap.size + 1, 0, none⟩ = some (.bool nc) := o_b.cell 0
      have qb_1 : (w15.alloc (.cells #[.bool nxa, .string sxa, .string txa, .bool nxb, .string sxb, .string txb] 37)).cell? ⟨w.heap.size + 1, 1, none⟩ = some (.string sc) := o_b.cell 1
      have qb_2 : (w15.alloc (.cells #[.bool nxa, .string sxa, .string txa, .bool nxb, .string sxb, .string txb] 37)).cell? ⟨w.heap.size + 1, 2, none⟩ = some (.string tc) := o_b.cell 2
      have qb_3 : (w15.alloc (.cells #[.bool nxa, .string sxa, .string txa, .bool nxb, .string sxb, .string txb] 37)).cell? ⟨w.heap.size + 1, 3, none⟩ = some (.bool nd) := o_b.cell 3
      have qb_4 : (w15.alloc (.cells #[.bool nxa, .string sxa, .string txa, .bool nxb, .string sxb, .string txb] 37)).cell? ⟨w.heap.size + 1, 4, none⟩ = some (.string sd) := o_b.cell 4
      have qb_5 : (w15.alloc (.cells #[.bool nxa, .string sxa, .string txa, .bool nxb, .string sxb, .string txb] 37)).cell? ⟨w.heap.size + 1, 5, none⟩ = some (.string td) := o_b.cell 5
      go_wp2_with fail
      generalize (w15.alloc (.cells #[.bool nxa, .string sxa, .string txa, .bool nxb, .string sxb, .string txb] 37)) = wa17 at o_a o_b o_s o_t o_p o_q o_x hbw ⊢
      generalize w15.heap.size = g17 at o_x ⊢
      clear qa_0 qa_1 qa_2 qa_3 qa_4 qa_5 qb_0 qb_1 qb_2 qb_3 qb_4 qb_5
      refine (HX2.out _).mono ?_
      rintro e w18 ⟨rfl, hb18⟩
      replace o_a := o_a.below hb18 o_a.lt
      replace o_b := o_b.below hb18 o_b.lt
      replace o_s := o_s.below hb18 o_s.lt
      replace o_t := o_t.below hb18 o_t.lt
      replace o_p := o_p.below hb18 o_p.lt
      replace o_q := o_q.below hb18 o_q.lt
      replace o_x := o_x.below hb18 o_x.lt
      replace hbw := below6 hbw hb18
      clear hb18
      obtain ⟨o_y, hz19⟩ := new1 w18 [.bool nxa, .string sxa, .string txa, .bool nxb, .string sxb, .string txb] 37
      replace o_a := o_a.alloc (.cells #[.bool nxa, .string sxa, .string txa, .bool nxb, .string sxb, .string txb] 37)
      replace o_b := o_b.alloc (.cells #[.bool nxa, .string sxa, .string txa, .bool nxb, .string sxb, .string txb] 37)
      replace o_s := o_s.alloc (.cells #[.bool nxa, .string sxa, .string txa, .bool nxb, .string sxb, .string txb] 37)
      replace o_t := o_t.alloc (.cells #[.bool nxa, .string sxa, .string txa, .bool nxb, .string sxb, .string txb] 37)
      replace o_p := o_p.alloc (.cells #[.bool nxa, .string sxa, .string txa, .bool nxb, .string sxb, .string txb] 37)
      replace o_q := o_q.alloc (.cells #[.bool nxa, .string sxa, .string txa, .bool nxb, .string sxb, .string txb] 37)
      replace o_x := o_x.alloc (.cells #[.bool nxa, .string sxa, .string txa, .bool nxb, .string sxb, .string txb] 37)
      replace hbw := below6 hbw hz19
      clear hz19
      go_upto_region 15 with (fail)
      generalize (w18.alloc (.cells #[.bool nxa, .string sxa, .string txa, .bool nxb, .string sxb, .string txb] 37)) = wa20 at o_a o_b o_s o_t o_p o_q o_x o_y hbw ⊢
      generalize w18.heap.size = g20 at o_y ⊢
      have qa_0 : wa20.cell? ⟨w.heap.size, 0, none⟩ = some (.bool na) := o_a.cell 0
      have qa_1 : wa20.cell? ⟨w.heap.size, 1, none⟩ = some (.string sa) := o_a.cell 1
      have qa_2 : wa20.cell? ⟨w.heap.size, 2, none⟩ = some (.string ta) := o_a.cell 2
      have qa_3 : wa20.cell? ⟨w.heap.size, 3, none⟩ = some (.bool nb) := o_a.cell 3
      have qa_4 : wa20.cell? ⟨w.heap.size, 4, none⟩ = some (.string sb) := o_a.cell 4
      have qa_5 : wa20.cell? ⟨w.heap.size, 5, none⟩ = some (.string tb) := o_a.cell 5
      have qb_0 : wa20.cell? ⟨w.heap.size + 1, 0, none⟩ = some (.bool nc) := o_b.cell 0
      have qb_1 : wa20.cell? ⟨w.heap.size + 1, 1, none⟩ = some (.string sc) := o_b.cell 1
      have qb_2 : wa20.cell? ⟨w.heap.size + 1, 2, none⟩ = some (.string tc) := o_b.cell 2
      have qb_3 : wa20.cell? ⟨w.heap.size + 1, 3, none⟩ = some (.bool nd) := o_b.cell 3
      have qb_4 : wa20.cell? ⟨w.heap.size + 1, 4, none⟩ = some (.string sd) := o_b.cell 4
      have qb_5 : wa20.cell? ⟨w.heap.size + 1, 5, none⟩ = some (.string td) := o_b.cell 5
      have qs_0 : wa20.cell? ⟨g5, 0, none⟩ = some (.bool nsa) := o_s.cell 0
      have qs_1 : wa20.cell? ⟨g5, 1, none⟩ = some (.string ssa) := o_s.cell 1
      have qs_2 : wa20.cell? ⟨g5, 2, none⟩ = some (.string tsa) := o_s.cell 2
      have qs_3 : wa20.cell? ⟨g5, 3, none⟩ = some (.bool nsb) := o_s.cell 3
      have qs_4 : wa20.cell? ⟨g5, 4, none⟩ = some (.string ssb) := o_s.cell 4
      have qs_5 : wa20.cell? ⟨g5, 5, none⟩ = some (.string tsb) := o_s.cell 5
      have qt_0 : wa20.cell? ⟨g8, 0, none⟩ = some (.bool nsa) := o_t.cell 0
      have qt_1 : wa20.cell? ⟨g8, 1, none⟩ = some (.string ssa) := o_t.cell 1
      have qt_2 : wa20.cell? ⟨g8, 2, none⟩ = some (.string tsa) := o_t.cell 2
      have qt_3 : wa20.cell? ⟨g8, 3, none⟩ = some (.bool nsb) := o_t.cell 3
      have qt_4 : wa20.cell? ⟨g8, 4, none⟩ = some (.string ssb) := o_t.cell 4
      have qt_5 : wa20.cell? ⟨g8, 5, none⟩ = some (.string tsb) := o_t.cell 5
      have qp_0 : wa20.cell? ⟨g11, 0, none⟩ = some (.bool npa) := o_p.cell 0
      have qp_1 : wa20.cell? ⟨g11, 1, none⟩ = some (.string spa) := o_p.cell 1
      have qp_2 : wa20.cell? ⟨g11, 2, none⟩ = some (.string tpa) := o_p.cell 2
      have qp_3 : wa20.cell? ⟨g11, 3, none⟩ = some (.bool npb) := o_p.cell 3
      have qp_4 : wa20.cell? ⟨g11, 4, none⟩ = some (.string spb) := o_p.cell 4
      have qp_5 : wa20.cell? ⟨g11, 5, none⟩ = some (.string tpb) := o_p.cell 5
      have qq_0 : wa20.cell? ⟨g14, 0, none⟩ = some (.bool npa) := o_q.cell 0
      have qq_1 : wa20.cell? ⟨g14, 1, none⟩ = some (.string spa) := o_q.cell 1
      have qq_2 : wa20.cell? ⟨g14, 2, none⟩ = some (.string tpa) := o_q.cell 2
      have qq_3 : wa20.cell? ⟨g14, 3, none⟩ = some (.bool npb) := o_q.cell 3
      have qq_4 : wa20.cell? ⟨g14, 4, none⟩ = some (.string spb) := o_q.cell 4
      have qq_5 : wa20.cell? ⟨g14, 5, none⟩ = some (.string tpb) := o_q.cell 5
      have qx_0 : wa20.cell? ⟨g17, 0, none⟩ = some (.bool nxa) := o_x.cell 0
      have qx_1 : wa20.cell? ⟨g17, 1, none⟩ = some (.string sxa) := o_x.cell 1
      have qx_2 : wa20.cell? ⟨g17, 2, none⟩ = some (.string txa) := o_x.cell 2
      have qx_3 : wa20.cell? ⟨g17, 3, none⟩ = some (.bool nxb) := o_x.cell 3
      have qx_4 : wa20.cell? ⟨g17, 4, none⟩ = some (.string sxb) := o_x.cell 4
      have qx_5 : wa20.cell? ⟨g17, 5, none⟩ = some (.string txb) := o_x.cell 5
      have qy_0 : wa20.cell? ⟨g20, 0, none⟩ = some (.bool nxa) := o_y.cell 0
      have qy_1 : wa20.cell? ⟨g20, 1, none⟩ = some (.string sxa) := o_y.cell 1
      have qy_2 : wa20.cell? ⟨g20, 2, none⟩ = some (.string txa) := o_y.cell 2
      have qy_3 : wa20.cell? ⟨g20, 3, none⟩ = some (.bool nxb) := o_y.cell 3
      have qy_4 : wa20.cell? ⟨g20, 4, none⟩ = some (.string sxb) := o_y.cell 4
      have qy_5 : wa20.cell? ⟨g20, 5, none⟩ = some (.string txb) := o_y.cell 5
      have HKN := Lib.hid known37
      refine wp_reg_abs (some 106 :: some 107 :: some 108 :: some 109 :: some 110 :: some 111 :: some 112 :: some 113 :: some 114 :: some 115 :: some 116 :: some 117 :: some 118 :: some 119 :: some 120 :: some 121 :: some 122 :: some 123 :: some 124 :: some 125 :: some 126 :: some 127 :: some 128 :: some 129 :: some 130 :: some 131 :: some 132 :: some 133 :: some 134 :: some 135 :: some 136 :: some 137 :: some 138 :: some 139 :: some 140 :: some 141 :: some 142 :: some 143 :: some 144 :: some 145 :: some 146 :: some 147 :: some 148 :: some 149 :: some 150 :: some 151 :: some 152 :: some 153 :: some 154 :: some 155 :: some 156 :: some 157 :: some 158 :: some 159 :: some 160 :: some 161 :: some 162 :: some 163 :: some 164 :: some 165 :: some 166 :: some 167 :: some 168 :: some 169 :: some 170 :: some 171 :: some 172 :: some 173 :: some 174 :: some 175 :: some 176 :: some 177 :: some 178 :: some 6 :: []) (?v1_0 :: ?v1_1 :: ?v1_2 :: ?v1_3 :: ?v1_4 :: ?v1_5 :: ?v1_6 :: ?v1_7 :: ?v1_8 :: ?v1_9 :: ?v1_10 :: ?v1_11 :: ?v1_12 :: ?v1_13 :: ?v1_14 :: ?v1_15 :: ?v1_16 :: ?v1_17 :: ?v1_18 :: ?v1_19 :: ?v1_20 :: ?v1_21 :: ?v1_22 :: ?v1_23 :: ?v1_24 :: ?v1_25 :: ?v1_26 :: ?v1_27 :: ?v1_28 :: ?v1_29 :: ?v1_30 :: ?v1_31 :: ?v1_32 :: ?v1_33 :: ?v1_34 :: ?v1_35 :: ?v1_36 :: ?v1_37 :: ?v1_38 :: ?v1_39 :: ?v1_40 :: ?v1_41 :: ?v1_42 :: ?v1_43 :: ?v1_44 :: ?v1_45 :: ?v1_46 :: ?v1_47 :: ?v1_48 :: ?v1_49 :: ?v1_50 :: ?v1_51 :: ?v1_52 :: ?v1_53 :: ?v1_54 :: ?v1_55 :: ?v1_56 :: ?v1_57 :: ?v1_58 :: ?v1_59 :: ?v1_60 :: ?v1_61 :: ?v1_62 :: ?v1_63 :: ?v1_64 :: ?v1_65 :: ?v1_66 :: ?v1_67 :: ?v1_68 :: ?v1_69 :: ?v1_70 :: ?v1_71 :: ?v1_72 :: ?v1_73 :: []) rfl (by kernel_rfl) rfl rfl ⟨?s1_0, ?s1_1, ?s1_2, ?s1_3, ?s1_4, ?s1_5, ?s1_6, ?s1_7, ?s1_8, ?s1_9, ?s1_10, ?s1_11, ?s1_12, ?s1_13, ?s1_14, ?s1_15, ?s1_16, ?s1_17, ?s1_18, ?s1_19, ?s1_20, ?s1_21, ?s1_22, ?s1_23, ?s1_24, ?s1_25, ?s1_26, ?s1_27, ?s1_28, ?s1_29, ?s1_30, ?s1_31, ?s1_32, ?s1_33, ?s1_34, ?s1_35, ?s1_36, ?s1_37, ?s1_38, ?s1_39, ?s1_40, ?s1_41, ?s1_42, ?s1_43, ?s1_44, ?s1_45, ?s1_46, ?s1_47, ?s1_48, ?s1_49, ?s1_50, ?s1_51, ?s1_52, ?s1_53, ?s1_54, ?s1_55, ?s1_56, ?s1_57, ?s1_58, ?s1_59, ?s1_60, ?s1_61, ?s1_62, ?s1_63, ?s1_64, ?s1_65, ?s1_66, ?s1_67, ?s1_68, ?s1_69, ?s1_70, ?s1_71, ?s1_72, ?s1_73, trivial⟩ ?p1
      case s1_0 =>
        intro t9 w9 hT9 hV9 hO9 K9 hK9
        have o9_9 := hO9 9 _ (by kernel_rfl) rfl
        clear hV9 hO9
        go_simp
        exact hK9 _ (Grow.refl _)
      case s1_1 =>
        intro t9 w9 hT9 hV9 hO9 K9 hK9
        have o9_12 := hO9 12 _ (by kernel_rfl) rfl
        clear hV9 hO9
        go_simp
        exact hK9 _ (Grow.refl _)
      case s1_2 =>
        intro t9 w9 hT9 hV9 hO9 K9 hK9
        have p9_0 : t9[106]? = some ?v1_0 := hV9 0 106 rfl rfl (of_decide_eq_true (by kernel_rfl))
        have p9_1 : t9[107]? = some ?v1_1 := hV9 1 107 rfl rfl (of_decide_eq_true (by kernel_rfl))
        clear hV9 hO9
        go_simp
        exact hK9 _ (Grow.refl _)
      case s1_3 =>
        intro t9 w9 hT9 hV9 hO9 K9 hK9
        have p9_2 : t9[108]? = some ?v1_2 := hV9 2 108 rfl rfl (of_decide_eq_true (by kernel_rfl))
        clear hV9 hO9
        go_simp
        exact hK9 _ (Grow.refl _)
      case s1_4 =>
        intro t9 w9 hT9 hV9 hO9 K9 hK9
        have p9_3 : t9[109]? = some ?v1_3 := hV9 3 109 rfl rfl (of_decide_eq_true (by kernel_rfl))
        have o9_10 := hO9 10 _ (by kernel_rfl) rfl
        clear hV9 hO9
        go_simp
        exact hK9 _ (Grow.refl _)
      case s1_5 =>
        intro t9 w9 hT9 hV9 hO9 K9 hK9
        have p9_3 : t9[109]? = some ?v1_3 := hV9 3 109 rfl rfl (of_decide_eq_true (by kernel_rfl))
        have o9_13 := hO9 13 _ (by kernel_rfl) rfl
        clear hV9 hO9
        go_simp
        exact hK9 _ (Grow.refl _)
      case s1_6 =>
        intro t9 w9 hT9 hV9 hO9 K9 hK9
        have p9_3 : t9[109]? = some ?v1_3 := hV9 3 109 rfl rfl (of_decide_eq_true (by kernel_rfl))
        have p9_4 : t9[110]? = some ?v1_4 := hV9 4 110 rfl rfl (of_decide_eq_true (by kernel_rfl))
        have p9_5 : t9[111]? = some ?v1_5 := hV9 5 111 rfl rfl (of_decide_eq_true (by kernel_rfl))
        clear hV9 hO9
        go_simp
        exact hK9 _ (Grow.refl _)
      case s1_7 =>
        intro t9 w9 hT9 hV9 hO9 K9 hK9
        have p9_3 : t9[109]? = some ?v1_3 := hV9 3 109 rfl rfl (of_decide_eq_true (by kernel_rfl))
        have p9_6 : t9[112]? = some ?v1_6 := hV9 6 112 rfl rfl (of_decide_eq_true (by kernel_rfl))
        clear hV9 hO9
        go_simp
        exact hK9 _ (Grow.refl _)
      case s1_8 =>
        intro t9 w9 hT9 hV9 hO9 K9 hK9
        have p9_7 : t9[113]? = some ?v1_7 := hV9 7 113 rfl rfl (of_decide_eq_true (by kernel_rfl))
        clear hV9 hO9
        go_simp
        exact hK9 _ (Grow.refl _)
      case s1_9 =>
        intro t9 w9 hT9 hV9 hO9 K9 hK9
        have p9_8 : t9[114]? = some ?v1_8 := hV9 8 114 rfl rfl (of_decide_eq_true (by kernel_rfl))
        have o9_11 := hO9 11 _ (by kernel_rfl) rfl
        clear hV9 hO9
        go_simp
        exact hK9 _ (Grow.refl _)
      case s1_10 =>
        intro t9 w9 hT9 hV9 hO9 K9 hK9
        have p9_8 : t9[114]? = some ?v1_8 := hV9 8 114 rfl rfl (of_decide_eq_true (by kernel_rfl))
        have o9_14 := hO9 14 _ (by kernel_rfl) rfl
        clear hV9 hO9
        go_simp
        exact hK9 _ (Grow.refl _)
      case s1_11 =>
        intro t9 w9 hT9 hV9 hO9 K9 hK9
        have p9_8 : t9[114]? = some ?v1_8 := hV9 8 114 rfl rfl (of_decide_eq_true (by kernel_rfl))
        have p9_9 : t9[115]? = some ?v1_9 := hV9 9 115 rfl rfl (of_decide_eq_true (by kernel_rfl))
        have p9_10 : t9[116]? = some ?v1_10 := hV9 10 116 rfl rfl (of_decide_eq_true (by kernel_rfl))
        clear hV9 hO9
        go_simp
        exact hK9 _ (Grow.refl _)
      case s1_12 =>
        intro t9 w9 hT9 hV9 hO9 K9 hK9
        have p9_8 : t9[114]? = some ?v1_8 := hV9 8 114 rfl rfl (of_decide_eq_true (by kernel_rfl))
        have p9_11 : t9[117]? = some ?v1_11 := hV9 11 117 rfl rfl (of_decide_eq_true (by kernel_rfl))
        clear hV9 hO9
        go_simp
        exact hK9 _ (Grow.refl _)
      case s1_13 =>
        intro t9 w9 hT9 hV9 hO9 K9 hK9
        have p9_12 : t9[118]? = some ?v1_12 := hV9 12 118 rfl rfl (of_decide_eq_true (by kernel_rfl))
        clear hV9 hO9
        go_simp
        exact hK9 _ (Grow.refl _)
      case s1_14 =>
        intro t9 w9 hT9 hV9 hO9 K9 hK9
        have p9_13 : t9[119]? = some ?v1_13 := hV9 13 119 rfl rfl (of_decide_eq_true (by kernel_rfl))
        have o9_15 := hO9 15 _ (by kernel_rfl) rfl
        clear hV9 hO9
        have d9_0 := grow_cell hT9 qa_0
        have d9_1 := grow_cell hT9 qa_1
        have d9_2 := grow_cell hT9 qa_2
        have d9_3 := grow_cell hT9 qa_3
        have d9_4 := grow_cell hT9 qa_4
        have d9_5 := grow_cell hT9 qa_5
        have d9_6 := grow_cell hT9 qb_0
        have d9_7 := grow_cell hT9 qb_1
        have d9_8 := grow_cell hT9 qb_2
        have d9_9 := grow_cell hT9 qb_3
        have d9_10 := grow_cell hT9 qb_4
        have d9_11 := grow_cell hT9 qb_5
        have d9_12 := grow_cell hT9 qs_0
        have d9_13 := grow_cell hT9 qs_1
        have d9_14 := grow_cell hT9 qs_2
        have d9_15 := grow_cell hT9 qs_3
        have d9_16 := grow_cell hT9 qs_4
        have d9_17 := grow_cell hT9 qs_5
        have d9_18 := grow_cell hT9 qt_0
        have d9_19 := grow_cell hT9 qt_1
        have d9_20 := grow_cell hT9 qt_2
        have d9_21 := grow_cell hT9 qt_3
        have d9_22 := grow_cell hT9 qt_4
        have d9_23 := grow_cell hT9 qt_5
        have d9_24 := grow_cell hT9 qp_0
        have d9_25 := grow_cell hT9 qp_1
        have d9_26 := grow_cell hT9 qp_2
        have d9_27 := grow_cell hT9 qp_3
        have d9_28 := grow_cell hT9 qp_4
        have d9_29 := grow_cell hT9 qp_5
        have d9_30 := grow_cell hT9 qq_0
        have d9_31 := grow_cell hT9 qq_1
        have d9_32 := grow_cell hT9 qq_2
        have d9_33 := grow_cell hT9 qq_3
        have d9_34 := grow_cell hT9 qq_4
        have d9_35 := grow_cell hT9 qq_5
        have d9_36 := grow_cell hT9 qx_0
        have d9_37 := grow_cell hT9 qx_1
        have d9_38 := grow_cell hT9 qx_2
        have d9_39 := grow_cell hT9 qx_3
        have d9_40 := grow_cell hT9 qx_4
        have d9_41 := grow_cell hT9 qx_5
        have d9_42 := grow_cell hT9 qy_0
        have d9_43 := grow_cell hT9 qy_1
        have d9_44 := grow_cell hT9 qy_2
        have d9_45 := grow_cell hT9 qy_3
        have d9_46 := grow_cell hT9 qy_4
        have d9_47 := grow_cell hT9 qy_5
        go_simp
        exact hK9 _ (Grow.refl _)
      case s1_15 =>
        intro t9 w9 hT9 hV9 hO9 K9 hK9
        have p9_13 : t9[119]? = some ?v1_13 := hV9 13 119 rfl rfl (of_decide_eq_true (by kernel_rfl))
        have o9_17 := hO9 17 _ (by kernel_rfl) rfl
        clear hV9 hO9
        have d9_0 := grow_cell hT9 qa_0
        have d9_1 := grow_cell hT9 qa_1
        have d9_2 := grow_cell hT9 qa_2
        have d9_3 := grow_cell hT9 qa_3
        have d9_4 := grow_cell hT9 qa_4
        have d9_5 := grow_cell hT9 qa_5
        have d9_6 := grow_cell hT9 qb_0
        have d9_7 := grow_cell hT9 qb_1
        have d9_8 := grow_cell hT9 qb_2
        have d9_9 := grow_cell hT9 qb_3
        have d9_10 := grow_cell hT9 qb_4
        have d9_11 := grow_cell hT9 qb_5
        have d9_12 := grow_cell hT9 qs_0
        have d9_13 := grow_cell hT9 qs_1
        have d9_14 := grow_cell hT9 qs_2
        have d9_15 := grow_cell hT9 qs_3
        have d9_16 := grow_cell hT9 qs_4
        have d9_17 := grow_cell hT9 qs_5
        have d9_18 := grow_cell hT9 qt_0
        have d9_19 := grow_cell hT9 qt_1
        have d9_20 := grow_cell hT9 qt_2
        have d9_21 := grow_cell hT9 qt_3
        have d9_22 := grow_cell hT9 qt_4
        have d9_23 := grow_cell hT9 qt_5
        have d9_24 := grow_cell hT9 qp_0
        have d9_25 := grow_cell hT9 qp_1
        have d9_26 := grow_cell hT9 qp_2
        have d9_27 := grow_cell hT9 qp_3
        have d9_28 := grow_cell hT9 qp_4
        have d9_29 := grow_cell hT9 qp_5
        have d9_30 := grow_cell hT9 qq_0
        have d9_31 := grow_cell hT9 qq_1
        have d9_32 := grow_cell hT9 qq_2
        have d9_33 := grow_cell hT9 qq_3
        have d9_34 := grow_cell hT9 qq_4
        have d9_35 := grow_cell hT9 qq_5
        have d9_36 := grow_cell hT9 qx_0
        have d9_37 := grow_cell hT9 qx_1
        have d9_38 := grow_cell hT9 qx_2
        have d9_39 := grow_cell hT9 qx_3
        have d9_40 := grow_cell hT9 qx_4
        have d9_41 := grow_cell hT9 qx_5
        have d9_42 := grow_cell hT9 qy_0
        have d9_43 := grow_cell hT9 qy_1
        have d9_44 := grow_cell hT9 qy_2
        have d9_45 := grow_cell hT9 qy_3
        have d9_46 := grow_cell hT9 qy_4
        have d9_47 := grow_cell hT9 qy_5
        go_simp
        exact hK9 _ (Grow.refl _)
      case s1_16 =>
        intro t9 w9 hT9 hV9 hO9 K9 hK9
        have p9_13 : t9[119]? = some ?v1_13 := hV9 13 119 rfl rfl (of_decide_eq_true (by kernel_rfl))
        have p9_14 : t9[120]? = some ?v1_14 := hV9 14 120 rfl rfl (of_decide_eq_true (by kernel_rfl))
        have p9_15 : t9[121]? = some ?v1_15 := hV9 15 121 rfl rfl (of_decide_eq_true (by kernel_rfl))
        clear hV9 hO9
        go_simp
        exact hK9 _ (Grow.refl _)
      case s1_17 =>
        intro t9 w9 hT9 hV9 hO9 K9 hK9
        have p9_13 : t9[119]? = some ?v1_13 := hV9 13 119 rfl rfl (of_decide_eq_true (by kernel_rfl))
        have p9_16 : t9[122]? = some ?v1_16 := hV9 16 122 rfl rfl (of_decide_eq_true (by kernel_rfl))
        clear hV9 hO9
        go_simp
        exact hK9 _ (Grow.refl _)
      case s1_18 =>
        intro t9 w9 hT9 hV9 hO9 K9 hK9
        have p9_17 : t9[123]? = some ?v1_17 := hV9 17 123 rfl rfl (of_decide_eq_true (by kernel_rfl))
        clear hV9 hO9
        go_simp
        exact hK9 _ (Grow.refl _)
      case s1_19 =>
        intro t9 w9 hT9 hV9 hO9 K9 hK9
        have p9_18 : t9[124]? = some ?v1_18 := hV9 18 124 rfl rfl (of_decide_eq_true (by kernel_rfl))
        have o9_16 := hO9 16 _ (by kernel_rfl) rfl
        clear hV9 hO9
        go_simp
        exact hK9 _ (Grow.refl _)
      case s1_20 =>
        intro t9 w9 hT9 hV9 hO9 K9 hK9
        have p9_18 : t9[124]? = some ?v1_18 := hV9 18 124 rfl rfl (of_decide_eq_true (by kernel_rfl))
        have o9_18 := hO9 18 _ (by kernel_rfl) rfl
        clear hV9 hO9
        go_simp
        exact hK9 _ (Grow.refl _)
      case s1_21 =>
        intro t9 w9 hT9 hV9 hO9 K9 hK9
        have p9_18 : t9[124]? = some ?v1_18 := hV9 18 124 rfl rfl (of_decide_eq_true (by kernel_rfl))
        have p9_19 : t9[125]? = some ?v1_19 := hV9 19 125 rfl rfl (of_decide_eq_true (by kernel_rfl))
        have p9_20 : t9[126]? = some ?v1_20 := hV9 20 126 rfl rfl (of_decide_eq_true (by kernel_rfl))
        clear hV9 hO9
        go_simp
        exact hK9 _ (Grow.refl _)
      case s1_22 =>
        intro t9 w9 hT9 hV9 hO9 K9 hK9
        have p9_18 : t9[124]? = some ?v1_18 := hV9 18 124 rfl rfl (of_decide_eq_true (by kernel_rfl))
        have p9_21 : t9[127]? = some ?v1_21 := hV9 21 127 rfl rfl (of_decide_eq_true (by kernel_rfl))
        clear hV9 hO9
        go_simp
        exact hK9 _ (Grow.refl _)
      case s1_23 =>
        intro t9 w9 hT9 hV9 hO9 K9 hK9
        have p9_22 : t9[128]? = some ?v1_22 := hV9 22 128 rfl rfl (of_decide_eq_true (by kernel_rfl))
        clear hV9 hO9
        go_simp
        exact hK9 _ (Grow.refl _)
      case s1_24 =>
        intro t9 w9 hT9 hV9 hO9 K9 hK9
        have p9_23 : t9[129]? = some ?v1_23 := hV9 23 129 rfl rfl (of_decide_eq_true (by kernel_rfl))
        have o9_19 := hO9 19 _ (by kernel_rfl) rfl
        clear hV9 hO9
        have d9_0 := grow_cell hT9 qa_0
        have d9_1 := grow_cell hT9 qa_1
        have d9_2 := grow_cell hT9 qa_2
        have d9_3 := grow_cell hT9 qa_3
        have d9_4 := grow_cell hT9 qa_4
        have d9_5 := grow_cell hT9 qa_5
        have d9_6 := grow_cell hT9 qb_0
        have d9_7 := grow_cell hT9 qb_1
        have d9_8 := grow_cell hT9 qb_2
        have d9_9 := grow_cell hT9 qb_3
        have d9_10 := grow_cell hT9 qb_4
        have d9_11 := grow_cell hT9 qb_5
        have d9_12 := grow_cell hT9 qs_0
        have d9_13 := grow_cell hT9 qs_1
        have d9_14 := grow_cell hT9 qs_2
        have d9_15 := grow_cell hT9 qs_3
        have d9_16 := grow_cell hT9 qs_4
        have d9_17 := grow_cell hT9 qs_5
        have d9_18 := grow_cell hT9 qt_0
        have d9_19 := grow_cell hT9 qt_1
        have d9_20 := grow_cell hT9 qt_2
        have d9_21 := grow_cell hT9 qt_3
        have d9_22 := grow_cell hT9 qt_4
        have d9_23 := grow_cell hT9 qt_5
        have d9_24 := grow_cell hT9 qp_0
        have d9_25 := grow_cell hT9 qp_1
        have d9_26 := grow_cell hT9 qp_2
        have d9_27 := grow_cell hT9 qp_3
        have d9_28 := grow_cell hT9 qp_4
        have d9_29 := grow_cell hT9 qp_5
        have d9_30 := grow_cell hT9 qq_0
        have d9_31 := grow_cell hT9 qq_1
        have d9_32 := grow_cell hT9 qq_2
        have d9_33 := grow_cell hT9 qq_3
        have d9_34 := grow_cell hT9 qq_4
        have d9_35 := grow_cell hT9 qq_5
        have d9_36 := grow_cell hT9 qx_0
        have d9_37 := grow_cell hT9 qx_1
        have d9_38 := grow_cell hT9 qx_2
        have d9_39 := grow_cell hT9 qx_3
        have d9_40 := grow_cell hT9 qx_4
        have d9_41 := grow_cell hT9 qx_5
        have d9_42 := grow_cell hT9 qy_0
        have d9_43 := grow_cell hT9 qy_1
        have d9_44 := grow_cell hT9 qy_2
        have d9_45 := grow_cell hT9 qy_3
        have d9_46 := grow_cell hT9 qy_4
        have d9_47 := grow_cell hT9 qy_5
        go_simp
        exact hK9 _ (Grow.refl _)
      case s1_25 =>
        intro t9 w9 hT9 hV9 hO9 K9 hK9
        have p9_23 : t9[129]? = some ?v1_23 := hV9 23 129 rfl rfl (of_decide_eq_true (by kernel_rfl))
        have o9_21 := hO9 21 _ (by kernel_rfl) rfl
        clear hV9 hO9
        have d9_0 := grow_cell hT9 qa_0
        have d9_1 := grow_cell hT9 qa_1
        have d9_2 := grow_cell hT9 qa_2
        have d9_3 := grow_cell hT9 qa_3
        have d9_4 := grow_cell hT9 qa_4
        have d9_5 := grow_cell hT9 qa_5
        have d9_6 := grow_cell hT9 qb_0
        have d9_7 := grow_cell hT9 qb_1
        have d9_8 := grow_cell hT9 qb_2
        have d9_9 := grow_cell hT9 qb_3
        have d9_10 := grow_cell hT9 qb_4
        have d9_11 := grow_cell hT9 qb_5
        have d9_12 := grow_cell hT9 qs_0
        have d9_13 := grow_cell hT9 qs_1
        have d9_14 := grow_cell hT9 qs_2
        have d9_15 := grow_cell hT9 qs_3
        have d9_16 := grow_cell hT9 qs_4
        have d9_17 := grow_cell hT9 qs_5
        have d9_18 := grow_cell hT9 qt_0
        have d9_19 := grow_cell hT9 qt_1
        have d9_20 := grow_cell hT9 qt_2
        have d9_21 := grow_cell hT9 qt_3
        have d9_22 := grow_cell hT9 qt_4
        have d9_23 := grow_cell hT9 qt_5
        have d9_24 := grow_cell hT9 qp_0
        have d9_25 := grow_cell hT9 qp_1
        have d9_26 := grow_cell hT9 qp_2
        have d9_27 := grow_cell hT9 qp_3
        have d9_28 := grow_cell hT9 qp_4
        have d9_29 := grow_cell hT9 qp_5
        have d9_30 := grow_cell hT9 qq_0
        have d9_31 := grow_cell hT9 qq_1
        have d9_32 := grow_cell hT9 qq_2
        have d9_33 := grow_cell hT9 qq_3
        have d9_34 := grow_cell hT9 qq_4
        have d9_35 := grow_cell hT9 qq_5
        have d9_36 := grow_cell hT9 qx_0
        have d9_37 := grow_cell hT9 qx_1
        have d9_38 := grow_cell hT9 qx_2
        have d9_39 := grow_cell hT9 qx_3
        have d9_40 := grow_cell hT9 qx_4
        have d9_41 := grow_cell hT9 qx_5
        have d9_42 := grow_cell hT9 qy_0
        have d9_43 := grow_cell hT9 qy_1
        have d9_44 := grow_cell hT9 qy_2
        have d9_45 := grow_cell hT9 qy_3
        have d9_46 := grow_cell hT9 qy_4
        have d9_47 := grow_cell hT9 qy_5
        go_simp
        exact hK9 _ (Grow.refl _)
      case s1_26 =>
        intro t9 w9 hT9 hV9 hO9 K9 hK9
        have p9_23 : t9[129]? = some ?v1_23 := hV9 23 129 rfl rfl (of_decide_eq_true (by kernel_rfl))
        have p9_24 : t9[130]? = some ?v1_24 := hV9 24 130 rfl rfl (of_decide_eq_true (by kernel_rfl))
        have p9_25 : t9[131]? = some ?v1_25 := hV9 25 131 rfl rfl (of_decide_eq_true (by kernel_rfl))
        clear hV9 hO9
        go_simp
        exact hK9 _ (Grow.refl _)
      case s1_27 =>
        intro t9 w9 hT9 hV9 hO9 K9 hK9
        have p9_23 : t9[129]? = some ?v1_23 := hV9 23 129 rfl rfl (of_decide_eq_true (by kernel_rfl))
        have p9_26 : t9[132]? = some ?v1_26 := hV9 26 132 rfl rfl (of_decide_eq_true (by kernel_rfl))
        clear hV9 hO9
        go_simp
        exact hK9 _ (Grow.refl _)
      case s1_28 =>
        intro t9 w9 hT9 hV9 hO9 K9 hK9
        have p9_27 : t9[133]? = some ?v1_27 := hV9 27 133 rfl rfl (of_decide_eq_true (by kernel_rfl))
        clear hV9 hO9
        go_simp
        exact hK9 _ (Grow.refl _)
      case s1_29 =>
        intro t9 w9 hT9 hV9 hO9 K9 hK9
        have p9_28 : t9[134]? = some ?v1_28 := hV9 28 134 rfl rfl (of_decide_eq_true (by kernel_rfl))
        have o9_20 := hO9 20 _ (by kernel_rfl) rfl
        clear hV9 hO9
        go_simp
        exact hK9 _ (Grow.refl _)
      case s1_30 =>
        intro t9 w9 hT9 hV9 hO9 K9 hK9
        have p9_28 : t9[134]? = some ?v1_28 := hV9 28 134 rfl rfl (of_decide_eq_true (by kernel_rfl))
        have o9_22 := hO9 22 _ (by kernel_rfl) rfl
        clear hV9 hO9
        go_simp
        exact hK9 _ (Grow.refl _)
      case s1_31 =>
        intro t9 w9 hT9 hV9 hO9 K9 hK9
        have p9_28 : t9[134]? = some ?v1_28 := hV9 28 134 rfl rfl (of_decide_eq_true (by kernel_rfl))
        have p9_29 : t9[135]? = some ?v1_29 := hV9 29 135 rfl rfl (of_decide_eq_true (by kernel_rfl))
        have p9_30 : t9[136]? = some ?v1_30 := hV9 30 136 rfl rfl (of_decide_eq_true (by kernel_rfl))
        clear hV9 hO9
        go_simp
        exact hK9 _ (Grow.refl _)
      case s1_32 =>
        intro t9 w9 hT9 hV9 hO9 K9 hK9
        have p9_28 : t9[134]? = some ?v1_28 := hV9 28 134 rfl rfl (of_decide_eq_true (by kernel_rfl))
        have p9_31 : t9[137]? = some ?v1_31 := hV9 31 137 rfl rfl (of_decide_eq_true (by kernel_rfl))
        clear hV9 hO9
        go_simp
        exact hK9 _ (Grow.refl _)
      case s1_33 =>
        intro t9 w9 hT9 hV9 hO9 K9 hK9
        have p9_32 : t9[138]? = some ?v1_32 := hV9 32 138 rfl rfl (of_decide_eq_true (by kernel_rfl))
        clear hV9 hO9
        go_simp
        exact hK9 _ (Grow.refl _)
      case s1_34 =>
        intro t9 w9 hT9 hV9 hO9 K9 hK9
        have p9_33 : t9[139]? = some ?v1_33 := hV9 33 139 rfl rfl (of_decide_eq_true (by kernel_rfl))
        have o9_23 := hO9 23 _ (by kernel_rfl) rfl
        clear hV9 hO9
        have d9_0 := grow_cell hT9 qa_0
        have d9_1 := grow_cell hT9 qa_1
        have d9_2 := grow_cell hT9 qa_2
        have d9_3 := grow_cell hT9 qa_3
        have d9_4 := grow_cell hT9 qa_4
        have d9_5 := grow_cell hT9 qa_5
        have d9_6 := grow_cell hT9 qb_0
        have d9_7 := grow_cell hT9 qb_1
        have d9_8 := grow_cell hT9 qb_2
        have d9_9 := grow_cell hT9 qb_3
        have d9_10 := grow_cell hT9 qb_4
        have d9_11 := grow_cell hT9 qb_5
        have d9_12 := grow_cell hT9 qs_0
        have d9_13 := grow_cell hT9 qs_1
        have d9_14 := grow_cell hT9 qs_2
        have d9_15 := grow_cell hT9 qs_3
        have d9_16 := grow_cell hT9 qs_4
        have d9_17 := grow_cell hT9 qs_5
        have d9_18 := grow_cell hT9 qt_0
        have d9_19 := grow_cell hT9 qt_1
        have d9_20 := grow_cell hT9 qt_2
        have d9_21 := grow_cell hT9 qt_3
        have d9_22 := grow_cell hT9 qt_4
        have d9_23 := grow_cell hT9 qt_5
        have d9_24 := grow_cell hT9 qp_0
        have d9_25 := grow_cell hT9 qp_1
        have d9_26 := grow_cell hT9 qp_2
        have d9_27 := grow_cell hT9 qp_3
        have d9_28 := grow_cell hT9 qp_4
        have d9_29 := grow_cell hT9 qp_5
        have d9_30 := grow_cell hT9 qq_0
        have d9_31 := grow_cell hT9 qq_1
        have d9_32 := grow_cell hT9 qq_2
        have d9_33 := grow_cell hT9 qq_3
        have d9_34 := grow_cell hT9 qq_4
        have d9_35 := grow_cell hT9 qq_5
        have d9_36 := grow_cell hT9 qx_0
        have d9_37 := grow_cell hT9 qx_1
        have d9_38 := grow_cell hT9 qx_2
        have d9_39 := grow_cell hT9 qx_3
        have d9_40 := grow_cell hT9 qx_4
        have d9_41 := grow_cell hT9 qx_5
        have d9_42 := grow_cell hT9 qy_0
        have d9_43 := grow_cell hT9 qy_1
        have d9_44 := grow_cell hT9 qy_2
        have d9_45 := grow_cell hT9 qy_3
        have d9_46 := grow_cell hT9 qy_4
        have d9_47 := grow_cell hT9 qy_5
        go_simp
        exact hK9 _ (Grow.refl _)
      case s1_35 =>
        intro t9 w9 hT9 hV9 hO9 K9 hK9
        have p9_33 : t9[139]? = some ?v1_33 := hV9 33 139 rfl rfl (of_decide_eq_true (by kernel_rfl))
        have o9_25 := hO9 25 _ (by kernel_rfl) rfl
        clear hV9 hO9
        have d9_0 := grow_cell hT9 qa_0
        have d9_1 := grow_cell hT9 qa_1
        have d9_2 := grow_cell hT9 qa_2
        have d9_3 := grow_cell hT9 qa_3
        have d9_4 := grow_cell hT9 qa_4
        have d9_5 := grow_cell hT9 qa_5
        have d9_6 := grow_cell hT9 qb_0
        have d9_7 := grow_cell hT9 qb_1
        have d9_8 := grow_cell hT9 qb_2
        have d9_9 := grow_cell hT9 qb_3
        have d9_10 := grow_cell hT9 qb_4
        have d9_11 := grow_cell hT9 qb_5
        have d9_12 := grow_cell hT9 qs_0
        have d9_13 := grow_cell hT9 qs_1
        have d9_14 := grow_cell hT9 qs_2
        have d9_15 := grow_cell hT9 qs_3
        have d9_16 := grow_cell hT9 qs_4
        have d9_17 := grow_cell hT9 qs_5
        have d9_18 := grow_cell hT9 qt_0
        have d9_19 := grow_cell hT9 qt_1
        have d9_20 := grow_cell hT9 qt_2
        have d9_21 := grow_cell hT9 qt_3
        have d9_22 := grow_cell hT9 qt_4
        have d9_23 := grow_cell hT9 qt_5
        have d9_24 := grow_cell hT9 qp_0
        have d9_25 := grow_cell hT9 qp_1
        have d9_26 := grow_cell hT9 qp_2
        have d9_27 := grow_cell hT9 qp_3
        have d9_28 := grow_cell hT9 qp_4
        have d9_29 := grow_cell hT9 qp_5
        have d9_30 := grow_cell hT9 qq_0
        have d9_31 := grow_cell hT9 qq_1
        have d9_32 := grow_cell hT9 qq_2
        have d9_33 := grow_cell hT9 qq_3
        have d9_34 := grow_cell hT9 qq_4
        have d9_35 := grow_cell hT9 qq_5
        have d9_36 := grow_cell hT9 qx_0
        have d9_37 := grow_cell hT9 qx_1
        have d9_38 := grow_cell hT9 qx_2
        have d9_39 := grow_cell hT9 qx_3
        have d9_40 := grow_cell hT9 qx_4
        have d9_41 := grow_cell hT9 qx_5
        have d9_42 := grow_cell hT9 qy_0
        have d9_43 := grow_cell hT9 qy_1
        have d9_44 := grow_cell hT9 qy_2
        have d9_45 := grow_cell hT9 qy_3
        have d9_46 := grow_cell hT9 qy_4
        have d9_47 := grow_cell hT9 qy_5
        go_simp
        exact hK9 _ (Grow.refl _)
      case s1_36 =>
        intro t9 w9 hT9 hV9 hO9 K9 hK9
        have p9_33 : t9[139]? = some ?v1_33 := hV9 33 139 rfl rfl (of_decide_eq_true (by kernel_rfl))
        have p9_34 : t9[140]? = some ?v1_34 := hV9 34 140 rfl rfl (of_decide_eq_true (by kernel_rfl))
        have p9_35 : t9[141]? = some ?v1_35 := hV9 35 141 rfl rfl (of_decide_eq_true (by kernel_rfl))
        clear hV9 hO9
        go_simp
        exact hK9 _ (Grow.refl _)
      case s1_37 =>
        intro t9 w9 hT9 hV9 hO9 K9 hK9
        have p9_33 : t9[139]? = some ?v1_33 := hV9 33 139 rfl rfl (of_decide_eq_true (by kernel_rfl))
        have p9_36 : t9[142]? = some ?v1_36 := hV9 36 142 rfl rfl (of_decide_eq_true (by kernel_rfl))
        clear hV9 hO9
        go_simp
        exact hK9 _ (Grow.refl _)
      case s1_38 =>
        intro t9 w9 hT9 hV9 hO9 K9 hK9
        have p9_37 : t9[143]? = some ?v1_37 := hV9 37 143 rfl rfl (of_decide_eq_true (by kernel_rfl))
        clear hV9 hO9
        go_simp
        exact hK9 _ (Grow.refl _)
      case s1_39 =>
        intro t9 w9 hT9 hV9 hO9 K9 hK9
        have p9_38 : t9[144]? = some ?v1_38 := hV9 38 144 rfl rfl (of_decide_eq_true (by kernel_rfl))
        have o9_24 := hO9 24 _ (by kernel_rfl) rfl
        clear hV9 hO9
        go_simp
        exact hK9 _ (Grow.refl _)
      case s1_40 =>
        intro t9 w9 hT9 hV9 hO9 K9 hK9
        have p9_38 : t9[144]? = some ?v1_38 := hV9 38 144 rfl rfl (of_decide_eq_true (by kernel_rfl))
        have o9_26 := hO9 26 _ (by kernel_rfl) rfl
        clear hV9 hO9
        go_simp
        exact hK9 _ (Grow.refl _)
      case s1_41 =>
        intro t9 w9 hT9 hV9 hO9 K9 hK9
        have p9_38 : t9[144]? = some ?v1_38 := hV9 38 144 rfl rfl (of_decide_eq_true (by kernel_rfl))
        have p9_39 : t9[145]? = some ?v1_39 := hV9 39 145 rfl rfl (of_decide_eq_true (by kernel_rfl))
        have p9_40 : t9[146]? = some ?v1_40 := hV9 40 146 rfl rfl (of_decide_eq_true (by kernel_rfl))
        clear hV9 hO9
        go_simp
        exact hK9 _ (Grow.refl _)
      case s1_42 =>
        intro t9 w9 hT9 hV9 hO9 K9 hK9
        have p9_38 : t9[144]? = some ?v1_38 := hV9 38 144 rfl rfl (of_decide_eq_true (by kernel_rfl))
        have p9_41 : t9[147]? = some ?v1_41 := hV9 41 147 rfl rfl (of_decide_eq_true (by kernel_rfl))
        clear hV9 hO9
        go_simp
        exact hK9 _ (Grow.refl _)
      case s1_43 =>
        intro t9 w9 hT9 hV9 hO9 K9 hK9
        have p9_42 : t9[148]? = some ?v1_42 := hV9 42 148 rfl rfl (of_decide_eq_true (by kernel_rfl))
        clear hV9 hO9
        go_simp
        exact hK9 _ (Grow.refl _)
      case s1_44 =>
        intro t9 w9 hT9 hV9 hO9 K9 hK9
        have p9_43 : t9[149]? = some ?v1_43 := hV9 43 149 rfl rfl (of_decide_eq_true (by kernel_rfl))
        have o9_3 := hO9 3 _ (by kernel_rfl) rfl
        clear hV9 hO9
        have d9_0 := grow_cell hT9 qa_0
        have d9_1 := grow_cell hT9 qa_1
        have d9_2 := grow_cell hT9 qa_2
        have d9_3 := grow_cell hT9 qa_3
        have d9_4 := grow_cell hT9 qa_4
        have d9_5 := grow_cell hT9 qa_5
        have d9_6 := grow_cell hT9 qb_0
        have d9_7 := grow_cell hT9 qb_1
        have d9_8 := grow_cell hT9 qb_2
        have d9_9 := grow_cell hT9 qb_3
        have d9_10 := grow_cell hT9 qb_4
        have d9_11 := grow_cell hT9 qb_5
        have d9_12 := grow_cell hT9 qs_0
        have d9_13 := grow_cell hT9 qs_1
        have d9_14 := grow_cell hT9 qs_2
        have d9_15 := grow_cell hT9 qs_3
        have d9_16 := grow_cell hT9 qs_4
        have d9_17 := grow_cell hT9 qs_5
        have d9_18 := grow_cell hT9 qt_0
        have d9_19 := grow_cell hT9 qt_1
        have d9_20 := grow_cell hT9 qt_2
        have d9_21 := grow_cell hT9 qt_3
        have d9_22 := grow_cell hT9 qt_4
        have d9_23 := grow_cell hT9 qt_5
        have d9_24 := grow_cell hT9 qp_0
        have d9_25 := grow_cell hT9 qp_1
        have d9_26 := grow_cell hT9 qp_2
        have d9_27 := grow_cell hT9 qp_3
        have d9_28 := grow_cell hT9 qp_4
        have d9_29 := grow_cell hT9 qp_5
        have d9_30 := grow_cell hT9 qq_0
        have d9_31 := grow_cell hT9 qq_1
        have d9_32 := grow_cell hT9 qq_2
        have d9_33 := grow_cell hT9 qq_3
        have d9_34 := grow_cell hT9 qq_4
        have d9_35 := grow_cell hT9 qq_5
        have d9_36 := grow_cell hT9 qx_0
        have d9_37 := grow_cell hT9 qx_1
        have d9_38 := grow_cell hT9 qx_2
        have d9_39 := grow_cell hT9 qx_3
        have d9_40 := grow_cell hT9 qx_4
        have d9_41 := grow_cell hT9 qx_5
        have d9_42 := grow_cell hT9 qy_0
        have d9_43 := grow_cell hT9 qy_1
        have d9_44 := grow_cell hT9 qy_2
        have d9_45 := grow_cell hT9 qy_3
        have d9_46 := grow_cell hT9 qy_4
        have d9_47 := grow_cell hT9 qy_5
        go_simp
        exact hK9 _ (Grow.refl _)
      case s1_45 =>
        intro t9 w9 hT9 hV9 hO9 K9 hK9
        have p9_43 : t9[149]? = some ?v1_43 := hV9 43 149 rfl rfl (of_decide_eq_true (by kernel_rfl))
        have p9_44 : t9[150]? = some ?v1_44 := hV9 44 150 rfl rfl (of_decide_eq_true (by kernel_rfl))
        clear hV9 hO9
        go_simp
        first | exact hK9 _ (Grow.refl _) | (refine (HV1.out _).mono ?_; rintro _ w8 ⟨rfl, hb8⟩; exact hK9 _ hb8)
      case s1_46 =>
        intro t9 w9 hT9 hV9 hO9 K9 hK9
        have p9_43 : t9[149]? = some ?v1_43 := hV9 43 149 rfl rfl (of_decide_eq_true (by kernel_rfl))
        have o9_3 := hO9 3 _ (by kernel_rfl) rfl
        clear hV9 hO9
        have d9_0 := grow_cell hT9 qa_0
        have d9_1 := grow_cell hT9 qa_1
        have d9_2 := grow_cell hT9 qa_2
        have d9_3 := grow_cell hT9 qa_3
        have d9_4 := grow_cell hT9 qa_4
        have d9_5 := grow_cell hT9 qa_5
        have d9_6 := grow_cell hT9 qb_0
        have d9_7 := grow_cell hT9 qb_1
        have d9_8 := grow_cell hT9 qb_2
        have d9_9 := grow_cell hT9 qb_3
        have d9_10 := grow_cell hT9 qb_4
        have d9_11 := grow_cell hT9 qb_5
        have d9_12 := grow_cell hT9 qs_0
        have d9_13 := grow_cell hT9 qs_1
        have d9_14 := grow_cell hT9 qs_2
        have d9_15 := grow_cell hT9 qs_3
        have d9_16 := grow_cell hT9 qs_4
        have d9_17 := grow_cell hT9 qs_5
        have d9_18 := grow_cell hT9 qt_0
        have d9_19 := grow_cell hT9 qt_1
        have d9_20 := grow_cell hT9 qt_2
        have d9_21 := grow_cell hT9 qt_3
        have d9_22 := grow_cell hT9 qt_4
        have d9_23 := grow_cell hT9 qt_5
        have d9_24 := grow_cell hT9 qp_0
        have d9_25 := grow_cell hT9 qp_1
        have d9_26 := grow_cell hT9 qp_2
        have d9_27 := grow_cell hT9 qp_3
        have d9_28 := grow_cell hT9 qp_4
        have d9_29 := grow_cell hT9 qp_5
        have d9_30 := grow_cell hT9 qq_0
        have d9_31 := grow_cell hT9 qq_1
        have d9_32 := grow_cell hT9 qq_2
        have d9_33 := grow_cell hT9 qq_3
        have d9_34 := grow_cell hT9 qq_4
        have d9_35 := grow_cell hT9 qq_5
        have d9_36 := grow_cell hT9 qx_0
        have d9_37 := grow_cell hT9 qx_1
        have d9_38 := grow_cell hT9 qx_2
        have d9_39 := grow_cell hT9 qx_3
        have d9_40 := grow_cell hT9 qx_4
        have d9_41 := grow_cell hT9 qx_5
        have d9_42 := grow_cell hT9 qy_0
        have d9_43 := grow_cell hT9 qy_1
        have d9_44 := grow_cell hT9 qy_2
        have d9_45 := grow_cell hT9 qy_3
        have d9_46 := grow_cell hT9 qy_4
        have d9_47 := grow_cell hT9 qy_5
        go_simp
        exact hK9 _ (Grow.refl _)
      case s1_47 =>
        intro t9 w9 hT9 hV9 hO9 K9 hK9
        have p9_43 : t9[149]? = some ?v1_43 := hV9 43 149 rfl rfl (of_decide_eq_true (by kernel_rfl))
        have p9_46 : t9[152]? = some ?v1_46 := hV9 46 152 rfl rfl (of_decide_eq_true (by kernel_rfl))
        clear hV9 hO9
        go_simp
        first | exact hK9 _ (Grow.refl _) | (refine (HV2.out _).mono ?_; rintro _ w8 ⟨rfl, hb8⟩; exact hK9 _ hb8)
      case s1_48 =>
        intro t9 w9 hT9 hV9 hO9 K9 hK9
        have p9_43 : t9[149]? = some ?v1_43 := hV9 43 149 rfl rfl (of_decide_eq_true (by kernel_rfl))
        have p9_45 : t9[151]? = some ?v1_45 := hV9 45 151 rfl rfl (of_decide_eq_true (by kernel_rfl))
        have p9_47 : t9[153]? = some ?v1_47 := hV9 47 153 rfl rfl (of_decide_eq_true (by kernel_rfl))
        clear hV9 hO9
        go_simp
        exact hK9 _ (Grow.refl _)
      case s1_49 =>
        intro t9 w9 hT9 hV9 hO9 K9 hK9
        have p9_43 : t9[149]? = some ?v1_43 := hV9 43 149 rfl rfl (of_decide_eq_true (by kernel_rfl))
        have p9_48 : t9[154]? = some ?v1_48 := hV9 48 154 rfl rfl (of_decide_eq_true (by kernel_rfl))
        clear hV9 hO9
        go_simp
        exact hK9 _ (Grow.refl _)
      case s1_50 =>
        intro t9 w9 hT9 hV9 hO9 K9 hK9
        have p9_49 : t9[155]? = some ?v1_49 := hV9 49 155 rfl rfl (of_decide_eq_true (by kernel_rfl))
        clear hV9 hO9
        go_simp
        exact hK9 _ (Grow.refl _)
      case s1_51 =>
        intro t9 w9 hT9 hV9 hO9 K9 hK9
        have p9_50 : t9[156]? = some ?v1_50 := hV9 50 156 rfl rfl (of_decide_eq_true (by kernel_rfl))
        have o9_3 := hO9 3 _ (by kernel_rfl) rfl
        clear hV9 hO9
        have d9_0 := grow_cell hT9 qa_0
        have d9_1 := grow_cell hT9 qa_1
        have d9_2 := grow_cell hT9 qa_2
        have d9_3 := grow_cell hT9 qa_3
        have d9_4 := grow_cell hT9 qa_4
        have d9_5 := grow_cell hT9 qa_5
        have d9_6 := grow_cell hT9 qb_0
        have d9_7 := grow_cell hT9 qb_1
        have d9_8 := grow_cell hT9 qb_2
        have d9_9 := grow_cell hT9 qb_3
        have d9_10 := grow_cell hT9 qb_4
        have d9_11 := grow_cell hT9 qb_5
        have d9_12 := grow_cell hT9 qs_0
        have d9_13 := grow_cell hT9 qs_1
        have d9_14 := grow_cell hT9 qs_2
        have d9_15 := grow_cell hT9 qs_3
        have d9_16 := grow_cell hT9 qs_4
        have d9_17 := grow_cell hT9 qs_5
        have d9_18 := grow_cell hT9 qt_0
        have d9_19 := grow_cell hT9 qt_1
        have d9_20 := grow_cell hT9 qt_2
        have d9_21 := grow_cell hT9 qt_3
        have d9_22 := grow_cell hT9 qt_4
        have d9_23 := grow_cell hT9 qt_5
        have d9_24 := grow_cell hT9 qp_0
        have d9_25 := grow_cell hT9 qp_1
        have d9_26 := grow_cell hT9 qp_2
        have d9_27 := grow_cell hT9 qp_3
        have d9_28 := grow_cell hT9 qp_4
        have d9_29 := grow_cell hT9 qp_5
        have d9_30 := grow_cell hT9 qq_0
        have d9_31 := grow_cell hT9 qq_1
        have d9_32 := grow_cell hT9 qq_2
        have d9_33 := grow_cell hT9 qq_3
        have d9_34 := grow_cell hT9 qq_4
        have d9_35 := grow_cell hT9 qq_5
        have d9_36 := grow_cell hT9 qx_0
        have d9_37 := grow_cell hT9 qx_1
        have d9_38 := grow_cell hT9 qx_2
        have d9_39 := grow_cell hT9 qx_3
        have d9_40 := grow_cell hT9 qx_4
        have d9_41 := grow_cell hT9 qx_5
        have d9_42 := grow_cell hT9 qy_0
        have d9_43 := grow_cell hT9 qy_1
        have d9_44 := grow_cell hT9 qy_2
        have d9_45 := grow_cell hT9 qy_3
        have d9_46 := grow_cell hT9 qy_4
        have d9_47 := grow_cell hT9 qy_5
        go_simp
        exact hK9 _ (Grow.refl _)
      case s1_52 =>
        intro t9 w9 hT9 hV9 hO9 K9 hK9
        have p9_50 : t9[156]? = some ?v1_50 := hV9 50 156 rfl rfl (of_decide_eq_true (by kernel_rfl))
        have o9_4 := hO9 4 _ (by kernel_rfl) rfl
        clear hV9 hO9
        go_simp
        exact hK9 _ (Grow.refl _)
      case s1_53 =>
        intro t9 w9 hT9 hV9 hO9 K9 hK9
        have p9_50 : t9[156]? = some ?v1_50 := hV9 50 156 rfl rfl (of_decide_eq_true (by kernel_rfl))
        have p9_52 : t9[158]? = some ?v1_52 := hV9 52 158 rfl rfl (of_decide_eq_true (by kernel_rfl))
        clear hV9 hO9
        have d9_0 := grow_cell hT9 qa_0
        have d9_1 := grow_cell hT9 qa_1
        have d9_2 := grow_cell hT9 qa_2
        have d9_3 := grow_cell hT9 qa_3
        have d9_4 := grow_cell hT9 qa_4
        have d9_5 := grow_cell hT9 qa_5
        have d9_6 := grow_cell hT9 qb_0
        have d9_7 := grow_cell hT9 qb_1
        have d9_8 := grow_cell hT9 qb_2
        have d9_9 := grow_cell hT9 qb_3
        have d9_10 := grow_cell hT9 qb_4
        have d9_11 := grow_cell hT9 qb_5
        have d9_12 := grow_cell hT9 qs_0
        have d9_13 := grow_cell hT9 qs_1
        have d9_14 := grow_cell hT9 qs_2
        have d9_15 := grow_cell hT9 qs_3
        have d9_16 := grow_cell hT9 qs_4
        have d9_17 := grow_cell hT9 qs_5
        have d9_18 := grow_cell hT9 qt_0
        have d9_19 := grow_cell hT9 qt_1
        have d9_20 := grow_cell hT9 qt_2
        have d9_21 := grow_cell hT9 qt_3
        have d9_22 := grow_cell hT9 qt_4
        have d9_23 := grow_cell hT9 qt_5
        have d9_24 := grow_cell hT9 qp_0
        have d9_25 := grow_cell hT9 qp_1
        have d9_26 := grow_cell hT9 qp_2
        have d9_27 := grow_cell hT9 qp_3
        have d9_28 := grow_cell hT9 qp_4
        have d9_29 := grow_cell hT9 qp_5
        have d9_30 := grow_cell hT9 qq_0
        have d9_31 := grow_cell hT9 qq_1
        have d9_32 := grow_cell hT9 qq_2
        have d9_33 := grow_cell hT9 qq_3
        have d9_34 := grow_cell hT9 qq_4
        have d9_35 := grow_cell hT9 qq_5
        have d9_36 := grow_cell hT9 qx_0
        have d9_37 := grow_cell hT9 qx_1
        have d9_38 := grow_cell hT9 qx_2
        have d9_39 := grow_cell hT9 qx_3
        have d9_40 := grow_cell hT9 qx_4
        have d9_41 := grow_cell hT9 qx_5
        have d9_42 := grow_cell hT9 qy_0
        have d9_43 := grow_cell hT9 qy_1
        have d9_44 := grow_cell hT9 qy_2
        have d9_45 := grow_cell hT9 qy_3
        have d9_46 := grow_cell hT9 qy_4
        have d9_47 := grow_cell hT9 qy_5
        go_simp
        exact hK9 _ (Grow.refl _)
      case s1_54 =>
        intro t9 w9 hT9 hV9 hO9 K9 hK9
        have p9_50 : t9[156]? = some ?v1_50 := hV9 50 156 rfl rfl (of_decide_eq_true (by kernel_rfl))
        have p9_51 : t9[157]? = some ?v1_51 := hV9 51 157 rfl rfl (of_decide_eq_true (by kernel_rfl))
        have p9_53 : t9[159]? = some ?v1_53 := hV9 53 159 rfl rfl (of_decide_eq_true (by kernel_rfl))
        clear hV9 hO9
        go_simp
        first | exact hK9 _ (Grow.refl _) | (refine (HC1.out _).mono ?_; rintro _ w8 ⟨rfl, hb8⟩; exact hK9 _ hb8)
      case s1_55 =>
        intro t9 w9 hT9 hV9 hO9 K9 hK9
        have p9_50 : t9[156]? = some ?v1_50 := hV9 50 156 rfl rfl (of_decide_eq_true (by kernel_rfl))
        have o9_3 := hO9 3 _ (by kernel_rfl) rfl
        clear hV9 hO9
        have d9_0 := grow_cell hT9 qa_0
        have d9_1 := grow_cell hT9 qa_1
        have d9_2 := grow_cell hT9 qa_2
        have d9_3 := grow_cell hT9 qa_3
        have d9_4 := grow_cell hT9 qa_4
        have d9_5 := grow_cell hT9 qa_5
        have d9_6 := grow_cell hT9 qb_0
        have d9_7 := grow_cell hT9 qb_1
        have d9_8 := grow_cell hT9 qb_2
        have d9_9 := grow_cell hT9 qb_3
        have d9_10 := grow_cell hT9 qb_4
        have d9_11 := grow_cell hT9 qb_5
        have d9_12 := grow_cell hT9 qs_0
        have d9_13 := grow_cell hT9 qs_1
        have d9_14 := grow_cell hT9 qs_2
        have d9_15 := grow_cell hT9 qs_3
        have d9_16 := grow_cell hT9 qs_4
        have d9_17 := grow_cell hT9 qs_5
        have d9_18 := grow_cell hT9 qt_0
        have d9_19 := grow_cell hT9 qt_1
        have d9_20 := grow_cell hT9 qt_2
        have d9_21 := grow_cell hT9 qt_3
        have d9_22 := grow_cell hT9 qt_4
        have d9_23 := grow_cell hT9 qt_5
        have d9_24 := grow_cell hT9 qp_0
        have d9_25 := grow_cell hT9 qp_1
        have d9_26 := grow_cell hT9 qp_2
        have d9_27 := grow_cell hT9 qp_3
        have d9_28 := grow_cell hT9 qp_4
        have d9_29 := grow_cell hT9 qp_5
        have d9_30 := grow_cell hT9 qq_0
        have d9_31 := grow_cell hT9 qq_1
        have d9_32 := grow_cell hT9 qq_2
        have d9_33 := grow_cell hT9 qq_3
        have d9_34 := grow_cell hT9 qq_4
        have d9_35 := grow_cell hT9 qq_5
        have d9_36 := grow_cell hT9 qx_0
        have d9_37 := grow_cell hT9 qx_1
        have d9_38 := grow_cell hT9 qx_2
        have d9_39 := grow_cell hT9 qx_3
        have d9_40 := grow_cell hT9 qx_4
        have d9_41 := grow_cell hT9 qx_5
        have d9_42 := grow_cell hT9 qy_0
        have d9_43 := grow_cell hT9 qy_1
        have d9_44 := grow_cell hT9 qy_2
        have d9_45 := grow_cell hT9 qy_3
        have d9_46 := grow_cell hT9 qy_4
        have d9_47 := grow_cell hT9 qy_5
        go_simp
        exact hK9 _ (Grow.refl _)
      case s1_56 =>
        intro t9 w9 hT9 hV9 hO9 K9 hK9
        have p9_50 : t9[156]? = some ?v1_50 := hV9 50 156 rfl rfl (of_decide_eq_true (by kernel_rfl))
        have o9_4 := hO9 4 _ (by kernel_rfl) rfl
        clear hV9 hO9
        go_simp
        exact hK9 _ (Grow.refl _)
      case s1_57 =>
        intro t9 w9 hT9 hV9 hO9 K9 hK9
        have p9_50 : t9[156]? = some ?v1_50 := hV9 50 156 rfl rfl (of_decide_eq_true (by kernel_rfl))
        have p9_56 : t9[162]? = some ?v1_56 := hV9 56 162 rfl rfl (of_decide_eq_true (by kernel_rfl))
        clear hV9 hO9
        have d9_0 := grow_cell hT9 qa_0
        have d9_1 := grow_cell hT9 qa_1
        have d9_2 := grow_cell hT9 qa_2
        have d9_3 := grow_cell hT9 qa_3
        have d9_4 := grow_cell hT9 qa_4
        have d9_5 := grow_cell hT9 qa_5
        have d9_6 := grow_cell hT9 qb_0
        have d9_7 := grow_cell hT9 qb_1
        have d9_8 := grow_cell hT9 qb_2
        have d9_9 := grow_cell hT9 qb_3
        have d9_10 := grow_cell hT9 qb_4
        have d9_11 := grow_cell hT9 qb_5
        have d9_12 := grow_cell hT9 qs_0
        have d9_13 := grow_cell hT9 qs_1
        have d9_14 := grow_cell hT9 qs_2
        have d9_15 := grow_cell hT9 qs_3
        have d9_16 := grow_cell hT9 qs_4
        have d9_17 := grow_cell hT9 qs_5
        have d9_18 := grow_cell hT9 qt_0
        have d9_19 := grow_cell hT9 qt_1
        have d9_20 := grow_cell hT9 qt_2
        have d9_21 := grow_cell hT9 qt_3
        have d9_22 := grow_cell hT9 qt_4
        have d9_23 := grow_cell hT9 qt_5
        have d9_24 := grow_cell hT9 qp_0
        have d9_25 := grow_cell hT9 qp_1
        have d9_26 := grow_cell hT9 qp_2
        have d9_27 := grow_cell hT9 qp_3
        have d9_28 := grow_cell hT9 qp_4
        have d9_29 := grow_cell hT9 qp_5
        have d9_30 := grow_cell hT9 qq_0
        have d9_31 := grow_cell hT9 qq_1
        have d9_32 := grow_cell hT9 qq_2
        have d9_33 := grow_cell hT9 qq_3
        have d9_34 := grow_cell hT9 qq_4
        have d9_35 := grow_cell hT9 qq_5
        have d9_36 := grow_cell hT9 qx_0
        have d9_37 := grow_cell hT9 qx_1
        have d9_38 := grow_cell hT9 qx_2
        have d9_39 := grow_cell hT9 qx_3
        have d9_40 := grow_cell hT9 qx_4
        have d9_41 := grow_cell hT9 qx_5
        have d9_42 := grow_cell hT9 qy_0
        have d9_43 := grow_cell hT9 qy_1
        have d9_44 := grow_cell hT9 qy_2
        have d9_45 := grow_cell hT9 qy_3
        have d9_46 := grow_cell hT9 qy_4
        have d9_47 := grow_cell hT9 qy_5
        go_simp
        exact hK9 _ (Grow.refl _)
      case s1_58 =>
        intro t9 w9 hT9 hV9 hO9 K9 hK9
        have p9_50 : t9[156]? = some ?v1_50 := hV9 50 156 rfl rfl (of_decide_eq_true (by kernel_rfl))
        have p9_55 : t9[161]? = some ?v1_55 := hV9 55 161 rfl rfl (of_decide_eq_true (by kernel_rfl))
        have p9_57 : t9[163]? = some ?v1_57 := hV9 57 163 rfl rfl (of_decide_eq_true (by kernel_rfl))
        clear hV9 hO9
        go_simp
        first | exact hK9 _ (Grow.refl _) | (refine (HC2.out _).mono ?_; rintro _ w8 ⟨rfl, hb8⟩; exact hK9 _ hb8)
      case s1_59 =>
        intro t9 w9 hT9 hV9 hO9 K9 hK9
        have p9_50 : t9[156]? = some ?v1_50 := hV9 50 156 rfl rfl (of_decide_eq_true (by kernel_rfl))
        have p9_54 : t9[160]? = some ?v1_54 := hV9 54 160 rfl rfl (of_decide_eq_true (by kernel_rfl))
        have p9_58 : t9[164]? = some ?v1_58 := hV9 58 164 rfl rfl (of_decide_eq_true (by kernel_rfl))
        clear hV9 hO9
        go_simp
        exact hK9 _ (Grow.refl _)
      case s1_60 =>
        intro t9 w9 hT9 hV9 hO9 K9 hK9
        have p9_50 : t9[156]? = some ?v1_50 := hV9 50 156 rfl rfl (of_decide_eq_true (by kernel_rfl))
        have p9_59 : t9[165]? = some ?v1_59 := hV9 59 165 rfl rfl (of_decide_eq_true (by kernel_rfl))
        clear hV9 hO9
        go_simp
        exact hK9 _ (Grow.refl _)
      case s1_61 =>
        intro t9 w9 hT9 hV9 hO9 K9 hK9
        have p9_60 : t9[166]? = some ?v1_60 := hV9 60 166 rfl rfl (of_decide_eq_true (by kernel_rfl))
        clear hV9 hO9
        go_simp
        exact hK9 _ (Grow.refl _)
      case s1_62 =>
        intro t9 w9 hT9 hV9 hO9 K9 hK9
        have p9_61 : t9[167]? = some ?v1_61 := hV9 61 167 rfl rfl (of_decide_eq_true (by kernel_rfl))
        have o9_3 := hO9 3 _ (by kernel_rfl) rfl
        clear hV9 hO9
        have d9_0 := grow_cell hT9 qa_0
        have d9_1 := grow_cell hT9 qa_1
        have d9_2 := grow_cell hT9 qa_2
        have d9_3 := grow_cell hT9 qa_3
        have d9_4 := grow_cell hT9 qa_4
        have d9_5 := grow_cell hT9 qa_5
        have d9_6 := grow_cell hT9 qb_0
        have d9_7 := grow_cell hT9 qb_1
        have d9_8 := grow_cell hT9 qb_2
        have d9_9 := grow_cell hT9 qb_3
        have d9_10 := grow_cell hT9 qb_4
        have d9_11 := grow_cell hT9 qb_5
        have d9_12 := grow_cell hT9 qs_0
        have d9_13 := grow_cell hT9 qs_1
        have d9_14 := grow_cell hT9 qs_2
        have d9_15 := grow_cell hT9 qs_3
        have d9_16 := grow_cell hT9 qs_4
        have d9_17 := grow_cell hT9 qs_5
        have d9_18 := grow_cell hT9 qt_0
        have d9_19 := grow_cell hT9 qt_1
        have d9_20 := grow_cell hT9 qt_2
        have d9_21 := grow_cell hT9 qt_3
        have d9_22 := grow_cell hT9 qt_4
        have d9_23 := grow_cell hT9 qt_5
        have d9_24 := grow_cell hT9 qp_0
        have d9_25 := grow_cell hT9 qp_1
        have d9_26 := grow_cell hT9 qp_2
        have d9_27 := grow_cell hT9 qp_3
        have d9_28 := grow_cell hT9 qp_4
        have d9_29 := grow_cell hT9 qp_5
        have d9_30 := grow_cell hT9 qq_0
        have d9_31 := grow_cell hT9 qq_1
        have d9_32 := grow_cell hT9 qq_2
        have d9_33 := grow_cell hT9 qq_3
        have d9_34 := grow_cell hT9 qq_4
        have d9_35 := grow_cell hT9 qq_5
        have d9_36 := grow_cell hT9 qx_0
        have d9_37 := grow_cell hT9 qx_1
        have d9_38 := grow_cell hT9 qx_2
        have d9_39 := grow_cell hT9 qx_3
        have d9_40 := grow_cell hT9 qx_4
        have d9_41 := grow_cell hT9 qx_5
        have d9_42 := grow_cell hT9 qy_0
        have d9_43 := grow_cell hT9 qy_1
        have d9_44 := grow_cell hT9 qy_2
        have d9_45 := grow_cell hT9 qy_3
        have d9_46 := grow_cell hT9 qy_4
        have d9_47 := grow_cell hT9 qy_5
        go_simp
        exact hK9 _ (Grow.refl _)
      case s1_63 =>
        intro t9 w9 hT9 hV9 hO9 K9 hK9
        have p9_61 : t9[167]? = some ?v1_61 := hV9 61 167 rfl rfl (of_decide_eq_true (by kernel_rfl))
        have o9_4 := hO9 4 _ (by kernel_rfl) rfl
        clear hV9 hO9
        have d9_0 := grow_cell hT9 qa_0
        have d9_1 := grow_cell hT9 qa_1
        have d9_2 := grow_cell hT9 qa_2
        have d9_3 := grow_cell hT9 qa_3
        have d9_4 := grow_cell hT9 qa_4
        have d9_5 := grow_cell hT9 qa_5
        have d9_6 := grow_cell hT9 qb_0
        have d9_7 := grow_cell hT9 qb_1
        have d9_8 := grow_cell hT9 qb_2
        have d9_9 := grow_cell hT9 qb_3
        have d9_10 := grow_cell hT9 qb_4
        have d9_11 := grow_cell hT9 qb_5
        have d9_12 := grow_cell hT9 qs_0
        have d9_13 := grow_cell hT9 qs_1
        have d9_14 := grow_cell hT9 qs_2
        have d9_15 := grow_cell hT9 qs_3
        have d9_16 := grow_cell hT9 qs_4
        have d9_17 := grow_cell hT9 qs_5
        have d9_18 := grow_cell hT9 qt_0
        have d9_19 := grow_cell hT9 qt_1
        have d9_20 := grow_cell hT9 qt_2
        have d9_21 := grow_cell hT9 qt_3
        have d9_22 := grow_cell hT9 qt_4
        have d9_23 := grow_cell hT9 qt_5
        have d9_24 := grow_cell hT9 qp_0
        have d9_25 := grow_cell hT9 qp_1
        have d9_26 := grow_cell hT9 qp_2
        have d9_27 := grow_cell hT9 qp_3
        have d9_28 := grow_cell hT9 qp_4
        have d9_29 := grow_cell hT9 qp_5
        have d9_30 := grow_cell hT9 qq_0
        have d9_31 := grow_cell hT9 qq_1
        have d9_32 := grow_cell hT9 qq_2
        have d9_33 := grow_cell hT9 qq_3
        have d9_34 := grow_cell hT9 qq_4
        have d9_35 := grow_cell hT9 qq_5
        have d9_36 := grow_cell hT9 qx_0
        have d9_37 := grow_cell hT9 qx_1
        have d9_38 := grow_cell hT9 qx_2
        have d9_39 := grow_cell hT9 qx_3
        have d9_40 := grow_cell hT9 qx_4
        have d9_41 := grow_cell hT9 qx_5
        have d9_42 := grow_cell hT9 qy_0
        have d9_43 := grow_cell hT9 qy_1
        have d9_44 := grow_cell hT9 qy_2
        have d9_45 := grow_cell hT9 qy_3
        have d9_46 := grow_cell hT9 qy_4
        have d9_47 := grow_cell hT9 qy_5
        go_simp
        exact hK9 _ (Grow.refl _)
      case s1_64 =>
        intro t9 w9 hT9 hV9 hO9 K9 hK9
        have p9_61 : t9[167]? = some ?v1_61 := hV9 61 167 rfl rfl (of_decide_eq_true (by kernel_rfl))
        have p9_62 : t9[168]? = some ?v1_62 := hV9 62 168 rfl rfl (of_decide_eq_true (by kernel_rfl))
        have p9_63 : t9[169]? = some ?v1_63 := hV9 63 169 rfl rfl (of_decide_eq_true (by kernel_rfl))
        clear hV9 hO9
        go_simp
        first | exact hK9 _ (Grow.refl _) | (refine (HM1.out _).mono ?_; rintro _ w8 ⟨rfl, hb8⟩; exact hK9 _ hb8)
      case s1_65 =>
        intro t9 w9 hT9 hV9 hO9 K9 hK9
        have p9_61 : t9[167]? = some ?v1_61 := hV9 61 167 rfl rfl (of_decide_eq_true (by kernel_rfl))
        have o9_3 := hO9 3 _ (by kernel_rfl) rfl
        clear hV9 hO9
        have d9_0 := grow_cell hT9 qa_0
        have d9_1 := grow_cell hT9 qa_1
        have d9_2 := grow_cell hT9 qa_2
        have d9_3 := grow_cell hT9 qa_3
        have d9_4 := grow_cell hT9 qa_4
        have d9_5 := grow_cell hT9 qa_5
        have d9_6 := grow_cell hT9 qb_0
        have d9_7 := grow_cell hT9 qb_1
        have d9_8 := grow_cell hT9 qb_2
        have d9_9 := grow_cell hT9 qb_3
        have d9_10 := grow_cell hT9 qb_4
        have d9_11 := grow_cell hT9 qb_5
        have d9_12 := grow_cell hT9 qs_0
        have d9_13 := grow_cell hT9 qs_1
        have d9_14 := grow_cell hT9 qs_2
        have d9_15 := grow_cell hT9 qs_3
        have d9_16 := grow_cell hT9 qs_4
        have d9_17 := grow_cell hT9 qs_5
        have d9_18 := grow_cell hT9 qt_0
        have d9_19 := grow_cell hT9 qt_1
        have d9_20 := grow_cell hT9 qt_2
        have d9_21 := grow_cell hT9 qt_3
        have d9_22 := grow_cell hT9 qt_4
        have d9_23 := grow_cell hT9 qt_5
        have d9_24 := grow_cell hT9 qp_0
        have d9_25 := grow_cell hT9 qp_1
        have d9_26 := grow_cell hT9 qp_2
        have d9_27 := grow_cell hT9 qp_3
        have d9_28 := grow_cell hT9 qp_4
        have d9_29 := grow_cell hT9 qp_5
        have d9_30 := grow_cell hT9 qq_0
        have d9_31 := grow_cell hT9 qq_1
        have d9_32 := grow_cell hT9 qq_2
        have d9_33 := grow_cell hT9 qq_3
        have d9_34 := grow_cell hT9 qq_4
        have d9_35 := grow_cell hT9 qq_5
        have d9_36 := grow_cell hT9 qx_0
        have d9_37 := grow_cell hT9 qx_1
        have d9_38 := grow_cell hT9 qx_2
        have d9_39 := grow_cell hT9 qx_3
        have d9_40 := grow_cell hT9 qx_4
        have d9_41 := grow_cell hT9 qx_5
        have d9_42 := grow_cell hT9 qy_0
        have d9_43 := grow_cell hT9 qy_1
        have d9_44 := grow_cell hT9 qy_2
        have d9_45 := grow_cell hT9 qy_3
        have d9_46 := grow_cell hT9 qy_4
        have d9_47 := grow_cell hT9 qy_5
        go_simp
        exact hK9 _ (Grow.refl _)
      case s1_66 =>
        intro t9 w9 hT9 hV9 hO9 K9 hK9
        have p9_61 : t9[167]? = some ?v1_61 := hV9 61 167 rfl rfl (of_decide_eq_true (by kernel_rfl))
        have o9_4 := hO9 4 _ (by kernel_rfl) rfl
        clear hV9 hO9
        have d9_0 := grow_cell hT9 qa_0
        have d9_1 := grow_cell hT9 qa_1
        have d9_2 := grow_cell hT9 qa_2
        have d9_3 := grow_cell hT9 qa_3
        have d9_4 := grow_cell hT9 qa_4
        have d9_5 := grow_cell hT9 qa_5
        have d9_6 := grow_cell hT9 qb_0
        have d9_7 := grow_cell hT9 qb_1
        have d9_8 := grow_cell hT9 qb_2
        have d9_9 := grow_cell hT9 qb_3
        have d9_10 := grow_cell hT9 qb_4
        have d9_11 := grow_cell hT9 qb_5
        have d9_12 := grow_cell hT9 qs_0
        have d9_13 := grow_cell hT9 qs_1
        have d9_14 := grow_cell hT9 qs_2
        have d9_15 := grow_cell hT9 qs_3
        have d9_16 := grow_cell hT9 qs_4
        have d9_17 := grow_cell hT9 qs_5
        have d9_18 := grow_cell hT9 qt_0
        have d9_19 := grow_cell hT9 qt_1
        have d9_20 := grow_cell hT9 qt_2
        have d9_21 := grow_cell hT9 qt_3
        have d9_22 := grow_cell hT9 qt_4
        have d9_23 := grow_cell hT9 qt_5
        have d9_24 := grow_cell hT9 qp_0
        have d9_25 := grow_cell hT9 qp_1
        have d9_26 := grow_cell hT9 qp_2
        have d9_27 := grow_cell hT9 qp_3
        have d9_28 := grow_cell hT9 qp_4
        have d9_29 := grow_cell hT9 qp_5
        have d9_30 := grow_cell hT9 qq_0
        have d9_31 := grow_cell hT9 qq_1
        have d9_32 := grow_cell hT9 qq_2
        have d9_33 := grow_cell hT9 qq_3
        have d9_34 := grow_cell hT9 qq_4
        have d9_35 := grow_cell hT9 qq_5
        have d9_36 := grow_cell hT9 qx_0
        have d9_37 := grow_cell hT9 qx_1
        have d9_38 := grow_cell hT9 qx_2
        have d9_39 := grow_cell hT9 qx_3
        have d9_40 := grow_cell hT9 qx_4
        have d9_41 := grow_cell hT9 qx_5
        have d9_42 := grow_cell hT9 qy_0
        have d9_43 := grow_cell hT9 qy_1
        have d9_44 := grow_cell hT9 qy_2
        have d9_45 := grow_cell hT9 qy_3
        have d9_46 := grow_cell hT9 qy_4
        have d9_47 := grow_cell hT9 qy_5
        go_simp
        exact hK9 _ (Grow.refl _)
      case s1_67 =>
        intro t9 w9 hT9 hV9 hO9 K9 hK9
        have p9_61 : t9[167]? = some ?v1_61 := hV9 61 167 rfl rfl (of_decide_eq_true (by kernel_rfl))
        have p9_65 : t9[171]? = some ?v1_65 := hV9 65 171 rfl rfl (of_decide_eq_true (by kernel_rfl))
        have p9_66 : t9[172]? = some ?v1_66 := hV9 66 172 rfl rfl (of_decide_eq_true (by kernel_rfl))
        clear hV9 hO9
        go_simp
        first | exact hK9 _ (Grow.refl _) | (refine (HM2.out _).mono ?_; rintro _ w8 ⟨rfl, hb8⟩; exact hK9 _ hb8)
      case s1_68 =>
        intro t9 w9 hT9 hV9 hO9 K9 hK9
        have p9_61 : t9[167]? = some ?v1_61 := hV9 61 167 rfl rfl (of_decide_eq_true (by kernel_rfl))
        have p9_64 : t9[170]? = some ?v1_64 := hV9 64 170 rfl rfl (of_decide_eq_true (by kernel_rfl))
        have p9_67 : t9[173]? = some ?v1_67 := hV9 67 173 rfl rfl (of_decide_eq_true (by kernel_rfl))
        clear hV9 hO9
        go_simp
        exact hK9 _ (Grow.refl _)
      case s1_69 =>
        intro t9 w9 hT9 hV9 hO9 K9 hK9
        have p9_61 : t9[167]? = some ?v1_61 := hV9 61 167 rfl rfl (of_decide_eq_true (by kernel_rfl))
        have p9_68 : t9[174]? = some ?v1_68 := hV9 68 174 rfl rfl (of_decide_eq_true (by kernel_rfl))
        clear hV9 hO9
        go_simp
        exact hK9 _ (Grow.refl _)
      case s1_70 =>
        intro t9 w9 hT9 hV9 hO9 K9 hK9
        have p9_69 : t9[175]? = some ?v1_69 := hV9 69 175 rfl rfl (of_decide_eq_true (by kernel_rfl))
        clear hV9 hO9
        go_simp
        exact hK9 _ (Grow.refl _)
      case s1_71 =>
        intro t9 w9 hT9 hV9 hO9 K9 hK9
        have p9_70 : t9[176]? = some ?v1_70 := hV9 70 176 rfl rfl (of_decide_eq_true (by kernel_rfl))
        clear hV9 hO9
        go_simp
        first | exact hK9 _ (Grow.refl _) | (refine (HKN.out _).mono ?_; rintro _ w8 ⟨rfl, hb8⟩; exact hK9 _ hb8)
      case s1_72 =>
        intro t9 w9 hT9 hV9 hO9 K9 hK9
        have p9_70 : t9[176]? = some ?v1_70 := hV9 70 176 rfl rfl (of_decide_eq_true (by kernel_rfl))
        have p9_71 : t9[177]? = some ?v1_71 := hV9 71 177 rfl rfl (of_decide_eq_true (by kernel_rfl))
        clear hV9 hO9
        go_simp
        exact hK9 _ (Grow.refl _)
      case s1_73 =>
        intro t9 w9 hT9 hV9 hO9 K9 hK9
        have p9_72 : t9[178]? = some ?v1_72 := hV9 72 178 rfl rfl (of_decide_eq_true (by kernel_rfl))
        clear hV9 hO9
        go_simp
        exact hK9 _ (Grow.refl _)
      intro w9 hb9
      simp only [putAll, Act.put, List.setIfInBounds_toArray, List.set_cons_succ, List.set_cons_zero, List.getD_cons_succ, List.getD_cons_zero, Nat.reduceAdd, Nat.zero_add]
      go_wp2
      go_ret
      exact ⟨rfl, below6 hbw hb9⟩
end Go.Proofs.Ytdjkgjpehneejaa
