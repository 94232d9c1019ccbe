/- Intervals: Valid, Exact, ends, Add, Scale, Contains, Compare; of the program and of the reference. -/
import Derived.Test.YtopfcfbiaadfeaaDoorJb
namespace Go.Proofs.YtopfcfbiaadfeaaDoor
set_option linter.unusedSimpArgs false
set_option linter.unusedVariables false
set_option linter.unusedSectionVars false
open Go.RowKit Dg

/-- A function that returns one value at these arguments, whatever the world. -/
def RetV (f : FuncId) (args : Array Value) (v : Value) : Prop := ∀ w, Calls Tryd.prog f args w fun e w' => e = .returned v ∧ Below w.heap.size w w'
theorem Own.set6 {w : World} {g : Nat} {t : TypeId} {a b c d e f : Value} (h : Own w g t [a, b, c, d, e, f]) (u v x y z q : Value) :
    Own ((((((w.setCell ⟨g, 0, none⟩ u).setCell ⟨g, 1, none⟩ v).setCell ⟨g, 2, none⟩ x).setCell ⟨g, 3, none⟩ y).setCell ⟨g, 4, none⟩ z).setCell ⟨g, 5, none⟩ q) g t [u, v, x, y, z, q] :=
  (((((h.set_ 0 u).set_ 1 v).set_ 2 x).set_ 3 y).set_ 4 z).set_ 5 q
theorem Below.set6 {B : Nat} {w w' : World} (h : Below B w w') {g : Nat} (hg : B ≤ g) (u v x y z q : Value) :
    Below B w ((((((w'.setCell ⟨g, 0, none⟩ u).setCell ⟨g, 1, none⟩ v).setCell ⟨g, 2, none⟩ x).setCell ⟨g, 3, none⟩ y).setCell ⟨g, 4, none⟩ z).setCell ⟨g, 5, none⟩ q) :=
  (((((h.setCell hg u).setCell hg v).setCell hg x).setCell hg y).setCell hg z).setCell hg q
theorem new4 (w : World) (c1 c2 c3 c4 : List Value) (t1 t2 t3 t4 : TypeId) :
    Own ((((w.alloc (.cells c1.toArray t1)).alloc (.cells c2.toArray t2)).alloc (.cells c3.toArray t3)).alloc (.cells c4.toArray t4)) w.heap.size t1 c1 ∧ Own ((((w.alloc (.cells c1.toArray t1)).alloc (.cells c2.toArray t2)).alloc (.cells c3.toArray t3)).alloc (.cells c4.toArray t4)) (w.heap.size + 1) t2 c2 ∧
    Own ((((w.alloc (.cells c1.toArray t1)).alloc (.cells c2.toArray t2)).alloc (.cells c3.toArray t3)).alloc (.cells c4.toArray t4)) (w.heap.size + 1 + 1) t3 c3 ∧ Own ((((w.alloc (.cells c1.toArray t1)).alloc (.cells c2.toArray t2)).alloc (.cells c3.toArray t3)).alloc (.cells c4.toArray t4)) (w.heap.size + 1 + 1 + 1) t4 c4 ∧
    Below w.heap.size w ((((w.alloc (.cells c1.toArray t1)).alloc (.cells c2.toArray t2)).alloc (.cells c3.toArray t3)).alloc (.cells c4.toArray t4)) := by
  obtain ⟨h1, h2, h3, h4⟩ := new3 w c1 c2 c3 t1 t2 t3
  have hs : (((w.alloc (.cells c1.toArray t1)).alloc (.cells c2.toArray t2)).alloc (.cells c3.toArray t3)).heap.size = w.heap.size + 1 + 1 + 1 := by simp
  refine ⟨h1.alloc _, h2.alloc _, h3.alloc _, ?_, h4.alloc (by rw [hs]; omega) _⟩
  have := Own.new (((w.alloc (.cells c1.toArray t1)).alloc (.cells c2.toArray t2)).alloc (.cells c3.toArray t3)) t4 c4
  rw [hs] at this
  exact this
set_option maxRecDepth 100000 in
set_option maxHeartbeats 4000000 in
theorem evalid_core (na : Bool) (sa ta : ByteArray) (nb : Bool) (sb tb : ByteArray) (b1 b2 : Bool) (z : Int) (h1 : RetV 41 #[.agg #[.bool na, .string sa, .string ta]] (.bool b1)) (h2 : RetV 41 #[.agg #[.bool nb, .string sb, .string tb]] (.bool b2)) (h3 : b1 = true → b2 = true → RetV 13 #[.agg #[.bool na, .string sa, .string ta], .agg #[.bool nb, .string sb, .string tb]] (.int .i64 z)) :
    RetV 40 #[.agg #[.bool na, .string sa, .string ta, .bool nb, .string sb, .string tb]] (.bool (b1 && (b2 && decide (z ≤ 0)))) := by
  intro w
  have H1 := Lib.hid h1
  have H2 := Lib.hid h2
  have H3 := Lib.hid h3
  clear h1 h2 h3
  cases b1
  · obtain ⟨o_x, hbw⟩ := new1 w [.bool na, .string sa, .string ta, .bool nb, .string sb, .string tb] 37
    go_enter Tryd.func40, Tryd.ntmps40
    go_upto_region 1 with (fail)
    generalize (w.alloc (.cells #[.bool na, .string sa, .string ta, .bool nb, .string sb, .string tb] 37)) = wb at o_x hbw ⊢
    have qx_0 : wb.cell? ⟨w.heap.size, 0, none⟩ = some (.bool na) := o_x.cell 0
    have qx_1 : wb.cell? ⟨w.heap.size, 1, none⟩ = some (.string sa) := o_x.cell 1
    have qx_2 : wb.cell? ⟨w.heap.size, 2, none⟩ = some (.string ta) := o_x.cell 2
    have qx_3 : wb.cell? ⟨w.heap.size, 3, none⟩ = some (.bool nb) := o_x.cell 3
    have qx_4 : wb.cell? ⟨w.heap.size, 4, none⟩ = some (.string sb) := o_x.cell 4
    have qx_5 : wb.cell? ⟨w.heap.size, 5, none⟩ = some (.string tb) := o_x.cell 5
    go_wp2_with fail
    clear qx_0 qx_1 qx_2 qx_3 qx_4 qx_5
    refine (H1.out _).mono ?_
    rintro e w1 ⟨rfl, hb1⟩
    replace o_x := o_x.below hb1 o_x.lt
    replace hbw := below6 hbw hb1
    clear hb1
    go_wp2
    go_ret
    exact ⟨rfl, hbw⟩
  · cases b2
    · obtain ⟨o_x, hbw⟩ := new1 w [.bool na, .string sa, .string ta, .bool nb, .string sb, .string tb] 37
      go_enter Tryd.func40, Tryd.ntmps40
      go_upto_region 1 with (fail)
      generalize (w.alloc (.cells #[.bool na, .string sa, .string ta, .bool nb, .string sb, .string tb] 37)) = wb at o_x hbw ⊢
      have qx_0 : wb.cell? ⟨w.heap.size, 0, none⟩ = some (.bool na) := o_x.cell 0
      have qx_1 : wb.cell? ⟨w.heap.size, 1, none⟩ = some (.string sa) := o_x.cell 1
      have qx_2 : wb.cell? ⟨w.heap.size, 2, none⟩ = some (.string ta) := o_x.cell 2
      have qx_3 : wb.cell? ⟨w.heap.size, 3, none⟩ = some (.bool nb) := o_x.cell 3
      have qx_4 : wb.cell? ⟨w.heap.size, 4, none⟩ = some (.string sb) := o_x.cell 4
      have qx_5 : wb.cell? ⟨w.heap.size, 5, none⟩ = some (.string tb) := o_x.cell 5
      go_wp2_with fail
      clear qx_0 qx_1 qx_2 qx_3 qx_4 qx_5
      refine (H1.out _).mono ?_
      rintro e w1 ⟨rfl, hb1⟩
      replace o_x := o_x.below hb1 o_x.lt
      replace hbw := below6 hbw hb1
      clear hb1
      have qx_0 : w1.cell? ⟨w.heap.size, 0, none⟩ = some (.bool na) := o_x.cell 0
      have qx_1 : w1.cell? ⟨w.heap.size, 1, none⟩ = some (.string sa) := o_x.cell 1
      have qx_2 : w1.cell? ⟨w.heap.size, 2, none⟩ = some (.string ta) := o_x.cell 2
      have qx_3 : w1.cell? ⟨w.heap.size, 3, none⟩ = some (.bool nb) := o_x.cell 3
      have qx_4 : w1.cell? ⟨w.heap.size, 4, none⟩ = some (.string sb) := o_x.cell 4
      have qx_5 : w1.cell? ⟨w.heap.size, 5, none⟩ = some (.string tb) := o_x.cell 5
      go_wp2_with fail
      clear qx_0 qx_1 qx_2 qx_3 qx_4 qx_5
      refine (H2.out _).mono ?_
      rintro e w2 ⟨rfl, hb2⟩
      replace o_x := o_x.below hb2 o_x.lt
      replace hbw := below6 hbw hb2
      clear hb2
      go_wp2
      go_ret
      exact ⟨rfl, hbw⟩
    · obtain ⟨o_x, hbw⟩ := new1 w [.bool na, .string sa, .string ta, .bool nb, .string sb, .string tb] 37
      go_enter Tryd.func40, Tryd.ntmps40
      go_upto_region 1 with (fail)
      generalize (w.alloc (.cells #[.bool na, .string sa, .string ta, .bool nb, .string sb, .string tb] 37)) = wb at o_x hbw ⊢
      have qx_0 : wb.cell? ⟨w.heap.size, 0, none⟩ = some (.bool na) := o_x.cell 0
      have qx_1 : wb.cell? ⟨w.heap.size, 1, none⟩ = some (.string sa) := o_x.cell 1
      have qx_2 : wb.cell? ⟨w.heap.size, 2, none⟩ = some (.string ta) := o_x.cell 2
      have qx_3 : wb.cell? ⟨w.heap.size, 3, none⟩ = some (.bool nb) := o_x.cell 3
      have qx_4 : wb.cell? ⟨w.heap.size, 4, none⟩ = some (.string sb) := o_x.cell 4
      have qx_5 : wb.cell? ⟨w.heap.size, 5, none⟩ = some (.string tb) := o_x.cell 5
      go_wp2_with fail
      clear qx_0 qx_1 qx_2 qx_3 qx_4 qx_5
      refine (H1.out _).mono ?_
      rintro e w1 ⟨rfl, hb1⟩
      replace o_x := o_x.below hb1 o_x.lt
      replace hbw := below6 hbw hb1
      clear hb1
      have qx_0 : w1.cell? ⟨w.heap.size, 0, none⟩ = some (.bool na) := o_x.cell 0
      have qx_1 : w1.cell? ⟨w.heap.size, 1, none⟩ = some (.string sa) := o_x.cell 1
      have qx_2 : w1.cell? ⟨w.heap.size, 2, none⟩ = some (.string ta) := o_x.cell 2
      have qx_3 : w1.cell? ⟨w.heap.size, 3, none⟩ = some (.bool nb) := o_x.cell 3
      have qx_4 : w1.cell? ⟨w.heap.size, 4, none⟩ = some (.string sb) := o_x.cell 4
      have qx_5 : w1.cell? ⟨w.heap.size, 5, none⟩ = some (.string tb) := o_x.cell 5
      go_wp2_with fail
      clear qx_0 qx_1 qx_2 qx_3 qx_4 qx_5
      refine (H2.out _).mono ?_
      rintro e w2 ⟨rfl, hb2⟩
      replace o_x := o_x.below hb2 o_x.lt
      replace hbw := below6 hbw hb2
      clear hb2
      have qx_0 : w2.cell? ⟨w.heap.size, 0, none⟩ = some (.bool na) := o_x.cell 0
      have qx_1 : w2.cell? ⟨w.heap.size, 1, none⟩ = some (.string sa) := o_x.cell 1
      have qx_2 : w2.cell? ⟨w.heap.size, 2, none⟩ = some (.string ta) := o_x.cell 2
      have qx_3 : w2.cell? ⟨w.heap.size, 3, none⟩ = some (.bool nb) := o_x.cell 3
      have qx_4 : w2.cell? ⟨w.heap.size, 4, none⟩ = some (.string sb) := o_x.cell 4
      have qx_5 : w2.cell? ⟨w.heap.size, 5, none⟩ = some (.string tb) := o_x.cell 5
      go_wp2_with fail
      clear qx_0 qx_1 qx_2 qx_3 qx_4 qx_5
      refine (H3.out (by simp) (by simp) _).mono ?_
      rintro e w3 ⟨rfl, hb3⟩
      replace o_x := o_x.below hb3 o_x.lt
      replace hbw := below6 hbw hb3
      clear hb3
      go_wp2
      go_ret
      exact ⟨rfl, hbw⟩
set_option maxRecDepth 100000 in
set_option maxHeartbeats 4000000 in
theorem rvalid_core (na : Bool) (sa ta : ByteArray) (nb : Bool) (sb tb : ByteArray) (b1 b2 : Bool) (z : Int) (h1 : RetV 42 #[.agg #[.bool na, .string sa, .string ta]] (.bool b1)) (h2 : RetV 42 #[.agg #[.bool nb, .string sb, .string tb]] (.bool b2)) (h3 : b1 = true → b2 = true → RetV 43 #[.agg #[.bool na, .string sa, .string ta], .agg #[.bool nb, .string sb, .string tb]] (.int .i64 z)) :
    RetV 22 #[.agg #[.bool na, .string sa, .string ta, .bool nb, .string sb, .string tb]] (.bool (b1 && (b2 && decide (z ≤ 0)))) := by
  intro w
  have H1 := Lib.hid h1
  have H2 := Lib.hid h2
  have H3 := Lib.hid h3
  clear h1 h2 h3
  cases b1
  · obtain ⟨o_x, hbw⟩ := new1 w [.bool na, .string sa, .string ta, .bool nb, .string sb, .string tb] 37
    go_enter Tryd.func22, Tryd.ntmps22
    go_upto_region 1 with (fail)
    generalize (w.alloc (.cells #[.bool na, .string sa, .string ta, .bool nb, .string sb, .string tb] 37)) = wb at o_x hbw ⊢
    have qx_0 : wb.cell? ⟨w.heap.size, 0, none⟩ = some (.bool na) := o_x.cell 0
    have qx_1 : wb.cell? ⟨w.heap.size, 1, none⟩ = some (.string sa) := o_x.cell 1
    have qx_2 : wb.cell? ⟨w.heap.size, 2, none⟩ = some (.string ta) := o_x.cell 2
    have qx_3 : wb.cell? ⟨w.heap.size, 3, none⟩ = some (.bool nb) := o_x.cell 3
    have qx_4 : wb.cell? ⟨w.heap.size, 4, none⟩ = some (.string sb) := o_x.cell 4
    have qx_5 : wb.cell? ⟨w.heap.size, 5, none⟩ = some (.string tb) := o_x.cell 5
    go_wp2_with fail
    clear qx_0 qx_1 qx_2 qx_3 qx_4 qx_5
    refine (H1.out _).mono ?_
    rintro e w1 ⟨rfl, hb1⟩
    replace o_x := o_x.below hb1 o_x.lt
    replace hbw := below6 hbw hb1
    clear hb1
    go_wp2
    go_ret
    exact ⟨rfl, hbw⟩
  · cases b2
    · obtain ⟨o_x, hbw⟩ := new1 w [.bool na, .string sa, .string ta, .bool nb, .string sb, .string tb] 37
      go_enter Tryd.func22, Tryd.ntmps22
      go_upto_region 1 with (fail)
      generalize (w.alloc (.cells #[.bool na, .string sa, .string ta, .bool nb, .string sb, .string tb] 37)) = wb at o_x hbw ⊢
      have qx_0 : wb.cell? ⟨w.heap.size, 0, none⟩ = some (.bool na) := o_x.cell 0
      have qx_1 : wb.cell? ⟨w.heap.size, 1, none⟩ = some (.string sa) := o_x.cell 1
      have qx_2 : wb.cell? ⟨w.heap.size, 2, none⟩ = some (.string ta) := o_x.cell 2
      have qx_3 : wb.cell? ⟨w.heap.size, 3, none⟩ = some (.bool nb) := o_x.cell 3
      have qx_4 : wb.cell? ⟨w.heap.size, 4, none⟩ = some (.string sb) := o_x.cell 4
      have qx_5 : wb.cell? ⟨w.heap.size, 5, none⟩ = some (.string tb) := o_x.cell 5
      go_wp2_with fail
      clear qx_0 qx_1 qx_2 qx_3 qx_4 qx_5
      refine (H1.out _).mono ?_
      rintro e w1 ⟨rfl, hb1⟩
      replace o_x := o_x.below hb1 o_x.lt
      replace hbw := below6 hbw hb1
      clear hb1
      have qx_0 : w1.cell? ⟨w.heap.size, 0, none⟩ = some (.bool na) := o_x.cell 0
      have qx_1 : w1.cell? ⟨w.heap.size, 1, none⟩ = some (.string sa) := o_x.cell 1
      have qx_2 : w1.cell? ⟨w.heap.size, 2, none⟩ = some (.string ta) := o_x.cell 2
      have qx_3 : w1.cell? ⟨w.heap.size, 3, none⟩ = some (.bool nb) := o_x.cell 3
      have qx_4 : w1.cell? ⟨w.heap.size, 4, none⟩ = some (.string sb) := o_x.cell 4
      have qx_5 : w1.cell? ⟨w.heap.size, 5, none⟩ = some (.string tb) := o_x.cell 5
      go_wp2_with fail
      clear qx_0 qx_1 qx_2 qx_3 qx_4 qx_5
      refine (H2.out _).mono ?_
      rintro e w2 ⟨rfl, hb2⟩
      replace o_x := o_x.below hb2 o_x.lt
      replace hbw := below6 hbw hb2
      clear hb2
      go_wp2
      go_ret
      exact ⟨rfl, hbw⟩
    · obtain ⟨o_x, hbw⟩ := new1 w [.bool na, .string sa, .string ta, .bool nb, .string sb, .string tb] 37
      go_enter Tryd.func22, Tryd.ntmps22
      go_upto_region 1 with (fail)
      generalize (w.alloc (.cells #[.bool na, .string sa, .string ta, .bool nb, .string sb, .string tb] 37)) = wb at o_x hbw ⊢
      have qx_0 : wb.cell? ⟨w.heap.size, 0, none⟩ = some (.bool na) := o_x.cell 0
      have qx_1 : wb.cell? ⟨w.heap.size, 1, none⟩ = some (.string sa) := o_x.cell 1
      have qx_2 : wb.cell? ⟨w.heap.size, 2, none⟩ = some (.string ta) := o_x.cell 2
      have qx_3 : wb.cell? ⟨w.heap.size, 3, none⟩ = some (.bool nb) := o_x.cell 3
      have qx_4 : wb.cell? ⟨w.heap.size, 4, none⟩ = some (.string sb) := o_x.cell 4
      have qx_5 : wb.cell? ⟨w.heap.size, 5, none⟩ = some (.string tb) := o_x.cell 5
      go_wp2_with fail
      clear qx_0 qx_1 qx_2 qx_3 qx_4 qx_5
      refine (H1.out _).mono ?_
      rintro e w1 ⟨rfl, hb1⟩
      replace o_x := o_x.below hb1 o_x.lt
      replace hbw := below6 hbw hb1
      clear hb1
      have qx_0 : w1.cell? ⟨w.heap.size, 0, none⟩ = some (.bool na) := o_x.cell 0
      have qx_1 : w1.cell? ⟨w.heap.size, 1, none⟩ = some (.string sa) := o_x.cell 1
      have qx_2 : w1.cell? ⟨w.heap.size, 2, none⟩ = some (.string ta) := o_x.cell 2
      have qx_3 : w1.cell? ⟨w.heap.size, 3, none⟩ = some (.bool nb) := o_x.cell 3
      have qx_4 : w1.cell? ⟨w.heap.size, 4, none⟩ = some (.string sb) := o_x.cell 4
      have qx_5 : w1.cell? ⟨w.heap.size, 5, none⟩ = some (.string tb) := o_x.cell 5
      go_wp2_with fail
      clear qx_0 qx_1 qx_2 qx_3 qx_4 qx_5
      refine (H2.out _).mono ?_
      rintro e w2 ⟨rfl, hb2⟩
      replace o_x := o_x.below hb2 o_x.lt
      replace hbw := below6 hbw hb2
      clear hb2
      have qx_0 : w2.cell? ⟨w.heap.size, 0, none⟩ = some (.bool na) := o_x.cell 0
      have qx_1 : w2.cell? ⟨w.heap.size, 1, none⟩ = some (.string sa) := o_x.cell 1
      have qx_2 : w2.cell? ⟨w.heap.size, 2, none⟩ = some (.string ta) := o_x.cell 2
      have qx_3 : w2.cell? ⟨w.heap.size, 3, none⟩ = some (.bool nb) := o_x.cell 3
      have qx_4 : w2.cell? ⟨w.heap.size, 4, none⟩ = some (.string sb) := o_x.cell 4
      have qx_5 : w2.cell? ⟨w.heap.size, 5, none⟩ = some (.string tb) := o_x.cell 5
      go_wp2_with fail
      clear qx_0 qx_1 qx_2 qx_3 qx_4 qx_5
      refine (H3.out (by simp) (by simp) _).mono ?_
      rintro e w3 ⟨rfl, hb3⟩
      replace o_x := o_x.below hb3 o_x.lt
      replace hbw := below6 hbw hb3
      clear hb3
      go_wp2
      go_ret
      exact ⟨rfl, hbw⟩
set_option maxRecDepth 100000 in
set_option maxHeartbeats 4000000 in
theorem econtains_core (na : Bool) (sa ta : ByteArray) (nb : Bool) (sb tb : ByteArray) (nx : Bool) (sx tx : ByteArray) (v b : Bool) (z1 z2 : Int) (h1 : RetV 40 #[.agg #[.bool na, .string sa, .string ta, .bool nb, .string sb, .string tb]] (.bool v)) (h2 : RetV 41 #[.agg #[.bool nx, .string sx, .string tx]] (.bool b)) (h3 : v = true → b = true → RetV 13 #[.agg #[.bool na, .string sa, .string ta], .agg #[.bool nx, .string sx, .string tx]] (.int .i64 z1)) (h4 : v = true → b = true → RetV 13 #[.agg #[.bool nx, .string sx, .string tx], .agg #[.bool nb, .string sb, .string tb]] (.int .i64 z2)) :
    RetV 21 #[.agg #[.bool na, .string sa, .string ta, .bool nb, .string sb, .string tb], .agg #[.bool nx, .string sx, .string tx]] (.bool (v && (b && (decide (z1 ≤ 0) && decide (z2 ≤ 0))))) := by
  intro w
  have H1 := Lib.hid h1
  have H2 := Lib.hid h2
  have H3 := Lib.hid h3
  have H4 := Lib.hid h4
  clear h1 h2 h3 h4
  cases v
  · skip
    obtain ⟨o_i, o_x, hbw⟩ := new2 w [.bool na, .string sa, .string ta, .bool nb, .string sb, .string tb] [.bool nx, .string sx, .string tx] 37 29
    go_enter Tryd.func21, Tryd.ntmps21
    go_upto_region 1 with (fail)
    generalize ((w.alloc (.cells #[.bool na, .string sa, .string ta, .bool nb, .string sb, .string tb] 37)).alloc (.cells #[.bool nx, .string sx, .string tx] 29)) = wb at o_i o_x hbw ⊢
    have qi_0 : wb.cell? ⟨w.heap.size, 0, none⟩ = some (.bool na) := o_i.cell 0
    have qi_1 : wb.cell? ⟨w.heap.size, 1, none⟩ = some (.string sa) := o_i.cell 1
    have qi_2 : wb.cell? ⟨w.heap.size, 2, none⟩ = some (.string ta) := o_i.cell 2
    have qi_3 : wb.cell? ⟨w.heap.size, 3, none⟩ = some (.bool nb) := o_i.cell 3
    have qi_4 : wb.cell? ⟨w.heap.size, 4, none⟩ = some (.string sb) := o_i.cell 4
    have qi_5 : wb.cell? ⟨w.heap.size, 5, none⟩ = some (.string tb) := o_i.cell 5
    have qx_0 : wb.cell? ⟨w.heap.size + 1, 0, none⟩ = some (.bool nx) := o_x.cell 0
    have qx_1 : wb.cell? ⟨w.heap.size + 1, 1, none⟩ = some (.string sx) := o_x.cell 1
    have qx_2 : wb.cell? ⟨w.heap.size + 1, 2, none⟩ = some (.string tx) := o_x.cell 2
    go_wp2_with fail
    clear qi_0 qi_1 qi_2 qi_3 qi_4 qi_5 qx_0 qx_1 qx_2
    refine (H1.out _).mono ?_
    rintro e w1 ⟨rfl, hb1⟩
    replace o_i := o_i.below hb1 o_i.lt
    replace o_x := o_x.below hb1 o_x.lt
    replace hbw := below6 hbw hb1
    clear hb1
    go_wp2
    go_ret
    exact ⟨rfl, hbw⟩
  · cases b
    · skip
      obtain ⟨o_i, o_x, hbw⟩ := new2 w [.bool na, .string sa, .string ta, .bool nb, .string sb, .string tb] [.bool nx, .string sx, .string tx] 37 29
      go_enter Tryd.func21, Tryd.ntmps21
      go_upto_region 1 with (fail)
      generalize ((w.alloc (.cells #[.bool na, .string sa, .string ta, .bool nb, .string sb, .string tb] 37)).alloc (.cells #[.bool nx, .string sx, .string tx] 29)) = wb at o_i o_x hbw ⊢
      have qi_0 : wb.cell? ⟨w.heap.size, 0, none⟩ = some (.bool na) := o_i.cell 0
      have qi_1 : wb.cell? ⟨w.heap.size, 1, none⟩ = some (.string sa) := o_i.cell 1
      have qi_2 : wb.cell? ⟨w.heap.size, 2, none⟩ = some (.string ta) := o_i.cell 2
      have qi_3 : wb.cell? ⟨w.heap.size, 3, none⟩ = some (.bool nb) := o_i.cell 3
      have qi_4 : wb.cell? ⟨w.heap.size, 4, none⟩ = some (.string sb) := o_i.cell 4
      have qi_5 : wb.cell? ⟨w.heap.size, 5, none⟩ = some (.string tb) := o_i.cell 5
      have qx_0 : wb.cell? ⟨w.heap.size + 1, 0, none⟩ = some (.bool nx) := o_x.cell 0
      have qx_1 : wb.cell? ⟨w.heap.size + 1, 1, none⟩ = some (.string sx) := o_x.cell 1
      have qx_2 : wb.cell? ⟨w.heap.size + 1, 2, none⟩ = some (.string tx) := o_x.cell 2
      go_wp2_with fail
      clear qi_0 qi_1 qi_2 qi_3 qi_4 qi_5 qx_0 qx_1 qx_2
      refine (H1.out _).mono ?_
      rintro e w1 ⟨rfl, hb1⟩
      replace o_i := o_i.below hb1 o_i.lt
      replace o_x := o_x.below hb1 o_x.lt
      replace hbw := below6 hbw hb1
      clear hb1
      have qi_0 : w1.cell? ⟨w.heap.size, 0, none⟩ = some (.bool na) := o_i.cell 0
      have qi_1 : w1.cell? ⟨w.heap.size, 1, none⟩ = some (.string sa) := o_i.cell 1
      have qi_2 : w1.cell? ⟨w.heap.size, 2, none⟩ = some (.string ta) := o_i.cell 2
      have qi_3 : w1.cell? ⟨w.heap.size, 3, none⟩ = some (.bool nb) := o_i.cell 3
      have qi_4 : w1.cell? ⟨w.heap.size, 4, none⟩ = some (.string sb) := o_i.cell 4
      have qi_5 : w1.cell? ⟨w.heap.size, 5, none⟩ = some (.string tb) := o_i.cell 5
      have qx_0 : w1.cell? ⟨w.heap.size + 1, 0, none⟩ = some (.bool nx) := o_x.cell 0
      have qx_1 : w1.cell? ⟨w.heap.size + 1, 1, none⟩ = some (.string sx) := o_x.cell 1
      have qx_2 : w1.cell? ⟨w.heap.size + 1, 2, none⟩ = some (.string tx) := o_x.cell 2
      go_wp2_with fail
      clear qi_0 qi_1 qi_2 qi_3 qi_4 qi_5 qx_0 qx_1 qx_2
      refine (H2.out _).mono ?_
      rintro e w2 ⟨rfl, hb2⟩
      replace o_i := o_i.below hb2 o_i.lt
      replace o_x := o_x.below hb2 o_x.lt
      replace hbw := below6 hbw hb2
      clear hb2
      go_wp2
      go_ret
      exact ⟨rfl, hbw⟩
    · by_cases hz : z1 ≤ 0
      · have HZ : Hid (decide (z1 ≤ 0) = true) := decide_eq_true hz
        obtain ⟨o_i, o_x, hbw⟩ := new2 w [.bool na, .string sa, .string ta, .bool nb, .string sb, .string tb] [.bool nx, .string sx, .string tx] 37 29
        go_enter Tryd.func21, Tryd.ntmps21
        go_upto_region 1 with (fail)
        generalize ((w.alloc (.cells #[.bool na, .string sa, .string ta, .bool nb, .string sb, .string tb] 37)).alloc (.cells #[.bool nx, .string sx, .string tx] 29)) = wb at o_i o_x hbw ⊢
        have qi_0 : wb.cell? ⟨w.heap.size, 0, none⟩ = some (.bool na) := o_i.cell 0
        have qi_1 : wb.cell? ⟨w.heap.size, 1, none⟩ = some (.string sa) := o_i.cell 1
        have qi_2 : wb.cell? ⟨w.heap.size, 2, none⟩ = some (.string ta) := o_i.cell 2
        have qi_3 : wb.cell? ⟨w.heap.size, 3, none⟩ = some (.bool nb) := o_i.cell 3
        have qi_4 : wb.cell? ⟨w.heap.size, 4, none⟩ = some (.string sb) := o_i.cell 4
        have qi_5 : wb.cell? ⟨w.heap.size, 5, none⟩ = some (.string tb) := o_i.cell 5
        have qx_0 : wb.cell? ⟨w.heap.size + 1, 0, none⟩ = some (.bool nx) := o_x.cell 0
        have qx_1 : wb.cell? ⟨w.heap.size + 1, 1, none⟩ = some (.string sx) := o_x.cell 1
        have qx_2 : wb.cell? ⟨w.heap.size + 1, 2, none⟩ = some (.string tx) := o_x.cell 2
        go_wp2_with fail
        clear qi_0 qi_1 qi_2 qi_3 qi_4 qi_5 qx_0 qx_1 qx_2
        refine (H1.out _).mono ?_
        rintro e w1 ⟨rfl, hb1⟩
        replace o_i := o_i.below hb1 o_i.lt
        replace o_x := o_x.below hb1 o_x.lt
        replace hbw := below6 hbw hb1
        clear hb1
        have qi_0 : w1.cell? ⟨w.heap.size, 0, none⟩ = some (.bool na) := o_i.cell 0
        have qi_1 : w1.cell? ⟨w.heap.size, 1, none⟩ = some (.string sa) := o_i.cell 1
        have qi_2 : w1.cell? ⟨w.heap.size, 2, none⟩ = some (.string ta) := o_i.cell 2
        have qi_3 : w1.cell? ⟨w.heap.size, 3, none⟩ = some (.bool nb) := o_i.cell 3
        have qi_4 : w1.cell? ⟨w.heap.size, 4, none⟩ = some (.string sb) := o_i.cell 4
        have qi_5 : w1.cell? ⟨w.heap.size, 5, none⟩ = some (.string tb) := o_i.cell 5
        have qx_0 : w1.cell? ⟨w.heap.size + 1, 0, none⟩ = some (.bool nx) := o_x.cell 0
        have qx_1 : w1.cell? ⟨w.heap.size + 1, 1, none⟩ = some (.string sx) := o_x.cell 1
        have qx_2 : w1.cell? ⟨w.heap.size + 1, 2, none⟩ = some (.string tx) := o_x.cell 2
        go_wp2_with fail
        clear qi_0 qi_1 qi_2 qi_3 qi_4 qi_5 qx_0 qx_1 qx_2
        refine (H2.out _).mono ?_
        rintro e w2 ⟨rfl, hb2⟩
        replace o_i := o_i.below hb2 o_i.lt
        replace o_x := o_x.below hb2 o_x.lt
        replace hbw := below6 hbw hb2
        clear hb2
        have qi_0 : w2.cell? ⟨w.heap.size, 0, none⟩ = some (.bool na) := o_i.cell 0
        have qi_1 : w2.cell? ⟨w.heap.size, 1, none⟩ = some (.string sa) := o_i.cell 1
        have qi_2 : w2.cell? ⟨w.heap.size, 2, none⟩ = some (.string ta) := o_i.cell 2
        have qi_3 : w2.cell? ⟨w.heap.size, 3, none⟩ = some (.bool nb) := o_i.cell 3
        have qi_4 : w2.cell? ⟨w.heap.size, 4, none⟩ = some (.string sb) := o_i.cell 4
        have qi_5 : w2.cell? ⟨w.heap.size, 5, none⟩ = some (.string tb) := o_i.cell 5
        have qx_0 : w2.cell? ⟨w.heap.size + 1, 0, none⟩ = some (.bool nx) := o_x.cell 0
        have qx_1 : w2.cell? ⟨w.heap.size + 1, 1, none⟩ = some (.string sx) := o_x.cell 1
        have qx_2 : w2.cell? ⟨w.heap.size + 1, 2, none⟩ = some (.string tx) := o_x.cell 2
        go_wp2_with fail
        clear qi_0 qi_1 qi_2 qi_3 qi_4 qi_5 qx_0 qx_1 qx_2
        refine (H3.out (by simp) (by simp) _).mono ?_
        rintro e w3 ⟨rfl, hb3⟩
        replace o_i := o_i.below hb3 o_i.lt
        replace o_x := o_x.below hb3 o_x.lt
        replace hbw := below6 hbw hb3
        clear hb3
        have qi_0 : w3.cell? ⟨w.heap.size, 0, none⟩ = some (.bool na) := o_i.cell 0
        have qi_1 : w3.cell? ⟨w.heap.size, 1, none⟩ = some (.string sa) := o_i.cell 1
        have qi_2 : w3.cell? ⟨w.heap.size, 2, none⟩ = some (.string ta) := o_i.cell 2
        have qi_3 : w3.cell? ⟨w.heap.size, 3, none⟩ = some (.bool nb) := o_i.cell 3
        have qi_4 : w3.cell? ⟨w.heap.size, 4, none⟩ = some (.string sb) := o_i.cell 4
        have qi_5 : w3.cell? ⟨w.heap.size, 5, none⟩ = some (.string tb) := o_i.cell 5
        have qx_0 : w3.cell? ⟨w.heap.size + 1, 0, none⟩ = some (.bool nx) := o_x.cell 0
        have qx_1 : w3.cell? ⟨w.heap.size + 1, 1, none⟩ = some (.string sx) := o_x.cell 1
        have qx_2 : w3.cell? ⟨w.heap.size + 1, 2, none⟩ = some (.string tx) := o_x.cell 2
        go_wp2_with fail
        clear qi_0 qi_1 qi_2 qi_3 qi_4 qi_5 qx_0 qx_1 qx_2
        refine (H4.out (by simp) (by simp) _).mono ?_
        rintro e w4 ⟨rfl, hb4⟩
        replace o_i := o_i.below hb4 o_i.lt
        replace o_x := o_x.below hb4 o_x.lt
        replace hbw := below6 hbw hb4
        clear hb4
        go_wp2
        go_ret
        exact ⟨ret_bool (by rw [HZ.out]; rfl), hbw⟩
      · have HZ : Hid (decide (z1 ≤ 0) = false) := decide_eq_false hz
        obtain ⟨o_i, o_x, hbw⟩ := new2 w [.bool na, .string sa, .string ta, .bool nb, .string sb, .string tb] [.bool nx, .string sx, .string tx] 37 29
        go_enter Tryd.func21, Tryd.ntmps21
        go_upto_region 1 with (fail)
        generalize ((w.alloc (.cells #[.bool na, .string sa, .string ta, .bool nb, .string sb, .string tb] 37)).alloc (.cells #[.bool nx, .string sx, .string tx] 29)) = wb at o_i o_x hbw ⊢
        have qi_0 : wb.cell? ⟨w.heap.size, 0, none⟩ = some (.bool na) := o_i.cell 0
        have qi_1 : wb.cell? ⟨w.heap.size, 1, none⟩ = some (.string sa) := o_i.cell 1
        have qi_2 : wb.cell? ⟨w.heap.size, 2, none⟩ = some (.string ta) := o_i.cell 2
        have qi_3 : wb.cell? ⟨w.heap.size, 3, none⟩ = some (.bool nb) := o_i.cell 3
        have qi_4 : wb.cell? ⟨w.heap.size, 4, none⟩ = some (.string sb) := o_i.cell 4
        have qi_5 : wb.cell? ⟨w.heap.size, 5, none⟩ = some (.string tb) := o_i.cell 5
        have qx_0 : wb.cell? ⟨w.heap.size + 1, 0, none⟩ = some (.bool nx) := o_x.cell 0
        have qx_1 : wb.cell? ⟨w.heap.size + 1, 1, none⟩ = some (.string sx) := o_x.cell 1
        have qx_2 : wb.cell? ⟨w.heap.size + 1, 2, none⟩ = some (.string tx) := o_x.cell 2
        go_wp2_with fail
        clear qi_0 qi_1 qi_2 qi_3 qi_4 qi_5 qx_0 qx_1 qx_2
        refine (H1.out _).mono ?_
        rintro e w1 ⟨rfl, hb1⟩
        replace o_i := o_i.below hb1 o_i.lt
        replace o_x := o_x.below hb1 o_x.lt
        replace hbw := below6 hbw hb1
        clear hb1
        have qi_0 : w1.cell? ⟨w.heap.size, 0, none⟩ = some (.bool na) := o_i.cell 0
        have qi_1 : w1.cell? ⟨w.heap.size, 1, none⟩ = some (.string sa) := o_i.cell 1
        have qi_2 : w1.cell? ⟨w.heap.size, 2, none⟩ = some (.string ta) := o_i.cell 2
        have qi_3 : w1.cell? ⟨w.heap.size, 3, none⟩ = some (.bool nb) := o_i.cell 3
        have qi_4 : w1.cell? ⟨w.heap.size, 4, none⟩ = some (.string sb) := o_i.cell 4
        have qi_5 : w1.cell? ⟨w.heap.size, 5, none⟩ = some (.string tb) := o_i.cell 5
        have qx_0 : w1.cell? ⟨w.heap.size + 1, 0, none⟩ = some (.bool nx) := o_x.cell 0
        have qx_1 : w1.cell? ⟨w.heap.size + 1, 1, none⟩ = some (.string sx) := o_x.cell 1
        have qx_2 : w1.cell? ⟨w.heap.size + 1, 2, none⟩ = some (.string tx) := o_x.cell 2
        go_wp2_with fail
        clear qi_0 qi_1 qi_2 qi_3 qi_4 qi_5 qx_0 qx_1 qx_2
        refine (H2.out _).mono ?_
        rintro e w2 ⟨rfl, hb2⟩
        replace o_i := o_i.below hb2 o_i.lt
        replace o_x := o_x.below hb2 o_x.lt
        replace hbw := below6 hbw hb2
        clear hb2
        have qi_0 : w2.cell? ⟨w.heap.size, 0, none⟩ = some (.bool na) := o_i.cell 0
        have qi_1 : w2.cell? ⟨w.heap.size, 1, none⟩ = some (.string sa) := o_i.cell 1
        have qi_2 : w2.cell? ⟨w.heap.size, 2, none⟩ = some (.string ta) := o_i.cell 2
        have qi_3 : w2.cell? ⟨w.heap.size, 3, none⟩ = some (.bool nb) := o_i.cell 3
        have qi_4 : w2.cell? ⟨w.heap.size, 4, none⟩ = some (.string sb) := o_i.cell 4
        have qi_5 : w2.cell? ⟨w.heap.size, 5, none⟩ = some (.string tb) := o_i.cell 5
        have qx_0 : w2.cell? ⟨w.heap.size + 1, 0, none⟩ = some (.bool nx) := o_x.cell 0
        have qx_1 : w2.cell? ⟨w.heap.size + 1, 1, none⟩ = some (.string sx) := o_x.cell 1
        have qx_2 : w2.cell? ⟨w.heap.size + 1, 2, none⟩ = some (.string tx) := o_x.cell 2
        go_wp2_with fail
        clear qi_0 qi_1 qi_2 qi_3 qi_4 qi_5 qx_0 qx_1 qx_2
        refine (H3.out (by simp) (by simp) _).mono ?_
        rintro e w3 ⟨rfl, hb3⟩
        replace o_i := o_i.below hb3 o_i.lt
        replace o_x := o_x.below hb3 o_x.lt
        replace hbw := below6 hbw hb3
        clear hb3
        go_wp2
        go_ret
        exact ⟨ret_bool (by rw [HZ.out]; rfl), hbw⟩
set_option maxRecDepth 100000 in
set_option maxHeartbeats 4000000 in
theorem ends_0 (na : Bool) (sa ta : ByteArray) (nb : Bool) (sb tb : ByteArray)   :
    RetV 57 #[.agg #[.bool na, .string sa, .string ta], .int .i64 0, .agg #[.bool nb, .string sb, .string tb], .int .i64 0] (.tuple #[.agg #[.bool na, .string sa, .string ta, .bool nb, .string sb, .string tb], .int .i64 0]) := by
  intro w
  obtain ⟨o_a, o_b, o_r, hbw⟩ := new3 w [.bool na, .string sa, .string ta] [.bool nb, .string sb, .string tb] [.bool false, .string ⟨#[]⟩, .string ⟨#[]⟩, .bool false, .string ⟨#[]⟩, .string ⟨#[]⟩] 29 29 37
  go_enter Tryd.func57, Tryd.ntmps57
  go_upto_region 1 with (fail)
  generalize (((w.alloc (.cells #[.bool na, .string sa, .string ta] 29)).alloc (.cells #[.bool nb, .string sb, .string tb] 29)).alloc (.cells #[.bool false, .string ⟨#[]⟩, .string ⟨#[]⟩, .bool false, .string ⟨#[]⟩, .string ⟨#[]⟩] 37)) = wb at o_a o_b o_r hbw ⊢
  have qa_0 : wb.cell? ⟨w.heap.size, 0, none⟩ = some (.bool na) := o_a.cell 0
  have qa_1 : wb.cell? ⟨w.heap.size, 1, none⟩ = some (.string sa) := o_a.cell 1
  have qa_2 : wb.cell? ⟨w.heap.size, 2, none⟩ = some (.string ta) := o_a.cell 2
  have qb_0 : wb.cell? ⟨w.heap.size + 1, 0, none⟩ = some (.bool nb) := o_b.cell 0
  have qb_1 : wb.cell? ⟨w.heap.size + 1, 1, none⟩ = some (.string sb) := o_b.cell 1
  have qb_2 : wb.cell? ⟨w.heap.size + 1, 2, none⟩ = some (.string tb) := o_b.cell 2
  have qr_0 : wb.cell? ⟨w.heap.size + 1 + 1, 0, none⟩ = some (.bool false) := o_r.cell 0
  have qr_1 : wb.cell? ⟨w.heap.size + 1 + 1, 1, none⟩ = some (.string ⟨#[]⟩) := o_r.cell 1
  have qr_2 : wb.cell? ⟨w.heap.size + 1 + 1, 2, none⟩ = some (.string ⟨#[]⟩) := o_r.cell 2
  have qr_3 : wb.cell? ⟨w.heap.size + 1 + 1, 3, none⟩ = some (.bool false) := o_r.cell 3
  have qr_4 : wb.cell? ⟨w.heap.size + 1 + 1, 4, none⟩ = some (.string ⟨#[]⟩) := o_r.cell 4
  have qr_5 : wb.cell? ⟨w.heap.size + 1 + 1, 5, none⟩ = some (.string ⟨#[]⟩) := o_r.cell 5
  have fr_0 := o_r.frozen 0
  have fr_1 := o_r.frozen 1
  have fr_2 := o_r.frozen 2
  have fr_3 := o_r.frozen 3
  have fr_4 := o_r.frozen 4
  have fr_5 := o_r.frozen 5
  have oz := o_r.set6 (.bool na) (.string sa) (.string ta) (.bool nb) (.string sb) (.string tb)
  have sz9 := Below.set6 hbw (g := w.heap.size + 1 + 1) (by omega) (.bool na) (.string sa) (.string ta) (.bool nb) (.string sb) (.string tb)
  go_wp2_with fail
  generalize ((((((wb.setCell ⟨w.heap.size + 1 + 1, 0, none⟩ (.bool na)).setCell ⟨w.heap.size + 1 + 1, 1, none⟩ (.string sa)).setCell ⟨w.heap.size + 1 + 1, 2, none⟩ (.string ta)).setCell ⟨w.heap.size + 1 + 1, 3, none⟩ (.bool nb)).setCell ⟨w.heap.size + 1 + 1, 4, none⟩ (.string sb)).setCell ⟨w.heap.size + 1 + 1, 5, none⟩ (.string tb)) = wz at oz sz9 ⊢
  have z0 : wz.cell? ⟨w.heap.size + 1 + 1, 0, none⟩ = some (.bool na) := oz.cell 0
  have z1 : wz.cell? ⟨w.heap.size + 1 + 1, 1, none⟩ = some (.string sa) := oz.cell 1
  have z2 : wz.cell? ⟨w.heap.size + 1 + 1, 2, none⟩ = some (.string ta) := oz.cell 2
  have z3 : wz.cell? ⟨w.heap.size + 1 + 1, 3, none⟩ = some (.bool nb) := oz.cell 3
  have z4 : wz.cell? ⟨w.heap.size + 1 + 1, 4, none⟩ = some (.string sb) := oz.cell 4
  have z5 : wz.cell? ⟨w.heap.size + 1 + 1, 5, none⟩ = some (.string tb) := oz.cell 5
  exact bodyPost_ret (v := .tuple #[.agg #[.bool na, .string sa, .string ta, .bool nb, .string sb, .string tb], .int .i64 0]) (by simp [results, Tryd.results57, go_sem, z0, z1, z2, z3, z4, z5]) rfl ⟨rfl, sz9⟩
set_option maxRecDepth 100000 in
set_option maxHeartbeats 4000000 in
theorem ends_1 (na : Bool) (sa ta : ByteArray) (nb : Bool) (sb tb : ByteArray) (e f : Int) (h1 : (e != 0) = true) :
    RetV 57 #[.agg #[.bool na, .string sa, .string ta], .int .i64 e, .agg #[.bool nb, .string sb, .string tb], .int .i64 f] (.tuple #[.agg #[.bool false, .string ⟨#[]⟩, .string ⟨#[]⟩, .bool false, .string ⟨#[]⟩, .string ⟨#[]⟩], .int .i64 e]) := by
  intro w
  obtain ⟨o_a, o_b, o_r, hbw⟩ := new3 w [.bool na, .string sa, .string ta] [.bool nb, .string sb, .string tb] [.bool false, .string ⟨#[]⟩, .string ⟨#[]⟩, .bool false, .string ⟨#[]⟩, .string ⟨#[]⟩] 29 29 37
  go_enter Tryd.func57, Tryd.ntmps57
  go_upto_region 1 with (fail)
  generalize (((w.alloc (.cells #[.bool na, .string sa, .string ta] 29)).alloc (.cells #[.bool nb, .string sb, .string tb] 29)).alloc (.cells #[.bool false, .string ⟨#[]⟩, .string ⟨#[]⟩, .bool false, .string ⟨#[]⟩, .string ⟨#[]⟩] 37)) = wb at o_a o_b o_r hbw ⊢
  have qa_0 : wb.cell? ⟨w.heap.size, 0, none⟩ = some (.bool na) := o_a.cell 0
  have qa_1 : wb.cell? ⟨w.heap.size, 1, none⟩ = some (.string sa) := o_a.cell 1
  have qa_2 : wb.cell? ⟨w.heap.size, 2, none⟩ = some (.string ta) := o_a.cell 2
  have qb_0 : wb.cell? ⟨w.heap.size + 1, 0, none⟩ = some (.bool nb) := o_b.cell 0
  have qb_1 : wb.cell? ⟨w.heap.size + 1, 1, none⟩ = some (.string sb) := o_b.cell 1
  have qb_2 : wb.cell? ⟨w.heap.size + 1, 2, none⟩ = some (.string tb) := o_b.cell 2
  have qr_0 : wb.cell? ⟨w.heap.size + 1 + 1, 0, none⟩ = some (.bool false) := o_r.cell 0
  have qr_1 : wb.cell? ⟨w.heap.size + 1 + 1, 1, none⟩ = some (.string ⟨#[]⟩) := o_r.cell 1
  have qr_2 : wb.cell? ⟨w.heap.size + 1 + 1, 2, none⟩ = some (.string ⟨#[]⟩) := o_r.cell 2
  have qr_3 : wb.cell? ⟨w.heap.size + 1 + 1, 3, none⟩ = some (.bool false) := o_r.cell 3
  have qr_4 : wb.cell? ⟨w.heap.size + 1 + 1, 4, none⟩ = some (.string ⟨#[]⟩) := o_r.cell 4
  have qr_5 : wb.cell? ⟨w.heap.size + 1 + 1, 5, none⟩ = some (.string ⟨#[]⟩) := o_r.cell 5
  have fr_0 := o_r.frozen 0
  have fr_1 := o_r.frozen 1
  have fr_2 := o_r.frozen 2
  have fr_3 := o_r.frozen 3
  have fr_4 := o_r.frozen 4
  have fr_5 := o_r.frozen 5
  have oz := o_r.set6 (.bool false) (.string ⟨#[]⟩) (.string ⟨#[]⟩) (.bool false) (.string ⟨#[]⟩) (.string ⟨#[]⟩)
  have sz9 := Below.set6 hbw (g := w.heap.size + 1 + 1) (by omega) (.bool false) (.string ⟨#[]⟩) (.string ⟨#[]⟩) (.bool false) (.string ⟨#[]⟩) (.string ⟨#[]⟩)
  go_wp2_with fail
  generalize ((((((wb.setCell ⟨w.heap.size + 1 + 1, 0, none⟩ (.bool false)).setCell ⟨w.heap.size + 1 + 1, 1, none⟩ (.string ⟨#[]⟩)).setCell ⟨w.heap.size + 1 + 1, 2, none⟩ (.string ⟨#[]⟩)).setCell ⟨w.heap.size + 1 + 1, 3, none⟩ (.bool false)).setCell ⟨w.heap.size + 1 + 1, 4, none⟩ (.string ⟨#[]⟩)).setCell ⟨w.heap.size + 1 + 1, 5, none⟩ (.string ⟨#[]⟩)) = wz at oz sz9 ⊢
  have z0 : wz.cell? ⟨w.heap.size + 1 + 1, 0, none⟩ = some (.bool false) := oz.cell 0
  have z1 : wz.cell? ⟨w.heap.size + 1 + 1, 1, none⟩ = some (.string ⟨#[]⟩) := oz.cell 1
  have z2 : wz.cell? ⟨w.heap.size + 1 + 1, 2, none⟩ = some (.string ⟨#[]⟩) := oz.cell 2
  have z3 : wz.cell? ⟨w.heap.size + 1 + 1, 3, none⟩ = some (.bool false) := oz.cell 3
  have z4 : wz.cell? ⟨w.heap.size + 1 + 1, 4, none⟩ = some (.string ⟨#[]⟩) := oz.cell 4
  have z5 : wz.cell? ⟨w.heap.size + 1 + 1, 5, none⟩ = some (.string ⟨#[]⟩) := oz.cell 5
  exact bodyPost_ret (v := .tuple #[.agg #[.bool false, .string ⟨#[]⟩, .string ⟨#[]⟩, .bool false, .string ⟨#[]⟩, .string ⟨#[]⟩], .int .i64 e]) (by simp [results, Tryd.results57, go_sem, z0, z1, z2, z3, z4, z5]) rfl ⟨rfl, sz9⟩
set_option maxRecDepth 100000 in
set_option maxHeartbeats 4000000 in
theorem ends_2 (na : Bool) (sa ta : ByteArray) (nb : Bool) (sb tb : ByteArray) (f : Int) (h1 : (f != 0) = true) :
    RetV 57 #[.agg #[.bool na, .string sa, .string ta], .int .i64 0, .agg #[.bool nb, .string sb, .string tb], .int .i64 f] (.tuple #[.agg #[.bool false, .string ⟨#[]⟩, .string ⟨#[]⟩, .bool false, .string ⟨#[]⟩, .string ⟨#[]⟩], .int .i64 f]) := by
  intro w
  obtain ⟨o_a, o_b, o_r, hbw⟩ := new3 w [.bool na, .string sa, .string ta] [.bool nb, .string sb, .string tb] [.bool false, .string ⟨#[]⟩, .string ⟨#[]⟩, .bool false, .string ⟨#[]⟩, .string ⟨#[]⟩] 29 29 37
  go_enter Tryd.func57, Tryd.ntmps57
  go_upto_region 1 with (fail)
  generalize (((w.alloc (.cells #[.bool na, .string sa, .string ta] 29)).alloc (.cells #[.bool nb, .string sb, .string tb] 29)).alloc (.cells #[.bool false, .string ⟨#[]⟩, .string ⟨#[]⟩, .bool false, .string ⟨#[]⟩, .string ⟨#[]⟩] 37)) = wb at o_a o_b o_r hbw ⊢
  have qa_0 : wb.cell? ⟨w.heap.size, 0, none⟩ = some (.bool na) := o_a.cell 0
  have qa_1 : wb.cell? ⟨w.heap.size, 1, none⟩ = some (.string sa) := o_a.cell 1
  have qa_2 : wb.cell? ⟨w.heap.size, 2, none⟩ = some (.string ta) := o_a.cell 2
  have qb_0 : wb.cell? ⟨w.heap.size + 1, 0, none⟩ = some (.bool nb) := o_b.cell 0
  have qb_1 : wb.cell? ⟨w.heap.size + 1, 1, none⟩ = some (.string sb) := o_b.cell 1
  have qb_2 : wb.cell? ⟨w.heap.size + 1, 2, none⟩ = some (.string tb) := o_b.cell 2
  have qr_0 : wb.cell? ⟨w.heap.size + 1 + 1, 0, none⟩ = some (.bool false) := o_r.cell 0
  have qr_1 : wb.cell? ⟨w.heap.size + 1 + 1, 1, none⟩ = some (.string ⟨#[]⟩) := o_r.cell 1
  have qr_2 : wb.cell? ⟨w.heap.size + 1 + 1, 2, none⟩ = some (.string ⟨#[]⟩) := o_r.cell 2
  have qr_3 : wb.cell? ⟨w.heap.size + 1 + 1, 3, none⟩ = some (.bool false) := o_r.cell 3
  have qr_4 : wb.cell? ⟨w.heap.size + 1 + 1, 4, none⟩ = some (.string ⟨#[]⟩) := o_r.cell 4
  have qr_5 : wb.cell? ⟨w.heap.size + 1 + 1, 5, none⟩ = some (.string ⟨#[]⟩) := o_r.cell 5
  have fr_0 := o_r.frozen 0
  have fr_1 := o_r.frozen 1
  have fr_2 := o_r.frozen 2
  have fr_3 := o_r.frozen 3
  have fr_4 := o_r.frozen 4
  have fr_5 := o_r.frozen 5
  have oz := o_r.set6 (.bool false) (.string ⟨#[]⟩) (.string ⟨#[]⟩) (.bool false) (.string ⟨#[]⟩) (.string ⟨#[]⟩)
  have sz9 := Below.set6 hbw (g := w.heap.size + 1 + 1) (by omega) (.bool false) (.string ⟨#[]⟩) (.string ⟨#[]⟩) (.bool false) (.string ⟨#[]⟩) (.string ⟨#[]⟩)
  go_wp2_with fail
  generalize ((((((wb.setCell ⟨w.heap.size + 1 + 1, 0, none⟩ (.bool false)).setCell ⟨w.heap.size + 1 + 1, 1, none⟩ (.string ⟨#[]⟩)).setCell ⟨w.heap.size + 1 + 1, 2, none⟩ (.string ⟨#[]⟩)).setCell ⟨w.heap.size + 1 + 1, 3, none⟩ (.bool false)).setCell ⟨w.heap.size + 1 + 1, 4, none⟩ (.string ⟨#[]⟩)).setCell ⟨w.heap.size + 1 + 1, 5, none⟩ (.string ⟨#[]⟩)) = wz at oz sz9 ⊢
  have z0 : wz.cell? ⟨w.heap.size + 1 + 1, 0, none⟩ = some (.bool false) := oz.cell 0
  have z1 : wz.cell? ⟨w.heap.size + 1 + 1, 1, none⟩ = some (.string ⟨#[]⟩) := oz.cell 1
  have z2 : wz.cell? ⟨w.heap.size + 1 + 1, 2, none⟩ = some (.string ⟨#[]⟩) := oz.cell 2
  have z3 : wz.cell? ⟨w.heap.size + 1 + 1, 3, none⟩ = some (.bool false) := oz.cell 3
  have z4 : wz.cell? ⟨w.heap.size + 1 + 1, 4, none⟩ = some (.string ⟨#[]⟩) := oz.cell 4
  have z5 : wz.cell? ⟨w.heap.size + 1 + 1, 5, none⟩ = some (.string ⟨#[]⟩) := oz.cell 5
  exact bodyPost_ret (v := .tuple #[.agg #[.bool false, .string ⟨#[]⟩, .string ⟨#[]⟩, .bool false, .string ⟨#[]⟩, .string ⟨#[]⟩], .int .i64 f]) (by simp [results, Tryd.results57, go_sem, z0, z1, z2, z3, z4, z5]) rfl ⟨rfl, sz9⟩
end Go.Proofs.YtopfcfbiaadfeaaDoor
