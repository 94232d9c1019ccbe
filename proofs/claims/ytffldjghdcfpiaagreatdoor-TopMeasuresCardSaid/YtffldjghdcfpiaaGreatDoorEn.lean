/- Parts of the proof: En. No condition of its own. -/
import Derived.Test.YtffldjghdcfpiaaGreatDoorJb
set_option linter.unusedSimpArgs false
set_option linter.unusedVariables false
set_option linter.unusedSectionVars false
set_option maxRecDepth 100000
set_option maxHeartbeats 4000000
namespace Go.Proofs.YtffldjghdcfpiaaGreatDoor
open Go.RowKit Dg

def RetV (f : FuncId) (args : Array Value) (v : Value) : Prop := ∀ w, Calls Tryz.prog f args w fun e w' => e = .returned v ∧ Below w.heap.size w w'
theorem Own.set6 {w : World} {g : Nat} {t : TypeId} {a b c d e f : Value} (h : Own w g t [a, b, c, d, e, f]) (u v x y z q : Value) :
    Own ((((((w.setCell ⟨g, 0, none⟩ u).setCell ⟨g, 1, none⟩ v).setCell ⟨g, 2, none⟩ x).setCell ⟨g, 3, none⟩ y).setCell ⟨g, 4, none⟩ z).setCell ⟨g, 5, none⟩ q) g t [u, v, x, y, z, q] :=
  (((((h.set_ 0 u).set_ 1 v).set_ 2 x).set_ 3 y).set_ 4 z).set_ 5 q
theorem Below.set6 {B : Nat} {w w' : World} (h : Below B w w') {g : Nat} (hg : B ≤ g) (u v x y z q : Value) :
    Below B w ((((((w'.setCell ⟨g, 0, none⟩ u).setCell ⟨g, 1, none⟩ v).setCell ⟨g, 2, none⟩ x).setCell ⟨g, 3, none⟩ y).setCell ⟨g, 4, none⟩ z).setCell ⟨g, 5, none⟩ q) :=
  (((((h.setCell hg u).setCell hg v).setCell hg x).setCell hg y).setCell hg z).setCell hg q
theorem new4 (w : World) (c1 c2 c3 c4 : List Value) (t1 t2 t3 t4 : TypeId) :
    Own ((((w.alloc (.cells c1.toArray t1)).alloc (.cells c2.toArray t2)).alloc (.cells c3.toArray t3)).alloc (.cells c4.toArray t4)) w.heap.size t1 c1 ∧ Own ((((w.alloc (.cells c1.toArray t1)).alloc (.cells c2.toArray t2)).alloc (.cells c3.toArray t3)).alloc (.cells c4.toArray t4)) (w.heap.size + 1) t2 c2 ∧
    Own ((((w.alloc (.cells c1.toArray t1)).alloc (.cells c2.toArray t2)).alloc (.cells c3.toArray t3)).alloc (.cells c4.toArray t4)) (w.heap.size + 1 + 1) t3 c3 ∧ Own ((((w.alloc (.cells c1.toArray t1)).alloc (.cells c2.toArray t2)).alloc (.cells c3.toArray t3)).alloc (.cells c4.toArray t4)) (w.heap.size + 1 + 1 + 1) t4 c4 ∧
    Below w.heap.size w ((((w.alloc (.cells c1.toArray t1)).alloc (.cells c2.toArray t2)).alloc (.cells c3.toArray t3)).alloc (.cells c4.toArray t4)) := by
  obtain ⟨h1, h2, h3, h4⟩ := new3 w c1 c2 c3 t1 t2 t3; have hs : (((w.alloc (.cells c1.toArray t1)).alloc (.cells c2.toArray t2)).alloc (.cells c3.toArray t3)).heap.size = w.heap.size + 1 + 1 + 1 := by simp
  refine ⟨h1.alloc _, h2.alloc _, h3.alloc _, ?_, h4.alloc (by rw [hs]; omega) _⟩; have := Own.new (((w.alloc (.cells c1.toArray t1)).alloc (.cells c2.toArray t2)).alloc (.cells c3.toArray t3)) t4 c4; rw [hs] at this; exact this
theorem evalid_core (na : Bool) (sa ta : ByteArray) (nb : Bool) (sb tb : ByteArray) (b1 b2 : Bool) (z : Int) (h1 : RetV 35 #[.agg #[.bool na, .string sa, .string ta]] (.bool b1)) (h2 : RetV 35 #[.agg #[.bool nb, .string sb, .string tb]] (.bool b2)) (h3 : b1 = true → b2 = true → RetV 11 #[.agg #[.bool na, .string sa, .string ta], .agg #[.bool nb, .string sb, .string tb]] (.int .i64 z)) :
    RetV 32 #[.agg #[.bool na, .string sa, .string ta, .bool nb, .string sb, .string tb]] (.bool (b1 && (b2 && decide (z ≤ 0)))) := by
  intro w; have H1 := Lib.hid h1; have H2 := Lib.hid h2; have H3 := Lib.hid h3; clear h1 h2 h3
  cases b1
  · obtain ⟨o_x, hbw⟩ := new1 w [.bool na, .string sa, .string ta, .bool nb, .string sb, .string tb] 34
    go_enter Tryz.func32, Tryz.ntmps32
    go_upto_region 1 with (fail)
    generalize (w.alloc (.cells #[.bool na, .string sa, .string ta, .bool nb, .string sb, .string tb] 34)) = wb at o_x hbw ⊢; obtain ⟨qx_0, qx_1, qx_2, qx_3, qx_4, qx_5⟩ := o_x.cells6
    go_wp2_with fail
    clear qx_0 qx_1 qx_2 qx_3 qx_4 qx_5; refine (H1.out _).mono ?_; rintro e w1 ⟨rfl, hb1⟩; replace o_x := o_x.below hb1 o_x.lt; replace hbw := below6 hbw hb1; clear hb1
    go_wp2
    go_ret
    exact ⟨rfl, hbw⟩
  · cases b2
    · obtain ⟨o_x, hbw⟩ := new1 w [.bool na, .string sa, .string ta, .bool nb, .string sb, .string tb] 34
      go_enter Tryz.func32, Tryz.ntmps32
      go_upto_region 1 with (fail)
      generalize (w.alloc (.cells #[.bool na, .string sa, .string ta, .bool nb, .string sb, .string tb] 34)) = wb at o_x hbw ⊢; obtain ⟨qx_0, qx_1, qx_2, qx_3, qx_4, qx_5⟩ := o_x.cells6
      go_wp2_with fail
      clear qx_0 qx_1 qx_2 qx_3 qx_4 qx_5; refine (H1.out _).mono ?_; rintro e w1 ⟨rfl, hb1⟩; replace o_x := o_x.below hb1 o_x.lt; replace hbw := below6 hbw hb1; clear hb1; obtain ⟨qx_0, qx_1, qx_2, qx_3, qx_4, qx_5⟩ := o_x.cells6
      go_wp2_with fail
      clear qx_0 qx_1 qx_2 qx_3 qx_4 qx_5; refine (H2.out _).mono ?_; rintro e w2 ⟨rfl, hb2⟩; replace o_x := o_x.below hb2 o_x.lt; replace hbw := below6 hbw hb2; clear hb2
      go_wp2
      go_ret
      exact ⟨rfl, hbw⟩
    · obtain ⟨o_x, hbw⟩ := new1 w [.bool na, .string sa, .string ta, .bool nb, .string sb, .string tb] 34
      go_enter Tryz.func32, Tryz.ntmps32
      go_upto_region 1 with (fail)
      generalize (w.alloc (.cells #[.bool na, .string sa, .string ta, .bool nb, .string sb, .string tb] 34)) = wb at o_x hbw ⊢; obtain ⟨qx_0, qx_1, qx_2, qx_3, qx_4, qx_5⟩ := o_x.cells6
      go_wp2_with fail
      clear qx_0 qx_1 qx_2 qx_3 qx_4 qx_5; refine (H1.out _).mono ?_; rintro e w1 ⟨rfl, hb1⟩; replace o_x := o_x.below hb1 o_x.lt; replace hbw := below6 hbw hb1; clear hb1; obtain ⟨qx_0, qx_1, qx_2, qx_3, qx_4, qx_5⟩ := o_x.cells6
      go_wp2_with fail
      clear qx_0 qx_1 qx_2 qx_3 qx_4 qx_5; refine (H2.out _).mono ?_; rintro e w2 ⟨rfl, hb2⟩; replace o_x := o_x.below hb2 o_x.lt; replace hbw := below6 hbw hb2; clear hb2; obtain ⟨qx_0, qx_1, qx_2, qx_3, qx_4, qx_5⟩ := o_x.cells6
      go_wp2_with fail
      clear qx_0 qx_1 qx_2 qx_3 qx_4 qx_5; refine (H3.out (by simp) (by simp) _).mono ?_; rintro e w3 ⟨rfl, hb3⟩; replace o_x := o_x.below hb3 o_x.lt; replace hbw := below6 hbw hb3; clear hb3
      go_wp2
      go_ret
      exact ⟨rfl, hbw⟩
theorem econtains_core (na : Bool) (sa ta : ByteArray) (nb : Bool) (sb tb : ByteArray) (nx : Bool) (sx tx : ByteArray) (v b : Bool) (z1 z2 : Int) (h1 : RetV 32 #[.agg #[.bool na, .string sa, .string ta, .bool nb, .string sb, .string tb]] (.bool v)) (h2 : RetV 35 #[.agg #[.bool nx, .string sx, .string tx]] (.bool b)) (h3 : v = true → b = true → RetV 11 #[.agg #[.bool na, .string sa, .string ta], .agg #[.bool nx, .string sx, .string tx]] (.int .i64 z1)) (h4 : v = true → b = true → RetV 11 #[.agg #[.bool nx, .string sx, .string tx], .agg #[.bool nb, .string sb, .string tb]] (.int .i64 z2)) :
    RetV 18 #[.agg #[.bool na, .string sa, .string ta, .bool nb, .string sb, .string tb], .agg #[.bool nx, .string sx, .string tx]] (.bool (v && (b && (decide (z1 ≤ 0) && decide (z2 ≤ 0))))) := by
  intro w; have H1 := Lib.hid h1; have H2 := Lib.hid h2; have H3 := Lib.hid h3; have H4 := Lib.hid h4; clear h1 h2 h3 h4
  cases v
  · skip
    obtain ⟨o_i, o_x, hbw⟩ := new2 w [.bool na, .string sa, .string ta, .bool nb, .string sb, .string tb] [.bool nx, .string sx, .string tx] 34 26
    go_enter Tryz.func18, Tryz.ntmps18
    go_upto_region 1 with (fail)
    generalize ((w.alloc (.cells #[.bool na, .string sa, .string ta, .bool nb, .string sb, .string tb] 34)).alloc (.cells #[.bool nx, .string sx, .string tx] 26)) = wb at o_i o_x hbw ⊢; obtain ⟨qi_0, qi_1, qi_2, qi_3, qi_4, qi_5⟩ := o_i.cells6; obtain ⟨qx_0, qx_1, qx_2⟩ := o_x.cells3
    go_wp2_with fail
    clear qi_0 qi_1 qi_2 qi_3 qi_4 qi_5 qx_0 qx_1 qx_2; refine (H1.out _).mono ?_; rintro e w1 ⟨rfl, hb1⟩; replace o_i := o_i.below hb1 o_i.lt; replace o_x := o_x.below hb1 o_x.lt; replace hbw := below6 hbw hb1; clear hb1
    go_wp2
    go_ret
    exact ⟨rfl, hbw⟩
  · cases b
    · skip
      obtain ⟨o_i, o_x, hbw⟩ := new2 w [.bool na, .string sa, .string ta, .bool nb, .string sb, .string tb] [.bool nx, .string sx, .string tx] 34 26
      go_enter Tryz.func18, Tryz.ntmps18
      go_upto_region 1 with (fail)
      generalize ((w.alloc (.cells #[.bool na, .string sa, .string ta, .bool nb, .string sb, .string tb] 34)).alloc (.cells #[.bool nx, .string sx, .string tx] 26)) = wb at o_i o_x hbw ⊢; obtain ⟨qi_0, qi_1, qi_2, qi_3, qi_4, qi_5⟩ := o_i.cells6; obtain ⟨qx_0, qx_1, qx_2⟩ := o_x.cells3
      go_wp2_with fail
      clear qi_0 qi_1 qi_2 qi_3 qi_4 qi_5 qx_0 qx_1 qx_2; refine (H1.out _).mono ?_; rintro e w1 ⟨rfl, hb1⟩; replace o_i := o_i.below hb1 o_i.lt; replace o_x := o_x.below hb1 o_x.lt; replace hbw := below6 hbw hb1; clear hb1; obtain ⟨qi_0, qi_1, qi_2, qi_3, qi_4, qi_5⟩ := o_i.cells6; obtain ⟨qx_0, qx_1, qx_2⟩ := o_x.cells3
      go_wp2_with fail
      clear qi_0 qi_1 qi_2 qi_3 qi_4 qi_5 qx_0 qx_1 qx_2; refine (H2.out _).mono ?_; rintro e w2 ⟨rfl, hb2⟩; replace o_i := o_i.below hb2 o_i.lt; replace o_x := o_x.below hb2 o_x.lt; replace hbw := below6 hbw hb2; clear hb2
      go_wp2
      go_ret
      exact ⟨rfl, hbw⟩
    · by_cases hz : z1 ≤ 0
      · have HZ : Hid (decide (z1 ≤ 0) = true) := decide_eq_true hz; obtain ⟨o_i, o_x, hbw⟩ := new2 w [.bool na, .string sa, .string ta, .bool nb, .string sb, .string tb] [.bool nx, .string sx, .string tx] 34 26
        go_enter Tryz.func18, Tryz.ntmps18
        go_upto_region 1 with (fail)
        generalize ((w.alloc (.cells #[.bool na, .string sa, .string ta, .bool nb, .string sb, .string tb] 34)).alloc (.cells #[.bool nx, .string sx, .string tx] 26)) = wb at o_i o_x hbw ⊢; obtain ⟨qi_0, qi_1, qi_2, qi_3, qi_4, qi_5⟩ := o_i.cells6; obtain ⟨qx_0, qx_1, qx_2⟩ := o_x.cells3
        go_wp2_with fail
        clear qi_0 qi_1 qi_2 qi_3 qi_4 qi_5 qx_0 qx_1 qx_2; refine (H1.out _).mono ?_; rintro e w1 ⟨rfl, hb1⟩; replace o_i := o_i.below hb1 o_i.lt; replace o_x := o_x.below hb1 o_x.lt; replace hbw := below6 hbw hb1; clear hb1; obtain ⟨qi_0, qi_1, qi_2, qi_3, qi_4, qi_5⟩ := o_i.cells6; obtain ⟨qx_0, qx_1, qx_2⟩ := o_x.cells3
        go_wp2_with fail
        clear qi_0 qi_1 qi_2 qi_3 qi_4 qi_5 qx_0 qx_1 qx_2; refine (H2.out _).mono ?_; rintro e w2 ⟨rfl, hb2⟩; replace o_i := o_i.below hb2 o_i.lt; replace o_x := o_x.below hb2 o_x.lt; replace hbw := below6 hbw hb2; clear hb2; obtain ⟨qi_0, qi_1, qi_2, qi_3, qi_4, qi_5⟩ := o_i.cells6; obtain ⟨qx_0, qx_1, qx_2⟩ := o_x.cells3
        go_wp2_with fail
        clear qi_0 qi_1 qi_2 qi_3 qi_4 qi_5 qx_0 qx_1 qx_2; refine (H3.out (by simp) (by simp) _).mono ?_; rintro e w3 ⟨rfl, hb3⟩; replace o_i := o_i.below hb3 o_i.lt; replace o_x := o_x.below hb3 o_x.lt; replace hbw := below6 hbw hb3; clear hb3; obtain ⟨qi_0, qi_1, qi_2, qi_3, qi_4, qi_5⟩ := o_i.cells6; obtain ⟨qx_0, qx_1, qx_2⟩ := o_x.cells3
        go_wp2_with fail
        clear qi_0 qi_1 qi_2 qi_3 qi_4 qi_5 qx_0 qx_1 qx_2; refine (H4.out (by simp) (by simp) _).mono ?_; rintro e w4 ⟨rfl, hb4⟩; replace o_i := o_i.below hb4 o_i.lt; replace o_x := o_x.below hb4 o_x.lt; replace hbw := below6 hbw hb4; clear hb4
        go_wp2
        go_ret
        exact ⟨ret_bool (by rw [HZ.out]; rfl), hbw⟩
      · have HZ : Hid (decide (z1 ≤ 0) = false) := decide_eq_false hz; obtain ⟨o_i, o_x, hbw⟩ := new2 w [.bool na, .string sa, .string ta, .bool nb, .string sb, .string tb] [.bool nx, .string sx, .string tx] 34 26
        go_enter Tryz.func18, Tryz.ntmps18
        go_upto_region 1 with (fail)
        generalize ((w.alloc (.cells #[.bool na, .string sa, .string ta, .bool nb, .string sb, .string tb] 34)).alloc (.cells #[.bool nx, .string sx, .string tx] 26)) = wb at o_i o_x hbw ⊢; obtain ⟨qi_0, qi_1, qi_2, qi_3, qi_4, qi_5⟩ := o_i.cells6; obtain ⟨qx_0, qx_1, qx_2⟩ := o_x.cells3
        go_wp2_with fail
        clear qi_0 qi_1 qi_2 qi_3 qi_4 qi_5 qx_0 qx_1 qx_2; refine (H1.out _).mono ?_; rintro e w1 ⟨rfl, hb1⟩; replace o_i := o_i.below hb1 o_i.lt; replace o_x := o_x.below hb1 o_x.lt; replace hbw := below6 hbw hb1; clear hb1; obtain ⟨qi_0, qi_1, qi_2, qi_3, qi_4, qi_5⟩ := o_i.cells6; obtain ⟨qx_0, qx_1, qx_2⟩ := o_x.cells3
        go_wp2_with fail
        clear qi_0 qi_1 qi_2 qi_3 qi_4 qi_5 qx_0 qx_1 qx_2; refine (H2.out _).mono ?_; rintro e w2 ⟨rfl, hb2⟩; replace o_i := o_i.below hb2 o_i.lt; replace o_x := o_x.below hb2 o_x.lt; replace hbw := below6 hbw hb2; clear hb2; obtain ⟨qi_0, qi_1, qi_2, qi_3, qi_4, qi_5⟩ := o_i.cells6; obtain ⟨qx_0, qx_1, qx_2⟩ := o_x.cells3
        go_wp2_with fail
        clear qi_0 qi_1 qi_2 qi_3 qi_4 qi_5 qx_0 qx_1 qx_2; refine (H3.out (by simp) (by simp) _).mono ?_; rintro e w3 ⟨rfl, hb3⟩; replace o_i := o_i.below hb3 o_i.lt; replace o_x := o_x.below hb3 o_x.lt; replace hbw := below6 hbw hb3; clear hb3
        go_wp2
        go_ret
        exact ⟨ret_bool (by rw [HZ.out]; rfl), hbw⟩
theorem ecompare_core (na : Bool) (sa ta : ByteArray) (nb : Bool) (sb tb : ByteArray) (nc : Bool) (sc tc : ByteArray) (nd : Bool) (sd td : ByteArray) (v1 v2 : Bool) (z1 z2 : Int) (h1 : RetV 32 #[.agg #[.bool na, .string sa, .string ta, .bool nb, .string sb, .string tb]] (.bool v1)) (h2 : RetV 32 #[.agg #[.bool nc, .string sc, .string tc, .bool nd, .string sd, .string td]] (.bool v2)) (h3 : v1 = true → v2 = true → RetV 11 #[.agg #[.bool nb, .string sb, .string tb], .agg #[.bool nc, .string sc, .string tc]] (.int .i64 z1)) (h4 : v1 = true → v2 = true → RetV 11 #[.agg #[.bool nd, .string sd, .string td], .agg #[.bool na, .string sa, .string ta]] (.int .i64 z2)) :
    RetV 14 #[.agg #[.bool na, .string sa, .string ta, .bool nb, .string sb, .string tb], .agg #[.bool nc, .string sc, .string tc, .bool nd, .string sd, .string td]] (.int .i64 (if v1 && v2 then (if z1 < 0 then -1 else if z2 < 0 then 1 else 0) else 0)) := by
  intro w; have H1 := Lib.hid h1; have H2 := Lib.hid h2; have H3 := Lib.hid h3; have H4 := Lib.hid h4; clear h1 h2 h3 h4
  cases v1
  · skip
    obtain ⟨o_i, o_j, hbw⟩ := new2 w [.bool na, .string sa, .string ta, .bool nb, .string sb, .string tb] [.bool nc, .string sc, .string tc, .bool nd, .string sd, .string td] 34 34
    go_enter Tryz.func14, Tryz.ntmps14
    go_upto_region 1 with (fail)
    generalize ((w.alloc (.cells #[.bool na, .string sa, .string ta, .bool nb, .string sb, .string tb] 34)).alloc (.cells #[.bool nc, .string sc, .string tc, .bool nd, .string sd, .string td] 34)) = wb at o_i o_j hbw ⊢; obtain ⟨qi_0, qi_1, qi_2, qi_3, qi_4, qi_5⟩ := o_i.cells6; obtain ⟨qj_0, qj_1, qj_2, qj_3, qj_4, qj_5⟩ := o_j.cells6
    go_wp2_with fail
    clear qi_0 qi_1 qi_2 qi_3 qi_4 qi_5 qj_0 qj_1 qj_2 qj_3 qj_4 qj_5; refine (H1.out _).mono ?_; rintro e w1 ⟨rfl, hb1⟩; replace o_i := o_i.below hb1 o_i.lt; replace o_j := o_j.below hb1 o_j.lt; replace hbw := below6 hbw hb1; clear hb1
    go_wp2
    go_ret
    exact ⟨rfl, hbw⟩
  · cases v2
    · skip
      obtain ⟨o_i, o_j, hbw⟩ := new2 w [.bool na, .string sa, .string ta, .bool nb, .string sb, .string tb] [.bool nc, .string sc, .string tc, .bool nd, .string sd, .string td] 34 34
      go_enter Tryz.func14, Tryz.ntmps14
      go_upto_region 1 with (fail)
      generalize ((w.alloc (.cells #[.bool na, .string sa, .string ta, .bool nb, .string sb, .string tb] 34)).alloc (.cells #[.bool nc, .string sc, .string tc, .bool nd, .string sd, .string td] 34)) = wb at o_i o_j hbw ⊢; obtain ⟨qi_0, qi_1, qi_2, qi_3, qi_4, qi_5⟩ := o_i.cells6; obtain ⟨qj_0, qj_1, qj_2, qj_3, qj_4, qj_5⟩ := o_j.cells6
      go_wp2_with fail
      clear qi_0 qi_1 qi_2 qi_3 qi_4 qi_5 qj_0 qj_1 qj_2 qj_3 qj_4 qj_5; refine (H1.out _).mono ?_; rintro e w1 ⟨rfl, hb1⟩; replace o_i := o_i.below hb1 o_i.lt; replace o_j := o_j.below hb1 o_j.lt; replace hbw := below6 hbw hb1; clear hb1; obtain ⟨qi_0, qi_1, qi_2, qi_3, qi_4, qi_5⟩ := o_i.cells6; obtain ⟨qj_0, qj_1, qj_2, qj_3, qj_4, qj_5⟩ := o_j.cells6
      go_wp2_with fail
      clear qi_0 qi_1 qi_2 qi_3 qi_4 qi_5 qj_0 qj_1 qj_2 qj_3 qj_4 qj_5; refine (H2.out _).mono ?_; rintro e w2 ⟨rfl, hb2⟩; replace o_i := o_i.below hb2 o_i.lt; replace o_j := o_j.below hb2 o_j.lt; replace hbw := below6 hbw hb2; clear hb2
      go_wp2
      go_ret
      exact ⟨rfl, hbw⟩
    · by_cases hz : z1 < 0
      · have g1 := Lib.hid hz; have d1 : decide (z1 < 0) = true := decide_eq_true hz; obtain ⟨o_i, o_j, hbw⟩ := new2 w [.bool na, .string sa, .string ta, .bool nb, .string sb, .string tb] [.bool nc, .string sc, .string tc, .bool nd, .string sd, .string td] 34 34
        go_enter Tryz.func14, Tryz.ntmps14
        go_upto_region 1 with (fail)
        generalize ((w.alloc (.cells #[.bool na, .string sa, .string ta, .bool nb, .string sb, .string tb] 34)).alloc (.cells #[.bool nc, .string sc, .string tc, .bool nd, .string sd, .string td] 34)) = wb at o_i o_j hbw ⊢; obtain ⟨qi_0, qi_1, qi_2, qi_3, qi_4, qi_5⟩ := o_i.cells6; obtain ⟨qj_0, qj_1, qj_2, qj_3, qj_4, qj_5⟩ := o_j.cells6
        go_wp2_with fail
        clear qi_0 qi_1 qi_2 qi_3 qi_4 qi_5 qj_0 qj_1 qj_2 qj_3 qj_4 qj_5; refine (H1.out _).mono ?_; rintro e w1 ⟨rfl, hb1⟩; replace o_i := o_i.below hb1 o_i.lt; replace o_j := o_j.below hb1 o_j.lt; replace hbw := below6 hbw hb1; clear hb1; obtain ⟨qi_0, qi_1, qi_2, qi_3, qi_4, qi_5⟩ := o_i.cells6; obtain ⟨qj_0, qj_1, qj_2, qj_3, qj_4, qj_5⟩ := o_j.cells6
        go_wp2_with fail
        clear qi_0 qi_1 qi_2 qi_3 qi_4 qi_5 qj_0 qj_1 qj_2 qj_3 qj_4 qj_5; refine (H2.out _).mono ?_; rintro e w2 ⟨rfl, hb2⟩; replace o_i := o_i.below hb2 o_i.lt; replace o_j := o_j.below hb2 o_j.lt; replace hbw := below6 hbw hb2; clear hb2; obtain ⟨qi_0, qi_1, qi_2, qi_3, qi_4, qi_5⟩ := o_i.cells6; obtain ⟨qj_0, qj_1, qj_2, qj_3, qj_4, qj_5⟩ := o_j.cells6
        go_wp2_with fail
        clear qi_0 qi_1 qi_2 qi_3 qi_4 qi_5 qj_0 qj_1 qj_2 qj_3 qj_4 qj_5; refine (H3.out (by simp) (by simp) _).mono ?_; rintro e w3 ⟨rfl, hb3⟩; replace o_i := o_i.below hb3 o_i.lt; replace o_j := o_j.below hb3 o_j.lt; replace hbw := below6 hbw hb3; clear hb3
        go_wp2
        go_ret
        exact ⟨ret_int (by simp [g1.out]), hbw⟩
      · have g1 := Lib.hid hz; have d1 : decide (z1 < 0) = false := decide_eq_false hz
        by_cases hy : z2 < 0
        · have g2 := Lib.hid hy; have d2 : decide (z2 < 0) = true := decide_eq_true hy; obtain ⟨o_i, o_j, hbw⟩ := new2 w [.bool na, .string sa, .string ta, .bool nb, .string sb, .string tb] [.bool nc, .string sc, .string tc, .bool nd, .string sd, .string td] 34 34
          go_enter Tryz.func14, Tryz.ntmps14
          go_upto_region 1 with (fail)
          generalize ((w.alloc (.cells #[.bool na, .string sa, .string ta, .bool nb, .string sb, .string tb] 34)).alloc (.cells #[.bool nc, .string sc, .string tc, .bool nd, .string sd, .string td] 34)) = wb at o_i o_j hbw ⊢; obtain ⟨qi_0, qi_1, qi_2, qi_3, qi_4, qi_5⟩ := o_i.cells6; obtain ⟨qj_0, qj_1, qj_2, qj_3, qj_4, qj_5⟩ := o_j.cells6
          go_wp2_with fail
          clear qi_0 qi_1 qi_2 qi_3 qi_4 qi_5 qj_0 qj_1 qj_2 qj_3 qj_4 qj_5; refine (H1.out _).mono ?_; rintro e w1 ⟨rfl, hb1⟩; replace o_i := o_i.below hb1 o_i.lt; replace o_j := o_j.below hb1 o_j.lt; replace hbw := below6 hbw hb1; clear hb1; obtain ⟨qi_0, qi_1, qi_2, qi_3, qi_4, qi_5⟩ := o_i.cells6; obtain ⟨qj_0, qj_1, qj_2, qj_3, qj_4, qj_5⟩ := o_j.cells6
          go_wp2_with fail
          clear qi_0 qi_1 qi_2 qi_3 qi_4 qi_5 qj_0 qj_1 qj_2 qj_3 qj_4 qj_5; refine (H2.out _).mono ?_; rintro e w2 ⟨rfl, hb2⟩; replace o_i := o_i.below hb2 o_i.lt; replace o_j := o_j.below hb2 o_j.lt; replace hbw := below6 hbw hb2; clear hb2; obtain ⟨qi_0, qi_1, qi_2, qi_3, qi_4, qi_5⟩ := o_i.cells6; obtain ⟨qj_0, qj_1, qj_2, qj_3, qj_4, qj_5⟩ := o_j.cells6
          go_wp2_with fail
          clear qi_0 qi_1 qi_2 qi_3 qi_4 qi_5 qj_0 qj_1 qj_2 qj_3 qj_4 qj_5; refine (H3.out (by simp) (by simp) _).mono ?_; rintro e w3 ⟨rfl, hb3⟩; replace o_i := o_i.below hb3 o_i.lt; replace o_j := o_j.below hb3 o_j.lt; replace hbw := below6 hbw hb3; clear hb3; obtain ⟨qi_0, qi_1, qi_2, qi_3, qi_4, qi_5⟩ := o_i.cells6; obtain ⟨qj_0, qj_1, qj_2, qj_3, qj_4, qj_5⟩ := o_j.cells6
          go_wp2_with fail
          clear qi_0 qi_1 qi_2 qi_3 qi_4 qi_5 qj_0 qj_1 qj_2 qj_3 qj_4 qj_5; refine (H4.out (by simp) (by simp) _).mono ?_; rintro e w4 ⟨rfl, hb4⟩; replace o_i := o_i.below hb4 o_i.lt; replace o_j := o_j.below hb4 o_j.lt; replace hbw := below6 hbw hb4; clear hb4
          go_wp2
          go_ret
          exact ⟨ret_int (by simp [g1.out, g2.out]), hbw⟩
        · have g2 := Lib.hid hy; have d2 : decide (z2 < 0) = false := decide_eq_false hy; obtain ⟨o_i, o_j, hbw⟩ := new2 w [.bool na, .string sa, .string ta, .bool nb, .string sb, .string tb] [.bool nc, .string sc, .string tc, .bool nd, .string sd, .string td] 34 34
          go_enter Tryz.func14, Tryz.ntmps14
          go_upto_region 1 with (fail)
          generalize ((w.alloc (.cells #[.bool na, .string sa, .string ta, .bool nb, .string sb, .string tb] 34)).alloc (.cells #[.bool nc, .string sc, .string tc, .bool nd, .string sd, .string td] 34)) = wb at o_i o_j hbw ⊢; obtain ⟨qi_0, qi_1, qi_2, qi_3, qi_4, qi_5⟩ := o_i.cells6; obtain ⟨qj_0, qj_1, qj_2, qj_3, qj_4, qj_5⟩ := o_j.cells6
          go_wp2_with fail
          clear qi_0 qi_1 qi_2 qi_3 qi_4 qi_5 qj_0 qj_1 qj_2 qj_3 qj_4 qj_5; refine (H1.out _).mono ?_; rintro e w1 ⟨rfl, hb1⟩; replace o_i := o_i.below hb1 o_i.lt; replace o_j := o_j.below hb1 o_j.lt; replace hbw := below6 hbw hb1; clear hb1; obtain ⟨qi_0, qi_1, qi_2, qi_3, qi_4, qi_5⟩ := o_i.cells6; obtain ⟨qj_0, qj_1, qj_2, qj_3, qj_4, qj_5⟩ := o_j.cells6
          go_wp2_with fail
          clear qi_0 qi_1 qi_2 qi_3 qi_4 qi_5 qj_0 qj_1 qj_2 qj_3 qj_4 qj_5; refine (H2.out _).mono ?_; rintro e w2 ⟨rfl, hb2⟩; replace o_i := o_i.below hb2 o_i.lt; replace o_j := o_j.below hb2 o_j.lt; replace hbw := below6 hbw hb2; clear hb2; obtain ⟨qi_0, qi_1, qi_2, qi_3, qi_4, qi_5⟩ := o_i.cells6; obtain ⟨qj_0, qj_1, qj_2, qj_3, qj_4, qj_5⟩ := o_j.cells6
          go_wp2_with fail
          clear qi_0 qi_1 qi_2 qi_3 qi_4 qi_5 qj_0 qj_1 qj_2 qj_3 qj_4 qj_5; refine (H3.out (by simp) (by simp) _).mono ?_; rintro e w3 ⟨rfl, hb3⟩; replace o_i := o_i.below hb3 o_i.lt; replace o_j := o_j.below hb3 o_j.lt; replace hbw := below6 hbw hb3; clear hb3; obtain ⟨qi_0, qi_1, qi_2, qi_3, qi_4, qi_5⟩ := o_i.cells6; obtain ⟨qj_0, qj_1, qj_2, qj_3, qj_4, qj_5⟩ := o_j.cells6
          go_wp2_with fail
          clear qi_0 qi_1 qi_2 qi_3 qi_4 qi_5 qj_0 qj_1 qj_2 qj_3 qj_4 qj_5; refine (H4.out (by simp) (by simp) _).mono ?_; rintro e w4 ⟨rfl, hb4⟩; replace o_i := o_i.below hb4 o_i.lt; replace o_j := o_j.below hb4 o_j.lt; replace hbw := below6 hbw hb4; clear hb4
          go_wp2
          go_ret
          exact ⟨ret_int (by simp [g1.out, g2.out]), hbw⟩
theorem ends_0 (na : Bool) (sa ta : ByteArray) (nb : Bool) (sb tb : ByteArray)   :
    RetV 50 #[.agg #[.bool na, .string sa, .string ta], .int .i64 0, .agg #[.bool nb, .string sb, .string tb], .int .i64 0] (.tuple #[.agg #[.bool na, .string sa, .string ta, .bool nb, .string sb, .string tb], .int .i64 0]) := by
  intro w; obtain ⟨o_a, o_b, o_r, hbw⟩ := new3 w [.bool na, .string sa, .string ta] [.bool nb, .string sb, .string tb] [.bool false, .string ⟨#[]⟩, .string ⟨#[]⟩, .bool false, .string ⟨#[]⟩, .string ⟨#[]⟩] 26 26 34
  go_enter Tryz.func50, Tryz.ntmps50
  go_upto_region 1 with (fail)
  generalize (((w.alloc (.cells #[.bool na, .string sa, .string ta] 26)).alloc (.cells #[.bool nb, .string sb, .string tb] 26)).alloc (.cells #[.bool false, .string ⟨#[]⟩, .string ⟨#[]⟩, .bool false, .string ⟨#[]⟩, .string ⟨#[]⟩] 34)) = wb at o_a o_b o_r hbw ⊢; obtain ⟨qa_0, qa_1, qa_2⟩ := o_a.cells3; obtain ⟨qb_0, qb_1, qb_2⟩ := o_b.cells3; obtain ⟨qr_0, qr_1, qr_2, qr_3, qr_4, qr_5⟩ := o_r.cells6; obtain ⟨fr_0, fr_1, fr_2, fr_3, fr_4, fr_5⟩ := o_r.frozens6; have oz := o_r.set6 (.bool na) (.string sa) (.string ta) (.bool nb) (.string sb) (.string tb); have sz9 := Below.set6 hbw (g := w.heap.size + 1 + 1) (by omega) (.bool na) (.string sa) (.string ta) (.bool nb) (.string sb) (.string tb)
  go_wp2_with fail
  generalize ((((((wb.setCell ⟨w.heap.size + 1 + 1, 0, none⟩ (.bool na)).setCell ⟨w.heap.size + 1 + 1, 1, none⟩ (.string sa)).setCell ⟨w.heap.size + 1 + 1, 2, none⟩ (.string ta)).setCell ⟨w.heap.size + 1 + 1, 3, none⟩ (.bool nb)).setCell ⟨w.heap.size + 1 + 1, 4, none⟩ (.string sb)).setCell ⟨w.heap.size + 1 + 1, 5, none⟩ (.string tb)) = wz at oz sz9 ⊢; obtain ⟨z0, z1, z2, z3, z4, z5⟩ := oz.cells6; exact bodyPost_ret (v := .tuple #[.agg #[.bool na, .string sa, .string ta, .bool nb, .string sb, .string tb], .int .i64 0]) (by simp [results, Tryz.results50, go_sem, z0, z1, z2, z3, z4, z5]) rfl ⟨rfl, sz9⟩
end Go.Proofs.YtffldjghdcfpiaaGreatDoor
