/- Parts of the proof: Lra, Opn, Opc. No condition of its own. -/
import Derived.Test.YtocknfhgjmaibaaGreatDoorRj8
import Derived.Test.YtocknfhgjmaibaaGreatDoorLa
import Derived.Test.YtocknfhgjmaibaaGreatDoorRows
import Derived.Test.YtocknfhgjmaibaaGreatDoorChecked
import Derived.ProofKit
import Derived.OpenShut
import Derived.ChangeOld
import Derived.Deep.Slices
import Derived.Deep.Fields
import Derived.Lib.SmallJoins
import Derived.ChangeArms
import Derived.Deep.Strs
set_option linter.unusedSimpArgs false
set_option linter.unusedVariables false
set_option linter.unusedSectionVars false
set_option maxRecDepth 100000
set_option maxHeartbeats 4000000
namespace Go.Proofs.YtocknfhgjmaibaaGreatDoor
open Go.RowKit Dg

theorem raw_law (a p q n k : Int) (w : World) (hk1 : -9223372036854775808 ≤ k) (hk2 : k ≤ 9223372036854775807) (ht : Tab w) :
    Calls Tryz.prog 3 #[.agg #[.int .i64 a, .int .i64 p, .int .i64 q, .int .i64 n], .int .i64 k] w fun e w' => e = .returned (.bool true) ∧ Below w.heap.size w w' := by
  have T0 := Lib.hid ht; clear ht hk1 hk2
  by_cases h1 : 2 < k
  · by_cases h2 : k ≤ 8
    · skip
      obtain ⟨o_c, hbw⟩ := new1 w [.int .i64 a, .int .i64 p, .int .i64 q, .int .i64 n] 23
      go_enter Tryz.func3, Tryz.ntmps3
      go_upto_region 1 with (fail)
      generalize (w.alloc (.cells #[.int .i64 a, .int .i64 p, .int .i64 q, .int .i64 n] 23)) = wb at o_c hbw ⊢; have t1 : decide (2 < k) = true := decide_eq_true h1; have t2 : decide (k ≤ 8) = true := decide_eq_true h2; obtain ⟨qc_0, qc_1, qc_2, qc_3⟩ := o_c.cells4
      go_wp2_with fail
      refine (all_raw a p q n 2 _ (T0.out.below hbw)).mono ?_; rintro e w1 ⟨rfl, hb1⟩; replace hbw := below6 hbw hb1; clear hb1
      go_wp2_with fail
      refine (known38_yes _ (T0.out.below hbw)).mono ?_; rintro e w2 ⟨rfl, hb2⟩; replace hbw := below6 hbw hb2; clear hb2
      go_wp2
      go_ret
      exact ⟨rfl, hbw⟩
    · skip
      obtain ⟨o_c, hbw⟩ := new1 w [.int .i64 a, .int .i64 p, .int .i64 q, .int .i64 n] 23
      go_enter Tryz.func3, Tryz.ntmps3
      go_upto_region 1 with (fail)
      generalize (w.alloc (.cells #[.int .i64 a, .int .i64 p, .int .i64 q, .int .i64 n] 23)) = wb at o_c hbw ⊢; have t1 : decide (2 < k) = true := decide_eq_true h1; have t2 : decide (k ≤ 8) = false := decide_eq_false h2; obtain ⟨qc_0, qc_1, qc_2, qc_3⟩ := o_c.cells4
      go_wp2_with fail
      refine (all_raw a p q n k _ (T0.out.below hbw)).mono ?_; rintro e w1 ⟨rfl, hb1⟩; replace hbw := below6 hbw hb1; clear hb1
      go_wp2_with fail
      refine (known38_yes _ (T0.out.below hbw)).mono ?_; rintro e w2 ⟨rfl, hb2⟩; replace hbw := below6 hbw hb2; clear hb2
      go_wp2
      go_ret
      exact ⟨rfl, hbw⟩
  · skip
    obtain ⟨o_c, hbw⟩ := new1 w [.int .i64 a, .int .i64 p, .int .i64 q, .int .i64 n] 23
    go_enter Tryz.func3, Tryz.ntmps3
    go_upto_region 1 with (fail)
    generalize (w.alloc (.cells #[.int .i64 a, .int .i64 p, .int .i64 q, .int .i64 n] 23)) = wb at o_c hbw ⊢; have t1 : decide (2 < k) = false := decide_eq_false h1; obtain ⟨qc_0, qc_1, qc_2, qc_3⟩ := o_c.cells4
    go_wp2_with fail
    refine (all_raw a p q n k _ (T0.out.below hbw)).mono ?_; rintro e w1 ⟨rfl, hb1⟩; replace hbw := below6 hbw hb1; clear hb1
    go_wp2_with fail
    refine (known38_yes _ (T0.out.below hbw)).mono ?_; rintro e w2 ⟨rfl, hb2⟩; replace hbw := below6 hbw hb2; clear hb2
    go_wp2
    go_ret
    exact ⟨rfl, hbw⟩
open Go.ChangeShapes Go.WideShapes Go.ChangeAt Go.RowKit Go.Deep

theorem wide_of {n : Int} (h : (Lit.int .i64 n).wf = true) : -9223372036854775808 ≤ n ∧ n ≤ 9223372036854775807 := by
  have e1 : IntKind.i64.min = -9223372036854775808 := by decide
  have e2 : IntKind.i64.max = 9223372036854775807 := by decide
  simp [Lit.wf] at h
  omega

section
variable {H : Type} {enc : TypeId × Value → H} {P : Program} {w : World} {base : Nat} {spare : Nat → Bool} {held : Bool}
end
open Go.ChangeShapes Go.WideShapes Go.ChangeAt Go.RowKit Go.Deep

section
variable {H : Type} {enc : TypeId × Value → H} {P : Program} {w : World} {base : Nat} {spare : Nat → Bool} {held : Bool}
theorem list4 {α : Type} {l : List α} {a b c d : α} (hl : l.length = 4) (h0 : (l.drop 0).take 1 = [a]) (h1 : (l.drop 1).take 1 = [b]) (h2 : (l.drop 2).take 1 = [c]) (h3 : (l.drop 3).take 1 = [d]) : l = [a, b, c, d] := by
  match l, hl with
  | [x, y, z, u], _ => simp at h0 h1 h2 h3; simp [h0, h1, h2, h3]
theorem cells_of {t e : TypeId} {f0 f1 f2 f3 : Field} {r : Reach} {b0 : Nat} {v : Value} {d : DataW H} {p : List MemPlace} (ht : P.underlying t = some (.struct #[f0, f1, f2, f3])) (q0 : f0.type = e) (q1 : f1.type = e) (q2 : f2.type = e) (q3 : f3.type = e) (ke : P.underlying e = some (.int .i64))
    (o0 : f0.offset = 0) (o1 : f1.offset = 1) (o2 : f2.offset = 2) (o3 : f3.offset = 3) (ce : P.cellsOf e = 1) (hc : P.cellsOf t = 4) (hv : Value.okWide P w r b0 t v) (h : DataW.Trod enc P w base spare held t v d p) :
    ∃ a b c u : Int, v = .agg #[.int .i64 a, .int .i64 b, .int .i64 c, .int .i64 u] := by
  obtain ⟨cs, rfl, -⟩ := okWide_struct ht hv; obtain ⟨fuel, hf⟩ := h; obtain ⟨y0, y1, y2, y3, n, -, hl, h0, h1, h2, h3⟩ := Go.Joins.trod_struct4 ht hf; rw [o0, q0, ce] at h0; rw [o1, q1, ce] at h1; rw [o2, q2, ce] at h2; rw [o3, q3, ce] at h3; obtain ⟨a, e0, -⟩ := DataW.trod_int ke h0; obtain ⟨b, e1, -⟩ := DataW.trod_int ke h1; obtain ⟨c, e2, -⟩ := DataW.trod_int ke h2; obtain ⟨u, e3, -⟩ := DataW.trod_int ke h3; have e' : cs.toList = [.int .i64 a, .int .i64 b, .int .i64 c, .int .i64 u] := list4 (hl.trans hc) e0 e1 e2 e3; exact ⟨a, b, c, u, by rw [show cs = cs.toList.toArray from rfl, e']⟩
end
end Go.Proofs.YtocknfhgjmaibaaGreatDoor
