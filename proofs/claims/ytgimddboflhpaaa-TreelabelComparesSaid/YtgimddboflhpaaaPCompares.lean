/- TreelabelCompares returns true for every input, and leaves its arguments as they were. No condition. -/
import Derived.Test.YtgimddboflhpaaaLawsB
import Derived.Test.YtgimddboflhpaaaOpen
namespace Go.Proofs.Ytgimddboflhpaaa.treelabelCompares
set_option linter.unusedSimpArgs false
set_option linter.unusedVariables false
set_option linter.unusedSectionVars false
open Go.ChangeShapes Go.WideShapes Go.ChangeAt Go.RowKit Go.Deep Tr
theorem own : ownKnob Try.prog.godebug = none := by kernel_rfl
theorem laidOut : laidOutB Try.prog = true := by kernel_rfl

set_option maxRecDepth 100000 in
theorem lifted (os : Os) (started : os.Started) (H : Type) (enc : TypeId × Value → H) :
    ReturnsInHanded {} Try.checked os 7 .any (Rows.treelabelComparesSpec.pre6 enc Try.prog Try.f7 Rows.treelabelComparesRow.domain false) (Rows.treelabelComparesSpec.post enc Try.prog Try.f7 false true false false) := by
  refine returnsInHanded_of_change (C := Try.checked) own started (by kernel_rfl) Try.func7
    (ChangeSpec.witness6 (enc := enc) (C := Try.checked) false ⟨#[], #[.agg #[.int .i64 0, .int .i64 0, .int .i64 0], .agg #[.int .i64 0, .int .i64 0, .int .i64 0]], []⟩ 8 (by kernel_rfl) (by kernel_rfl) (by kernel_rfl) (by kernel_rfl)) ?_
  intro W base args ds gs before hval0 hW hcnd _
  have hval : ∀ (j : Nat) t v, Try.f7.params[j]? = some t → args[j]? = some v → Value.okWide Try.prog W .any base t v := hval0
  have hW' := hW
  obtain ⟨p, q, hA0, hV, rfl, hfz, hnd⟩ := hW
  have hA : DataW.TrodAll enc Try.prog W 0 (fun _ => true) true Try.f7.params.toList args.toList ds p := hA0
  rw [Try.params7] at hA hval
  obtain ⟨v0, vs0, d0, ds0, p0, q0, hargs, rfl, rfl, h0, r0⟩ := trodAll_cons hA
  obtain ⟨v1, vs1, d1, ds1, p1, q1, rfl, rfl, rfl, h1, r1⟩ := trodAll_cons r0
  obtain ⟨rfl, rfl, rfl⟩ := trodAll_nil r1
  obtain rfl : args = #[v0, v1] := by cases args; simp_all
  obtain ⟨rfl, rfl⟩ := trodVars_none hV
  have k0 := h0
  have lt0 : ∀ x ∈ p0, x.block < W.heap.size := by obtain ⟨m, hm⟩ := k0; exact DataW.trod_lt m _ _ _ hm
  obtain ⟨c00, c01, c02, y00, y01, y02, m0, rfl, rfl, rfl, g00, g01, g02⟩ := Go.Joins.open_agg3 Try.underlying41 (by kernel_rfl) (by kernel_rfl) (hval 0 41 v0 rfl rfl) h0
  obtain ⟨x00, e00, _, _⟩ := DataW.trod_int Try.underlying3 g00
  obtain rfl : c00 = .int .i64 x00 := by simpa using e00
  obtain ⟨x01, e01, _, _⟩ := DataW.trod_int Try.underlying3 g01
  obtain rfl : c01 = .int .i64 x01 := by simpa using e01
  obtain ⟨x02, e02, _, _⟩ := DataW.trod_int Try.underlying3 g02
  obtain rfl : c02 = .int .i64 x02 := by simpa using e02
  have k1 := h1
  have lt1 : ∀ x ∈ p1, x.block < W.heap.size := by obtain ⟨m, hm⟩ := k1; exact DataW.trod_lt m _ _ _ hm
  obtain ⟨c10, c11, c12, y10, y11, y12, m1, rfl, rfl, rfl, g10, g11, g12⟩ := Go.Joins.open_agg3 Try.underlying41 (by kernel_rfl) (by kernel_rfl) (hval 1 41 v1 rfl rfl) h1
  obtain ⟨x10, e10, _, _⟩ := DataW.trod_int Try.underlying3 g10
  obtain rfl : c10 = .int .i64 x10 := by simpa using e10
  obtain ⟨x11, e11, _, _⟩ := DataW.trod_int Try.underlying3 g11
  obtain rfl : c11 = .int .i64 x11 := by simpa using e11
  obtain ⟨x12, e12, _, _⟩ := DataW.trod_int Try.underlying3 g12
  obtain rfl : c12 = .int .i64 x12 := by simpa using e12
  clear hA0 hval0
  refine (law_compares (x00, x01, x02) (x10, x11, x12) W ).mono fun e W' ⟨he, bel⟩ => ?_
  subst he
  exact ⟨_, rfl, _, _, _, [], _, [], hW', trodAll_mk1 (shut_bool Try.underlying4 _), (trodAll_cons_mk (Below.trod laidOut (by kernel_rfl) (of_decide_eq_true (by kernel_rfl)) k0 bel lt0) (trodAll_cons_mk (Below.trod laidOut (by kernel_rfl) (of_decide_eq_true (by kernel_rfl)) k1 bel lt1) trodAll_mk0)), rfl, bel.frame _, fun h => by cases h⟩

theorem over : Rows.treelabelComparesRow.holds Try.pinned (OpenSpec.ofChange Rows.treelabelComparesSpec) :=
  OpenClaim.holds_of_wide 7 Try.f7 rfl rfl rfl rfl rfl rfl rfl ⟨rfl, rfl, rfl, rfl, rfl⟩ rfl rfl rfl rfl rfl (by kernel_rfl) Try.func7 (by kernel_rfl)
    (of_decide_eq_true (by kernel_rfl)) (by unfold Func.isWrapper; first | (rw [if_pos (by decide +kernel)]; kernel_rfl) | (rw [if_neg (by decide +kernel)]; exact ⟨rfl, rfl⟩))
    (fun os started H enc _ => lifted os started H enc)

end Go.Proofs.Ytgimddboflhpaaa.treelabelCompares
namespace Go.Proofs.Ytgimddboflhpaaa
theorem treelabelCompares_holds : Rows.TreelabelComparesSaid := treelabelCompares.over
#print axioms treelabelCompares_holds
end Go.Proofs.Ytgimddboflhpaaa
