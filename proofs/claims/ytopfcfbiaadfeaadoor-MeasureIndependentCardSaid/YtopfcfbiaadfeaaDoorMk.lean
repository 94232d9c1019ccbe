/- The reference's abs, Make. -/
import Derived.Test.YtopfcfbiaadfeaaDoorRk
import Derived.Test.YtopfcfbiaadfeaaDoorRt
import Derived.Test.YtopfcfbiaadfeaaDoorId
import Derived.Test.YtopfcfbiaadfeaaDoorEn
namespace Go.Proofs.YtopfcfbiaadfeaaDoor
set_option linter.unusedSimpArgs false
set_option linter.unusedVariables false
set_option linter.unusedSectionVars false
open Go.RowKit Dg

theorem abs_ref (z : Int) (w : World) (h1 : -9223372036854775808 ≤ z) (h2 : z ≤ 9223372036854775807) : Calls Tryd.prog 36 #[.int .i64 z] w fun e w' => e = .returned (.int .u64 (z.natAbs : Int)) ∧ Below w.heap.size w w' := by
  by_cases hz : z < 0
  · have d1 : decide (z < 0) = true := decide_eq_true hz
    have g1 : IntKind.i64.wrap (z + 1) = z + 1 := IntWalk.i64_in _ (by omega)
    have g2 : IntKind.i64.wrap (-(z + 1)) = -(z + 1) := IntWalk.i64_in _ (by omega)
    have g3 : IntKind.u64.wrap (-(z + 1)) = -(z + 1) := IntWalk.u64_in _ (by omega)
    have HR : Hid (IntKind.u64.wrap (-(z + 1) + 1) = (z.natAbs : Int)) := by
      show _ = _
      have e : -(z + 1) + 1 = (z.natAbs : Int) := by omega
      rw [e]; exact IntWalk.u64_in _ (by omega)
    have HR2 : Hid (-(z + 1) + 1 = (z.natAbs : Int)) := by show _ = _; omega
    have HE : Hid (∀ a : Int, a = -(z + 1) + 1 → IntKind.u64.wrap a = (z.natAbs : Int)) := by
      intro a ha
      rw [ha]; exact HR.out
    go_enter Tryd.func36, Tryd.ntmps36
    go_wp2
    go_ret
    exact ⟨ret_int (by first | exact HR.out | exact HR2.out | (apply HE.out; omega) | omega), Below.refl _ _⟩
  · have d1 : decide (z < 0) = false := decide_eq_false hz
    have g1 : IntKind.u64.wrap z = z := IntWalk.u64_in _ (by omega)
    have HR : Hid (z = (z.natAbs : Int)) := by show _ = _; omega
    go_enter Tryd.func36, Tryd.ntmps36
    go_wp2
    go_ret
    exact ⟨ret_int HR.out, Below.refl _ _⟩
theorem dk64 {n : Nat} (h : n < 18446744073709551616) : (dk n).length ≤ 5 := dg_le b10k (by show n < 10000 ^ 5; omega)
set_option maxRecDepth 100000 in
set_option maxHeartbeats 4000000 in
theorem maker_any (num den : Int) (w : World) (h1 : -9223372036854775808 ≤ num) (h2 : num ≤ 9223372036854775807) (h3 : -9223372036854775808 ≤ den) (h4 : den ≤ 9223372036854775807) (hd : den ≠ 0) :
    Calls Tryd.prog 15 #[.int .i64 num, .int .i64 den] w fun e w' => RatRes (rat (decide (num < 0) != decide (den < 0)) num.natAbs den.natAbs) e ∧ Below w.heap.size w w' := by
  have A1 := Lib.hid (fun w => abs_ref num w h1 h2)
  have A2 := Lib.hid (fun w => abs_ref den w h3 h4)
  have O1 := Lib.hid (fun w => of64_ref num.natAbs (by omega) w)
  have O2 := Lib.hid (fun w => of64_ref den.natAbs (by omega) w)
  have L1 := Lib.hid (dk64 (n := num.natAbs) (by omega))
  have L2 := Lib.hid (dk64 (n := den.natAbs) (by omega))
  have HD : Hid (0 < den.natAbs) := by show _ < _; omega
  have b0 : (den == 0) = false := beq_eq_false_iff_ne.2 hd
  clear hd h1 h2 h3 h4
  have key : ∀ x1 x2 : Bool, decide (num < 0) = x1 → decide (den < 0) = x2 → Calls Tryd.prog 15 #[.int .i64 num, .int .i64 den] w fun e w' => RatRes (rat (x1 != x2) num.natAbs den.natAbs) e ∧ Below w.heap.size w w' := by
    intro x1 x2 t1 t2
    obtain ⟨nz, sz, tz, kz, hend, hres⟩ := ratRes_one (rat (x1 != x2) num.natAbs den.natAbs)
    have HEND := Lib.hid hend
    have HRES := Lib.hid hres
    clear hend hres
    obtain ⟨o_r, hbw⟩ := new1 w [.bool false, .string ⟨#[]⟩, .string ⟨#[]⟩] 29
    go_enter Tryd.func15, Tryd.ntmps15
    go_upto_region 1 with (fail)
    generalize (w.alloc (.cells #[.bool false, .string ⟨#[]⟩, .string ⟨#[]⟩] 29)) = wb at o_r hbw ⊢
    go_wp2_with fail
    refine (A1.out _).mono ?_
    rintro e w1 ⟨rfl, hb1⟩
    replace o_r := o_r.below hb1 o_r.lt
    replace hbw := below6 hbw hb1
    clear hb1
    go_wp2_with fail
    refine (O1.out _).mono ?_
    rintro e w2 ⟨v1, rfl, hv1, hb2⟩
    replace o_r := o_r.below hb2 o_r.lt
    replace hbw := below6 hbw hb2
    clear hb2
    go_wp2_with fail
    refine (A2.out _).mono ?_
    rintro e w3 ⟨rfl, hb3⟩
    replace o_r := o_r.below hb3 o_r.lt
    replace hv1 := hv1.below hb3
    replace hbw := below6 hbw hb3
    clear hb3
    go_wp2_with fail
    refine (O2.out _).mono ?_
    rintro e w4 ⟨v2, rfl, hv2, hb4⟩
    replace o_r := o_r.below hb4 o_r.lt
    replace hv1 := hv1.below hb4
    replace hbw := below6 hbw hb4
    clear hb4
    go_wp2_with fail
    refine (lowest_ref (x1 != x2) _ _ _ _ _ hv1 hv2 (by have := L1.out; omega) (by have := L2.out; omega) HD.out).mono ?_
    rintro e w5 ⟨hl, hb5⟩
    replace o_r := o_r.below hb5 o_r.lt
    replace hv1 := hv1.below hb5
    replace hv2 := hv2.below hb5
    replace hbw := below6 hbw hb5
    clear hb5
    have he := HEND.out _ (hl.toRat HD.out)
    subst he
    clear hl
    have qr_0 : w5.cell? ⟨w.heap.size, 0, none⟩ = some (.bool false) := o_r.cell 0
    have qr_1 : w5.cell? ⟨w.heap.size, 1, none⟩ = some (.string ⟨#[]⟩) := o_r.cell 1
    have qr_2 : w5.cell? ⟨w.heap.size, 2, none⟩ = some (.string ⟨#[]⟩) := o_r.cell 2
    have fr_0 := o_r.frozen 0
    have fr_1 := o_r.frozen 1
    have fr_2 := o_r.frozen 2
    have oz := o_r.set3 (.bool nz) (.string sz) (.string tz)
    have sz9 := Below.set3 hbw (g := w.heap.size) (by omega) (.bool nz) (.string sz) (.string tz)
    go_wp2_with fail
    generalize (((w5.setCell ⟨w.heap.size, 0, none⟩ (.bool nz)).setCell ⟨w.heap.size, 1, none⟩ (.string sz)).setCell ⟨w.heap.size, 2, none⟩ (.string tz)) = wz at oz sz9 ⊢
    have z0 : wz.cell? ⟨w.heap.size, 0, none⟩ = some (.bool nz) := oz.cell 0
    have z1 : wz.cell? ⟨w.heap.size, 1, none⟩ = some (.string sz) := oz.cell 1
    have z2 : wz.cell? ⟨w.heap.size, 2, none⟩ = some (.string tz) := oz.cell 2
    exact bodyPost_ret (v := .tuple #[.agg #[.bool nz, .string sz, .string tz], .int .i64 kz]) (by simp [results, Tryd.results15, go_sem, z0, z1, z2]) rfl ⟨HRES.out, sz9⟩
  exact key _ _ rfl rfl
end Go.Proofs.YtopfcfbiaadfeaaDoor
