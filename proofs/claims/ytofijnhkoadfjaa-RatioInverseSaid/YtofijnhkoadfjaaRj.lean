/- The reference's NatDiv. -/
import Derived.Test.YtofijnhkoadfjaaRi
import Derived.Test.YtofijnhkoadfjaaLa
namespace Go.Proofs.Ytofijnhkoadfjaa
set_option linter.unusedSimpArgs false
set_option linter.unusedVariables false
set_option linter.unusedSectionVars false
open Go.RowKit Dg

set_option maxHeartbeats 2000000 in
theorem natdiv_ref (m n : Nat) (w : World) (hm : OkN m) (hn : OkN n) (hn0 : 0 < n) :
    Calls Try.prog 20 #[.string (S m), .string (S n)] w fun e w' => e = .returned (.tuple #[.string (S (m / n)), .string (S (m % n)), .int .i64 0]) ∧ Below w.heap.size w w' := by
  have hne : S n ≠ ⟨#[48]⟩ := by rw [← okS_0]; exact S_ne_0 hn0
  have hb0 : ((S n).toList == [48]) = false := str_ne hne
  have H1 := Lib.hid hm
  have H2 := Lib.hid hn
  have HV1 := Lib.hid hm.vld
  have HV2 := Lib.hid hn.vld
  have HG1 := fun W => Lib.hid (big_S m W hm)
  have HG2 := fun W => Lib.hid (big_S n W hn)
  have HN0 := Lib.hid hn0
  clear hm hn hn0 hne
  generalize S m = s1 at HV1 HG1 ⊢
  generalize S n = s2 at HV2 HG2 hb0 ⊢
  go_enter Try.func20, Try.ntmps20
  go_wp2_with fail
  refine (validr_yes _ HV1.out).mono ?_
  rintro e w1 ⟨rfl, rfl⟩
  go_wp2_with fail
  refine (validr_yes _ HV2.out).mono ?_
  rintro e w1 ⟨rfl, rfl⟩
  go_wp2_with fail
  refine (HG1 _).out.mono ?_
  rintro e w1 ⟨v1, rfl, hv1, hb1⟩
  go_wp2_with fail
  refine (HG2 _).out.mono ?_
  rintro e w2 ⟨v2, rfl, hv2, hb2⟩
  go_wp2_with fail
  refine (divide_ref _ (hv1.below hb2) hv2 (by have := H1.out.dk; omega) (by have := H2.out.dk; omega) HN0.out).mono ?_
  rintro e w3 ⟨x1, x2, rfl, hx1, hx2, hb3⟩
  have hb : Below w.heap.size w w3 := (hb1.trans (hb2.mono hb1.size)).trans (hb3.mono (hb1.trans (hb2.mono hb1.size)).size)
  go_wp2_with fail
  refine (textr_any _ hx1 (Nat.le_trans (Dg.dg_mono b10k (Nat.div_le_self m n)) (Nat.le_trans H1.out.dk (by decide)))).mono ?_
  rintro e w4 ⟨rfl, hb4⟩
  go_wp2_with fail
  refine (textr_any _ (hx2.below hb4) (Nat.le_trans (Dg.dg_mono b10k (Nat.le_of_lt (Nat.mod_lt m HN0.out))) (Nat.le_trans H2.out.dk (by decide)))).mono ?_
  rintro e w5 ⟨rfl, hb5⟩
  go_wp2
  go_ret3
  exact ⟨rfl, (hb.trans (hb4.mono hb.size)).trans (hb5.mono (hb.trans (hb4.mono hb.size)).size)⟩
set_option maxHeartbeats 2000000 in
theorem natdivz_ref (m : Nat) (w : World) (hm : OkN m) :
    Calls Try.prog 20 #[.string (S m), .string (S 0)] w fun e w' => e = .returned (.tuple #[.string ⟨#[]⟩, .string ⟨#[]⟩, .int .i64 25]) ∧ Below w.heap.size w w' := by
  have HV1 := Lib.hid hm.vld
  have HV2 : Hid (VLD ⟨#[48]⟩) := by rw [← okS_0]; exact OkN.vld (n := 0) (by unfold OkN; decide)
  rw [okS_0]
  clear hm
  generalize S m = s1 at HV1 ⊢
  go_enter Try.func20, Try.ntmps20
  go_wp2_with fail
  refine (validr_yes _ HV1.out).mono ?_
  rintro e w1 ⟨rfl, rfl⟩
  go_wp2_with fail
  refine (validr_yes _ HV2.out).mono ?_
  rintro e w1 ⟨rfl, rfl⟩
  go_wp2
  go_ret3
  exact ⟨rfl, Below.refl _ _⟩
end Go.Proofs.Ytofijnhkoadfjaa
