/- Numbers of an int as texts: FromInt of both; Make of both. -/
import Derived.Test.YtopfcfbiaadfeaaDoorMk
import Derived.Test.YtopfcfbiaadfeaaDoorRf
import Derived.Test.YtopfcfbiaadfeaaDoorNk
import Derived.Lib.LaidTab
import Derived.Lib.AppendIntMem
import Derived.Lib.ItoaNum
namespace Go.Proofs.YtopfcfbiaadfeaaDoor
set_option linter.unusedSimpArgs false
set_option linter.unusedVariables false
set_option linter.unusedSectionVars false
open Go.RowKit Dg

/-- The library's table of the powers of ten. -/
def Tab (w : World) : Prop := Lib.TabIs Tryd.prog w "internal/strconv.uint64pow10" .u64 Lib.pow10Tab
theorem Tab.below {w w' : World} (h : Tab w) (hb : Below w.heap.size w w') : Tab w' := Lib.tabBelow_of_tabIs h w' hb
theorem tab_of_head {W : World} {rest : List (String × DataW Unit)} {d : DataW Unit} {ps : List MemPlace} {g : Nat} {t e : TypeId} {n : Nat} (hd : d = Lib.tabData .u64 Lib.pow10Tab)
    (hg : Tryd.prog.globalNamed "internal/strconv.uint64pow10" = some g) (hty : (Tryd.prog.globals[g]?).map (·.type) = some t) (ht : Tryd.prog.underlying t = some (.array n e)) (he : Tryd.prog.underlying e = some (.int .u64)) (hce : Tryd.prog.cellsOf e = 1) (hct : Tryd.prog.cellsOf t = n)
    (h : DataW.LaidVars Tryd.prog W (("internal/strconv.uint64pow10", d) :: rest) ps) : Tab W := by
  subst hd
  obtain ⟨g', t', cs, fuel, p, q, hg', ht', hvar, hd, _, _⟩ := h
  obtain rfl := Option.some.inj (hg.symm.trans hg')
  obtain rfl := Option.some.inj (hty.symm.trans ht')
  unfold Tab Lib.TabIs
  rw [hvar, ← Lib.cells_of_tab ht he hce hct hd]
theorem decDigits_S (n : Nat) : (⟨(Lib.decDigits n).toArray⟩ : ByteArray) = S n := by
  apply ba_ext
  show Lib.decDigits n = (S n).data.toList
  induction n using Nat.strongRecOn with
  | _ n ih =>
    unfold Lib.decDigits
    by_cases h : n < 10
    · rw [dif_pos h, S_list, dec_small h]; rfl
    · rw [dif_neg h, ih (n / 10) (by omega), S_list, S_list, dec_step (n := n) (by omega), asc_append]; rfl
theorem itoa_S (n : Nat) : (⟨(Lib.itoa (n : Int)).toArray⟩ : ByteArray) = S n := by
  unfold Lib.itoa
  rw [if_neg (by omega)]
  exact decDigits_S n
theorem fromint_yes (k : Nat) (hk : k ≤ 9223372036854775807) (w : World) (ht : Tab w) : Calls Tryd.prog 70 #[.int .i64 (k : Int)] w fun e w' => e = .returned (.tuple #[.string (S k), .int .i64 0]) ∧ Below w.heap.size w w' := by
  have HI : Hid (Calls Tryd.prog 88 #[.int .i64 (k : Int)] w fun e w' => e = .returned (.string (S k)) ∧ Below w.heap.size w w') := (Tryd.strconv_Itoa (k : Int) (by omega) (by omega) w ht).mono fun e w' ⟨h1, j, os, h2⟩ => by
    rw [itoa_S] at h1
    rw [h2]
    exact ⟨h1, Lib.below_grow _ w (Nat.le_refl _) j os⟩
  have d1 : decide ((k : Int) < 0) = false := decide_eq_false (by omega)
  clear hk ht
  go_enter Tryd.func70, Tryd.ntmps70
  go_wp2_with fail
  refine HI.out.mono ?_
  rintro e w1 ⟨rfl, hb⟩
  go_wp2
  go_ret2
  exact ⟨rfl, hb⟩
theorem fromint_no (z : Int) (hz : z < 0) (w : World) : Calls Tryd.prog 70 #[.int .i64 z] w fun e w' => e = .returned (.tuple #[.string ⟨#[]⟩, .int .i64 1]) ∧ Below w.heap.size w w' := by
  have d1 : decide (z < 0) = true := decide_eq_true hz
  go_enter Tryd.func70, Tryd.ntmps70
  go_wp2
  go_ret2
  exact ⟨rfl, Below.refl _ _⟩
end Go.Proofs.YtopfcfbiaadfeaaDoor
