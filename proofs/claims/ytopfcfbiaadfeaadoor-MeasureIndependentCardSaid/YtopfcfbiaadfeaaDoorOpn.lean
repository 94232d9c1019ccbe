/- Arguments as the row reads them, opened to the words of this proof. -/
import Derived.Test.YtopfcfbiaadfeaaDoorLa
import Derived.Test.YtopfcfbiaadfeaaDoorRows
import Derived.Test.YtopfcfbiaadfeaaDoorChecked
import Derived.ProofKit
import Derived.OpenShut
import Derived.ChangeOld
import Derived.Deep.Slices
import Derived.Deep.Fields
import Derived.Lib.SmallJoins
namespace Go.Proofs.YtopfcfbiaadfeaaDoor
set_option linter.unusedSimpArgs false
set_option linter.unusedVariables false
set_option linter.unusedSectionVars false
open Go.ChangeShapes Go.WideShapes Go.ChangeAt Go.RowKit Go.Deep

theorem addr_lit {w : World} {x : Addr} {u : Value} (h : w.cell? (x.add 0) = some u) : x = ⟨x.block, x.off, none⟩ := by
  obtain ⟨b, off, spot⟩ := x
  have hs : spot = none := by simpa [Addr.add] using World.cell?_spot h
  subst hs
  rfl
theorem wide_of {n : Int} (h : (Lit.int .i64 n).wf = true) : -9223372036854775808 ≤ n ∧ n ≤ 9223372036854775807 := by
  have e1 : IntKind.i64.min = -9223372036854775808 := by decide
  have e2 : IntKind.i64.max = 9223372036854775807 := by decide
  simp [Lit.wf] at h
  omega

section
variable {H : Type} {enc : TypeId × Value → H} {P : Program} {w : World} {base : Nat} {spare : Nat → Bool} {held : Bool}
theorem ints_of2 {t e : TypeId} {a : Option Addr} {len cap : Nat} {d : DataW H} {p : List MemPlace} (ht : P.underlying t = some (.slice e)) (he : P.underlying e = some (.int .i64)) (hc : P.cellsOf e = 1)
    (h : DataW.Trod enc P w base spare held t (.slice a len cap) d p) : ∃ l : List Int, l.length = len ∧ len ≤ cap ∧ cap ≤ maxLen ∧ Ints w a l ∧ Wide l := by
  obtain ⟨fuel, hf⟩ := h
  rcases open_ints ht he hc hf with ⟨hcs, _⟩ | ⟨x, l, c, zs, hcs, _, hl, hm, hz, _, hcell, hwz⟩
  · simp [Value.cells] at hcs
    obtain ⟨rfl, rfl, rfl⟩ := hcs
    exact ⟨[], rfl, by omega, by simp [maxLen], Rd.nil _ _, by intro x hx; simp at hx⟩
  · simp [Value.cells] at hcs
    obtain ⟨rfl, rfl, rfl⟩ := hcs
    have hz' : len ≤ zs.length := by rw [hz]; split <;> omega
    refine ⟨zs.take len, by rw [List.length_take]; omega, by omega, by omega, ?_, fun n hn => wide_of (hwz n (List.mem_of_mem_take hn))⟩
    intro j u hu
    have hj : j < len ∧ j < zs.length := by
      have := (List.getElem?_eq_some_iff.1 hu).1
      simp only [ci, List.length_map, List.length_take] at this
      omega
    have hcj := hcell j hj.2
    have e := addr_lit (hcell 0 (by omega))
    refine ⟨x.block, x.off, by rw [← e], ?_⟩
    rw [e, Addr.add_lit] at hcj
    rw [hcj]
    have : (ci (zs.take len))[j]? = some (.int .i64 (zs.getD j 0)) := by
      simp only [ci, List.getElem?_map, List.getElem?_take, hj.1, if_true, List.getD, List.getElem?_eq_getElem hj.2]
      rfl
    rw [this] at hu
    exact hu
end
end Go.Proofs.YtopfcfbiaadfeaaDoor
