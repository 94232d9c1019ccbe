/- Blocks laid one behind the other. No program in sight. -/
import Derived.Test.YtofijnhkoadfjaaMem
namespace Go.Proofs.Ytofijnhkoadfjaa
set_option linter.unusedSimpArgs false
set_option linter.unusedVariables false
set_option linter.unusedSectionVars false
open Go.RowKit

theorem new1 (w : World) (c1 : List Value) (t1 : TypeId) : Own (w.alloc (.cells c1.toArray t1)) w.heap.size t1 c1 ∧ Below w.heap.size w (w.alloc (.cells c1.toArray t1)) :=
  ⟨Own.new w _ _, (Below.refl _ _).alloc (Nat.le_refl _) _⟩
theorem new2 (w : World) (c1 c2 : List Value) (t1 t2 : TypeId) :
    Own ((w.alloc (.cells c1.toArray t1)).alloc (.cells c2.toArray t2)) w.heap.size t1 c1 ∧ Own ((w.alloc (.cells c1.toArray t1)).alloc (.cells c2.toArray t2)) (w.heap.size + 1) t2 c2 ∧
    Below w.heap.size w ((w.alloc (.cells c1.toArray t1)).alloc (.cells c2.toArray t2)) := by
  refine ⟨(new1 w c1 t1).1.alloc _, ?_, (new1 w c1 t1).2.alloc (by rw [size1]; omega) _⟩
  have := Own.new (w.alloc (.cells c1.toArray t1)) t2 c2
  rw [size1] at this
  exact this
theorem new3 (w : World) (c1 c2 c3 : List Value) (t1 t2 t3 : TypeId) :
    Own (((w.alloc (.cells c1.toArray t1)).alloc (.cells c2.toArray t2)).alloc (.cells c3.toArray t3)) w.heap.size t1 c1 ∧ Own (((w.alloc (.cells c1.toArray t1)).alloc (.cells c2.toArray t2)).alloc (.cells c3.toArray t3)) (w.heap.size + 1) t2 c2 ∧
    Own (((w.alloc (.cells c1.toArray t1)).alloc (.cells c2.toArray t2)).alloc (.cells c3.toArray t3)) (w.heap.size + 1 + 1) t3 c3 ∧
    Below w.heap.size w (((w.alloc (.cells c1.toArray t1)).alloc (.cells c2.toArray t2)).alloc (.cells c3.toArray t3)) := by
  obtain ⟨h1, h2, h3⟩ := new2 w c1 c2 t1 t2
  refine ⟨h1.alloc _, h2.alloc _, ?_, h3.alloc (by rw [size2]; omega) _⟩
  have := Own.new ((w.alloc (.cells c1.toArray t1)).alloc (.cells c2.toArray t2)) t3 c3
  rw [size2] at this
  exact this
theorem Own.set3 {w : World} {g : Nat} {t : TypeId} {a b c : Value} (h : Own w g t [a, b, c]) (x y z : Value) :
    Own (((w.setCell ⟨g, 0, none⟩ x).setCell ⟨g, 1, none⟩ y).setCell ⟨g, 2, none⟩ z) g t [x, y, z] := ((h.set_ 0 x).set_ 1 y).set_ 2 z
theorem Below.set3 {B : Nat} {w w' : World} (h : Below B w w') {g : Nat} (hg : B ≤ g) (x y z : Value) :
    Below B w (((w'.setCell ⟨g, 0, none⟩ x).setCell ⟨g, 1, none⟩ y).setCell ⟨g, 2, none⟩ z) := ((h.setCell hg x).setCell hg y).setCell hg z
theorem Chg.set3 {S : Nat → Prop} {w w' : World} (h : Chg S w w') {g : Nat} (hg : S g) (x y z : Value) :
    Chg S w (((w'.setCell ⟨g, 0, none⟩ x).setCell ⟨g, 1, none⟩ y).setCell ⟨g, 2, none⟩ z) := ((h.setCell (p := ⟨g, 0, none⟩) hg x).setCell (p := ⟨g, 1, none⟩) hg y).setCell (p := ⟨g, 2, none⟩) hg z
/-- A word that no cell of a block is. -/
theorem Rd.set_own {w : World} {A : Option Addr} {xs cs : List Value} {g : Nat} {t : TypeId} (h : Rd w A xs) (ho : Own w g t cs) (hne : ∀ c ∈ cs, c ∉ xs) (i : Nat) (u : Value) : Rd (w.setCell ⟨g, i, none⟩ u) A xs := by
  intro j x hx
  obtain ⟨b, off, e, hc⟩ := h j x hx
  refine ⟨b, off, e, ?_⟩
  have hb : b ≠ g := by
    intro e2
    subst e2
    rw [ho.cell] at hc
    exact hne x (List.mem_of_getElem? hc) (List.mem_of_getElem? hx)
  rw [World.cell?_setCell_other _ _ _ _ (by intro e2; injection e2 with e3; exact hb e3.symm)]
  exact hc
theorem Rd.set3 {w : World} {A : Option Addr} {xs : List Value} {g : Nat} {t : TypeId} {a b c : Value} (h : Rd w A xs) (ho : Own w g t [a, b, c]) (x y z : Value) (hne : ∀ v ∈ [a, b, c, x, y, z], v ∉ xs) :
    Rd (((w.setCell ⟨g, 0, none⟩ x).setCell ⟨g, 1, none⟩ y).setCell ⟨g, 2, none⟩ z) A xs := by
  refine ((h.set_own ho ?_ 0 x).set_own (ho.set_ 0 x) ?_ 1 y).set_own ((ho.set_ 0 x).set_ 1 y) ?_ 2 z
  · intro v hv; exact hne v (by simp at hv ⊢; rcases hv with h | h | h <;> simp [h])
  · intro v hv; exact hne v (by simp at hv ⊢; rcases hv with h | h | h <;> simp [h])
  · intro v hv; exact hne v (by simp at hv ⊢; rcases hv with h | h | h <;> simp [h])
end Go.Proofs.Ytofijnhkoadfjaa
