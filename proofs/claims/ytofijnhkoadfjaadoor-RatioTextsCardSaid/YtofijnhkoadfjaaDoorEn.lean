/- Intervals: Valid, Exact, ends, Add, Scale, Contains, Compare; of the program and of the reference. -/
import Derived.Test.YtofijnhkoadfjaaDoorJb
namespace Go.Proofs.YtofijnhkoadfjaaDoor
set_option linter.unusedSimpArgs false
set_option linter.unusedVariables false
set_option linter.unusedSectionVars false
open Go.RowKit Dg

/-- A function that returns one value at these arguments, whatever the world. -/
def RetV (f : FuncId) (args : Array Value) (v : Value) : Prop := ∀ w, Calls Tryd.prog f args w fun e w' => e = .returned v ∧ Below w.heap.size w w'
theorem Own.set6 {w : World} {g : Nat} {t : TypeId} {a b c d e f : Value} (h : Own w g t [a, b, c, d, e, f]) (u v x y z q : Value) :
    Own ((((((w.setCell ⟨g, 0, none⟩ u).setCell ⟨g, 1, none⟩ v).setCell ⟨g, 2, none⟩ x).setCell ⟨g, 3, none⟩ y).setCell ⟨g, 4, none⟩ z).setCell ⟨g, 5, none⟩ q) g t [u, v, x, y, z, q] :=
  (((((h.set_ 0 u).set_ 1 v).set_ 2 x).set_ 3 y).set_ 4 z).set_ 5 q
theorem Below.set6 {B : Nat} {w w' : World} (h : Below B w w') {g : Nat} (hg : B ≤ g) (u v x y z q : Value) :
    Below B w ((((((w'.setCell ⟨g, 0, none⟩ u).setCell ⟨g, 1, none⟩ v).setCell ⟨g, 2, none⟩ x).setCell ⟨g, 3, none⟩ y).setCell ⟨g, 4, none⟩ z).setCell ⟨g, 5, none⟩ q) :=
  (((((h.setCell hg u).setCell hg v).setCell hg x).setCell hg y).setCell hg z).setCell hg q
theorem new4 (w : World) (c1 c2 c3 c4 : List Value) (t1 t2 t3 t4 : TypeId) :
    Own ((((w.alloc (.cells c1.toArray t1)).alloc (.cells c2.toArray t2)).alloc (.cells c3.toArray t3)).alloc (.cells c4.toArray t4)) w.heap.size t1 c1 ∧ Own ((((w.alloc (.cells c1.toArray t1)).alloc (.cells c2.toArray t2)).alloc (.cells c3.toArray t3)).alloc (.cells c4.toArray t4)) (w.heap.size + 1) t2 c2 ∧
    Own ((((w.alloc (.cells c1.toArray t1)).alloc (.cells c2.toArray t2)).alloc (.cells c3.toArray t3)).alloc (.cells c4.toArray t4)) (w.heap.size + 1 + 1) t3 c3 ∧ Own ((((w.alloc (.cells c1.toArray t1)).alloc (.cells c2.toArray t2)).alloc (.cells c3.toArray t3)).alloc (.cells c4.toArray t4)) (w.heap.size + 1 + 1 + 1) t4 c4 ∧
    Below w.heap.size w ((((w.alloc (.cells c1.toArray t1)).alloc (.cells c2.toArray t2)).alloc (.cells c3.toArray t3)).alloc (.cells c4.toArray t4)) := by
  obtain ⟨h1, h2, h3, h4⟩ := new3 w c1 c2 c3 t1 t2 t3
  have hs : (((w.alloc (.cells c1.toArray t1)).alloc (.cells c2.toArray t2)).alloc (.cells c3.toArray t3)).heap.size = w.heap.size + 1 + 1 + 1 := by simp
  refine ⟨h1.alloc _, h2.alloc _, h3.alloc _, ?_, h4.alloc (by rw [hs]; omega) _⟩
  have := Own.new (((w.alloc (.cells c1.toArray t1)).alloc (.cells c2.toArray t2)).alloc (.cells c3.toArray t3)) t4 c4
  rw [hs] at this
  exact this
end Go.Proofs.YtofijnhkoadfjaaDoor
