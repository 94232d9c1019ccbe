/- Chapter 37's interval. -/
import Derived.Test.YtopfcfbiaadfeaaDoorLh
namespace Go.Proofs.YtopfcfbiaadfeaaDoor
set_option linter.unusedSimpArgs false
set_option linter.unusedVariables false
set_option linter.unusedSectionVars false
open Go.RowKit Dg

/-- The tape, and that nothing else that was there has turned. -/
def TC (w0 w : World) (p : Nat) (A : Option Addr) (l : List Int) (c a : Nat) : Prop := Tape w p A l c a ∧ Chg (fun k => k = p) w0 w
section
variable {w0 w w' : World} {p : Nat} {A : Option Addr} {l : List Int} {c a a0 : Nat}
theorem TC.below (h : TC w0 w p A l c a) (hb : Below w.heap.size w w') : TC w0 w' p A l c a := ⟨h.1.below hb, h.2.trans (Chg.of_below hb fun k h1 h2 => by omega)⟩
theorem TC.set (h : TC w0 w p A l c a) (h0 : Tape w0 p A l c a0) {g : Nat} (hg : w0.heap.size ≤ g) (i : Nat) (u : Value) : TC w0 (w.setCell ⟨g, i, none⟩ u) p A l c a := by
  have hc := h.2.fresh hg i u
  have hlt := h0.own.lt
  have hne : p ≠ (⟨g, i, none⟩ : Addr).block := fun e => by have e2 : p = g := e; omega
  exact ⟨⟨h.1.own.far hne u, RdOut.chg h0.rd hc, h.1.le, h.1.few, h.1.wf⟩, hc⟩
theorem TC.set3 (h : TC w0 w p A l c a) (h0 : Tape w0 p A l c a0) {g : Nat} (hg : w0.heap.size ≤ g) (x y z : Value) : TC w0 (((w.setCell ⟨g, 0, none⟩ x).setCell ⟨g, 1, none⟩ y).setCell ⟨g, 2, none⟩ z) p A l c a :=
  ((h.set h0 hg 0 x).set h0 hg 1 y).set h0 hg 2 z
theorem TC.set6 (h : TC w0 w p A l c a) (h0 : Tape w0 p A l c a0) {g : Nat} (hg : w0.heap.size ≤ g) (u v x y z q : Value) : TC w0 ((((((w.setCell ⟨g, 0, none⟩ u).setCell ⟨g, 1, none⟩ v).setCell ⟨g, 2, none⟩ x).setCell ⟨g, 3, none⟩ y).setCell ⟨g, 4, none⟩ z).setCell ⟨g, 5, none⟩ q) p A l c a :=
  (((((h.set h0 hg 0 u).set h0 hg 1 v).set h0 hg 2 x).set h0 hg 3 y).set h0 hg 4 z).set h0 hg 5 q
theorem Own.far3 {g : Nat} {t : TypeId} {cs : List Value} (h : Own w g t cs) {b : Nat} (hb : g ≠ b) (x y z : Value) : Own (((w.setCell ⟨b, 0, none⟩ x).setCell ⟨b, 1, none⟩ y).setCell ⟨b, 2, none⟩ z) g t cs :=
  ((h.far (p := ⟨b, 0, none⟩) hb x).far (p := ⟨b, 1, none⟩) hb y).far (p := ⟨b, 2, none⟩) hb z
end
theorem rcmpr_yes {x y : Rat} (hx : OkR x) (hy : OkR y) : RetV 43 #[RV x, RV y] (.int .i64 (cmpR x y)) := fun w =>
  cmpr_core _ _ _ _ _ _ x.num.natAbs x.den y.num.natAbs y.den _ (cmpR_sgn x y _ _ _ _ _ _ (rat_self x).symm (rat_self y).symm (den_pos x) (den_pos y) (fun h => by have := of_decide_eq_true h.1; omega) (fun h => by have := of_decide_eq_true h.1; omega))
    (fun w => isratior_yes w hx) (fun w => isratior_yes w hy) (fun w => big_S _ w hx.1) (fun w => big_S _ w hx.2) (fun w => big_S _ w hy.1) (fun w => big_S _ w hy.2) (den_pos x) (den_pos y) hx.1.dk hx.2.dk hy.1.dk hy.2.dk w

end Go.Proofs.YtopfcfbiaadfeaaDoor
