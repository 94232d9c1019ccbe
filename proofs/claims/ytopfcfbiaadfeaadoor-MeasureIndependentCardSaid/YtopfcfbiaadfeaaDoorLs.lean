/- Chapter 37's some and known. -/
import Derived.Test.YtopfcfbiaadfeaaDoorBi
import Derived.Test.YtopfcfbiaadfeaaDoorNm
namespace Go.Proofs.YtopfcfbiaadfeaaDoor
set_option linter.unusedSimpArgs false
set_option linter.unusedVariables false
set_option linter.unusedSectionVars false
open Go.RowKit Dg

theorem Chg.fresh {S : Nat → Prop} {w w' : World} (h : Chg S w w') {g : Nat} (hg : w.heap.size ≤ g) (i : Nat) (u : Value) : Chg S w (w'.setCell ⟨g, i, none⟩ u) :=
  ⟨h.os, h.tape, h.output, by have := h.size; simpa [World.setCell] using this, fun k hk hs => (Below.heap_setCell _ _ _ _ (fun e => by have e2 : k = g := e; omega)).trans (h.block k hk hs)⟩
theorem tape_fin {w w1 : World} {p : Nat} {A : Option Addr} {l : List Int} {c a0 a1 g : Nat} (h0 : Tape w p A l c a0) (h : Tape w1 p A l c a1) (hc : Chg (fun k => k = p) w w1) (hg : w.heap.size ≤ g) (hne : ¬ (g = p)) (x y z : Value) :
    Tape (((w1.setCell ⟨g, 0, none⟩ x).setCell ⟨g, 1, none⟩ y).setCell ⟨g, 2, none⟩ z) p A l c a1 ∧ Chg (fun k => k = p) w (((w1.setCell ⟨g, 0, none⟩ x).setCell ⟨g, 1, none⟩ y).setCell ⟨g, 2, none⟩ z) := by
  have hcc := ((hc.fresh hg 0 x).fresh hg 1 y).fresh hg 2 z
  have hp : ∀ i, p ≠ (⟨g, i, none⟩ : Addr).block := fun i e => hne e.symm
  exact ⟨⟨((h.own.far (hp 0) x).far (hp 1) y).far (hp 2) z, RdOut.chg h0.rd hcc, h.le, h.few, h.wf⟩, hcc⟩
theorem known_log {x : Rat} {k : Nat} {n : Int} (hx : Few 70 x) (h0 : 0 < x) (hk : k ≤ 8) (hn : IsLog (x ^ (2 ^ k)) n) (b : Bool) (hb : b = decide (p2 n = x ^ (2 ^ k))) :
    RetV 54 #[RV x, .int .i64 (k : Int)] (.tuple #[.int .i64 n, .bool b, .int .i64 0]) := by
  obtain ⟨m, hm, -, -, hl, -⟩ := ebits_yes hx h0 hk (default : World)
  rw [hm.eq hn] at hl
  rw [hb]
  exact hl
end Go.Proofs.YtopfcfbiaadfeaaDoor
