/- Parts of the proof: Ls, Lf, Lh, Li, Lk. No condition of its own. -/
import Derived.Test.YtopfcfbiaadfeaaGreatDoorBi
import Derived.Test.YtopfcfbiaadfeaaGreatDoorLa
set_option linter.unusedSimpArgs false
set_option linter.unusedVariables false
set_option linter.unusedSectionVars false
namespace Go.Proofs.YtopfcfbiaadfeaaGreatDoor
open Go.RowKit Dg

theorem Chg.fresh {S : Nat → Prop} {w w' : World} (h : Chg S w w') {g : Nat} (hg : w.heap.size ≤ g) (i : Nat) (u : Value) : Chg S w (w'.setCell ⟨g, i, none⟩ u) :=
  ⟨h.os, h.tape, h.output, by have := h.size; simpa [World.setCell] using this, fun k hk hs => (Below.heap_setCell _ _ _ _ (fun e => by have e2 : k = g := e; omega)).trans (h.block k hk hs)⟩
open Go.RowKit Dg

theorem Few.mono {j k : Nat} {x : Rat} (h : Few j x) (hjk : j ≤ k) : Few k x := ⟨Nat.le_trans h.1 hjk, Nat.le_trans h.2 hjk⟩
theorem few_mul' {j k : Nat} (h0 : 0 < j + k) {x y : Rat} (hx : Few j x) (hy : Few k y) : Few (j + k) (x * y) := by
  have e : x * y = rat (decide (x.num < 0) != decide (y.num < 0)) (x.num.natAbs * y.num.natAbs) (x.den * y.den) := by rw [rat_mul, rat_self, rat_self]
  have hd : 0 < x.den * y.den := Nat.mul_pos (den_pos x) (den_pos y); have few_lt : ∀ {n k : Nat}, (dec n).length ≤ k → n < 10 ^ k := fun h => Nat.lt_of_lt_of_le (dec_lt _) (Nat.pow_le_pow_right (by decide) h); rw [e]; refine few_rat hd (dec_len_le h0 ?_) (dec_len_le h0 ?_)
  · rw [Nat.pow_add]; exact Nat.mul_lt_mul'' (few_lt hx.1) (few_lt hy.1)
  · rw [Nat.pow_add]; exact Nat.mul_lt_mul'' (few_lt hx.2) (few_lt hy.2)
theorem mod_small (x : Int) (n : Nat) (h1 : -9223372036854775808 ≤ x) (h2 : x ≤ 9223372036854775807) (hn : 0 < n) (hn2 : n ≤ 1000000) : ∃ k : Nat, k < n ∧ ∀ w, Calls Tryz.prog 12 #[.int .i64 x, .int .i64 (n : Int)] w fun e w' => e = .returned (.int .i64 (k : Int)) ∧ w = w' := by
  have hr1 := Int.emod_nonneg x (show (n : Int) ≠ 0 by omega); have hr2 := Int.emod_lt_of_pos x (show (0 : Int) < n by omega); obtain ⟨r, hr⟩ : ∃ r : Nat, x % (n : Int) = (r : Int) := ⟨(x % (n : Int)).toNat, by omega⟩; exact ⟨r, by omega, fun w => (mod_any x n w hn hn2 h1 h2).mono fun e w' ⟨h1, h2⟩ => ⟨by rw [h1, hr], h2⟩⟩

open Go.RowKit Dg

theorem cmpR_le {x y : Rat} : cmpR x y ≤ 0 ↔ x ≤ y := by
  have h := cmpR_gt (x := x) (y := y); rw [← Rat.not_lt, ← h]; omega
theorem uq_le {a b : Int} {j k : Nat} : uq a j ≤ uq b k ↔ a * ((2 ^ k : Nat) : Int) ≤ b * ((2 ^ j : Nat) : Int) := by
  rw [uq_eq, uq_eq]; have hj : (0 : Rat) < ((2 ^ j : Nat) : Rat) := Rat.natCast_pos.2 (Nat.pow_pos (by decide)); have hk : (0 : Rat) < ((2 ^ k : Nat) : Rat) := Rat.natCast_pos.2 (Nat.pow_pos (by decide)); rw [← Rat.not_lt, Rat.lt_div_iff hj]; have e : ∀ p q r : Rat, p / q * r = p * r / q := by intro p q r; rw [Rat.div_def, Rat.div_def, Rat.mul_assoc, Rat.mul_comm q⁻¹, ← Rat.mul_assoc]
  rw [e, Rat.div_lt_iff hk]; have e1 : ∀ (a : Int) (n : Nat), (a : Rat) * (n : Rat) = ((a * n : Int) : Rat) := by intro a n; rw [Rat.intCast_mul]; rfl
  rw [e1, e1, Rat.intCast_lt_intCast]
  omega
theorem evalid_yes {x y : Rat} (hx : OkR x) (hy : OkR y) : RetV 122 #[IV x y] (.bool (decide (x ≤ y))) := by
  have h := evalid_core _ _ _ _ _ _ true true (cmpR x y) (fun w => isratio_yes w hx) (fun w => isratio_yes w hy) (fun _ _ w => rcmp_yes hx hy w); have e : (true && (true && decide (cmpR x y ≤ 0))) = decide (x ≤ y) := by
    simp [cmpR_le]
  rw [e] at h; exact h
open Go.RowKit Dg

def TC (w0 w : World) (p : Nat) (A : Option Addr) (l : List Int) (c a : Nat) : Prop := Tape w p A l c a ∧ Chg (fun k => k = p) w0 w
section
variable {w0 w w' : World} {p : Nat} {A : Option Addr} {l : List Int} {c a a0 : Nat}
theorem TC.below (h : TC w0 w p A l c a) (hb : Below w.heap.size w w') : TC w0 w' p A l c a := ⟨h.1.below hb, h.2.trans (Chg.of_below hb fun k h1 h2 => by omega)⟩
theorem TC.set (h : TC w0 w p A l c a) (h0 : Tape w0 p A l c a0) {g : Nat} (hg : w0.heap.size ≤ g) (i : Nat) (u : Value) : TC w0 (w.setCell ⟨g, i, none⟩ u) p A l c a := by
  have hc := h.2.fresh hg i u; have hlt := h0.own.lt; have hne : p ≠ (⟨g, i, none⟩ : Addr).block := fun e => by have e2 : p = g := e; omega
  exact ⟨⟨h.1.own.far hne u, RdOut.chg h0.rd hc, h.1.le, h.1.few, h.1.wf⟩, hc⟩
theorem TC.set3 (h : TC w0 w p A l c a) (h0 : Tape w0 p A l c a0) {g : Nat} (hg : w0.heap.size ≤ g) (x y z : Value) : TC w0 (((w.setCell ⟨g, 0, none⟩ x).setCell ⟨g, 1, none⟩ y).setCell ⟨g, 2, none⟩ z) p A l c a :=
  ((h.set h0 hg 0 x).set h0 hg 1 y).set h0 hg 2 z
theorem TC.set6 (h : TC w0 w p A l c a) (h0 : Tape w0 p A l c a0) {g : Nat} (hg : w0.heap.size ≤ g) (u v x y z q : Value) : TC w0 ((((((w.setCell ⟨g, 0, none⟩ u).setCell ⟨g, 1, none⟩ v).setCell ⟨g, 2, none⟩ x).setCell ⟨g, 3, none⟩ y).setCell ⟨g, 4, none⟩ z).setCell ⟨g, 5, none⟩ q) p A l c a :=
  (((((h.set h0 hg 0 u).set h0 hg 1 v).set h0 hg 2 x).set h0 hg 3 y).set h0 hg 4 z).set h0 hg 5 q
theorem Own.far3 {g : Nat} {t : TypeId} {cs : List Value} (h : Own w g t cs) {b : Nat} (hb : g ≠ b) (x y z : Value) : Own (((w.setCell ⟨b, 0, none⟩ x).setCell ⟨b, 1, none⟩ y).setCell ⟨b, 2, none⟩ z) g t cs :=
  ((h.far (p := ⟨b, 0, none⟩) hb x).far (p := ⟨b, 1, none⟩) hb y).far (p := ⟨b, 2, none⟩) hb z
end
theorem rcmpr_yes {x y : Rat} (hx : OkR x) (hy : OkR y) : RetV 67 #[RV x, RV y] (.int .i64 (cmpR x y)) := fun w =>
  cmpr_core _ _ _ _ _ _ x.num.natAbs x.den y.num.natAbs y.den _ (cmpR_sgn x y _ _ _ _ _ _ (rat_self x).symm (rat_self y).symm (den_pos x) (den_pos y) (fun h => by have := of_decide_eq_true h.1; omega) (fun h => by have := of_decide_eq_true h.1; omega))
    (fun w => isratior_yes w hx) (fun w => isratior_yes w hy) (fun w => big_S _ w hx.1) (fun w => big_S _ w hx.2) (fun w => big_S _ w hy.1) (fun w => big_S _ w hy.2) (den_pos x) (den_pos y) hx.1.dk hx.2.dk hy.1.dk hy.2.dk w

open Go.RowKit Dg

theorem rvalid_yes {x y : Rat} (hx : OkR x) (hy : OkR y) : RetV 127 #[IV x y] (.bool (decide (x ≤ y))) := by
  have h := rvalid_core _ _ _ _ _ _ true true (cmpR x y) (fun w => isratior_yes w hx) (fun w => isratior_yes w hy) (fun _ _ => rcmpr_yes hx hy); have e : (true && (true && decide (cmpR x y ≤ 0))) = decide (x ≤ y) := by
    simp [cmpR_le]
  rw [e] at h; exact h
end Go.Proofs.YtopfcfbiaadfeaaGreatDoor
