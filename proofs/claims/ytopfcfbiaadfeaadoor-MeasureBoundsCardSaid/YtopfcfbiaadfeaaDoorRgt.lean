/- The rule for drawn regions, a predicate a value, over any relation between worlds that is reflexive and transitive. No program in sight. -/
import Derived.Test.YtopfcfbiaadfeaaDoorReg
namespace Go.Proofs.YtopfcfbiaadfeaaDoor
set_option linter.unusedSimpArgs false
set_option linter.unusedVariables false
set_option linter.unusedSectionVars false
open Go.RowKit

def StPreT (T : World → World → Prop) (P : Program) (ops : Array Oper) (Q : Exit → Act → World → Prop) (V : List VP) (Wr : Nat → Prop) (ds : List (Option Tmp)) (w0 : World) (a0 : Act) (o : Oper) (x : VP) : Prop :=
  ∀ (t : Array Value) (w : World), T w0 w → DepF ds a0 (fun j => V.getD j anyV) (fun j => dep o j = true) t w → OldF Wr a0 t →
    ∀ K : Act → World → Prop, (∀ v w', T w w' → x v w' → K (Act.put ⟨t, a0.defers⟩ o.dst v) w') →
      if Region.wanted o (yielded ops t) = true then o.wp P ⟨t, a0.defers⟩ w K Q else K (Act.put ⟨t, a0.defers⟩ o.dst undef) w
def RaAllT (T : World → World → Prop) (P : Program) (ops : Array Oper) (Q : Exit → Act → World → Prop) (V : List VP) (ds : List (Option Tmp)) (w0 : World) (a0 : Act) : List Oper → List VP → Prop
  | o :: r, x :: xs => StPreT T P ops Q V (notIn ds) ds w0 a0 o x ∧ RaAllT T P ops Q V ds w0 a0 r xs
  | [], [] => True
  | _, _ => False
theorem RaAllT.get {T : World → World → Prop} {P : Program} {ops : Array Oper} {Q : Exit → Act → World → Prop} {V : List VP} {ds : List (Option Tmp)} {w0 : World} {a0 : Act} : ∀ (l : List Oper) (xs : List VP), RaAllT T P ops Q V ds w0 a0 l xs → ∀ i o, l[i]? = some o → StPreT T P ops Q V (notIn ds) ds w0 a0 o (xs.getD i anyV) := by
  intro l
  induction l with
  | nil => intro xs _ i o h; simp at h
  | cons o r ih =>
    intro xs h i o' ho
    cases xs with
    | nil => exact h.elim
    | cons x xs =>
      cases i with
      | zero => simp at ho; subst ho; exact h.1
      | succ i => exact ih xs h.2 i o' (by simpa using ho)
theorem wp_reg_t (T : World → World → Prop) (h0 : ∀ w, T w w) (htr : ∀ a b c, T a b → T b c → T a c) {P : Program} {l : List Oper} {Q : Exit → Act → World → Prop} {id : Nat} {a : Act} {w : World} (ds : List (Option Tmp)) (V : List VP) (hds : l.map (·.dst) = ds) (hm : P.follows .mixedOrders = true)
    (hd : distinct ds = true) (hf : fwdFrom l 0 = true) (hkeep : ∀ i v w w', V.getD i anyV v w → T w w' → V.getD i anyV v w') (hsteps : RaAllT T P l.toArray Q V ds w.drew a l V)
    (hpost : ∀ u w', T w.drew w' → (∀ i, i < l.length → V.getD i anyV (u i) w') → Q .normal (putAll ds 0 u a) w') : (Code.region id l.toArray true).wp P Q a w := by
  have hds' : dsts l.toArray = ds := hds
  subst hds'
  refine wp_reg (fun i v w => V.getD i anyV v w) T hm h0 htr hkeep hd hf ?_ fun u w' hT hu => ?_
  · have key : ∀ n, n ≤ l.toArray.size → RegSteps P l.toArray Q (fun i v w => V.getD i anyV v w) T w.drew a n := by
      intro n
      induction n with
      | zero => exact fun _ => trivial
      | succ n ih =>
        intro hn
        refine ⟨ih (by omega), fun o ho u w hT hV K hK => ?_⟩
        have := (hsteps.get l V n o (by simpa using ho)) (putAll (dsts l.toArray) 0 u a).tmps w hT (depF_of hd hV) oldF_of K (by rw [← frame_of]; exact hK)
        rw [← frame_of] at this
        exact this
    exact key _ (Nat.le_refl _)
  · exact hpost u w' hT (fun i hi => hu i (by simpa using hi))
/-- A relation that keeps an invariant, and two more facts under it. -/
def KR (S : Nat → Prop) (I G1 G2 : World → Prop) (w w' : World) : Prop := Chg S w w' ∧ (I w → I w' ∧ (G1 w → G1 w') ∧ (G2 w → G2 w'))
theorem KR.refl {S : Nat → Prop} {I G1 G2 : World → Prop} (w : World) : KR S I G1 G2 w w := ⟨Chg.refl _ _, fun h => ⟨h, id, id⟩⟩
theorem KR.trans {S : Nat → Prop} {I G1 G2 : World → Prop} (a b c : World) (h : KR S I G1 G2 a b) (h' : KR S I G1 G2 b c) : KR S I G1 G2 a c :=
  ⟨h.1.trans h'.1, fun hi => ⟨(h'.2 (h.2 hi).1).1, fun g => (h'.2 (h.2 hi).1).2.1 ((h.2 hi).2.1 g), fun g => (h'.2 (h.2 hi).1).2.2 ((h.2 hi).2.2 g)⟩⟩
end Go.Proofs.YtopfcfbiaadfeaaDoor
