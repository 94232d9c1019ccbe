/- The rule for drawn regions once more: of each value a predicate is known ahead (an address may hang on the order). No program in sight. -/
import Derived.Test.YtofijnhkoadfjaaReg2
namespace Go.Proofs.Ytofijnhkoadfjaa
set_option linter.unusedSimpArgs false
set_option linter.unusedVariables false
set_option linter.unusedSectionVars false
open Go.RowKit

abbrev VP := Value → World → Prop
abbrev isV (c : Value) : VP := fun v _ => v = c
def anyV : VP := fun _ _ => True
def RelStep (P : Program) (ops : Array Oper) (Q : Exit → Act → World → Prop) (c : List VP) (ds : List (Option Tmp)) (w0 : World) (a0 : Act) (o : Oper) (x : VP) : Prop :=
  ∀ (u : Nat → Value) (w : World), Grow w0 w → (∀ j, dep o j = true → c.getD j anyV (u j) w) →
    ∀ K : Act → World → Prop, (∀ v w', Grow w w' → x v w' → K ((putAll ds 0 u a0).put o.dst v) w') →
      if Region.wanted o (yielded ops (putAll ds 0 u a0).tmps) = true then o.wp P (putAll ds 0 u a0) w K Q else K ((putAll ds 0 u a0).put o.dst undef) w
def RelSteps (P : Program) (ops : Array Oper) (Q : Exit → Act → World → Prop) (c : List VP) (ds : List (Option Tmp)) (w0 : World) (a0 : Act) : List Oper → List VP → Prop
  | o :: r, x :: xs => RelStep P ops Q c ds w0 a0 o x ∧ RelSteps P ops Q c ds w0 a0 r xs
  | [], [] => True
  | _, _ => False
theorem RelSteps.get {P : Program} {ops : Array Oper} {Q : Exit → Act → World → Prop} {c : List VP} {ds : List (Option Tmp)} {w0 : World} {a0 : Act} : ∀ (l : List Oper) (xs : List VP), RelSteps P ops Q c ds w0 a0 l xs → ∀ i o, l[i]? = some o → RelStep P ops Q c ds w0 a0 o (xs.getD i anyV) := by
  intro l
  induction l with
  | nil => intro xs _ i o h; simp at h
  | cons o r ih =>
    intro xs h i o' ho
    cases xs with
    | nil => exact h.elim
    | cons x xs =>
      cases i with
      | zero => simp at ho; subst ho; exact h.1
      | succ i => exact ih xs h.2 i o' (by simpa using ho)
theorem wp_reg_rel {P : Program} {l : List Oper} {Q : Exit → Act → World → Prop} {id : Nat} {a : Act} {w : World} (ds : List (Option Tmp)) (c : List VP) (hds : l.map (·.dst) = ds) (hm : P.follows .mixedOrders = true)
    (hd : distinct ds = true) (hf : fwdFrom l 0 = true) (hkeep : ∀ i v w w', c.getD i anyV v w → Grow w w' → c.getD i anyV v w') (hsteps : RelSteps P l.toArray Q c ds w.drew a l c)
    (hpost : ∀ u w', Below w.heap.size w w' → (∀ i, i < l.length → c.getD i anyV (u i) w') → Q .normal (putAll ds 0 u a) w') : (Code.region id l.toArray true).wp P Q a w := by
  have hds' : dsts l.toArray = ds := hds
  subst hds'
  refine wp_reg (fun i v w => c.getD i anyV v w) Grow hm Grow.refl Grow.trans hkeep hd hf ?_ fun u w' hT hu => ?_
  · have key : ∀ n, n ≤ l.toArray.size → RegSteps P l.toArray Q (fun i v w => c.getD i anyV v w) Grow w.drew a n := by
      intro n
      induction n with
      | zero => exact fun _ => trivial
      | succ n ih =>
        intro hn
        exact ⟨ih (by omega), fun o ho u w hT hV K hK => (hsteps.get l c n o (by simpa using ho)) u w hT hV K fun v w' hw' hx => hK v w' hw' hx⟩
    exact key _ (Nat.le_refl _)
  · exact hpost u w' hT.below (fun i hi => hu i (by simpa using hi))
end Go.Proofs.Ytofijnhkoadfjaa
