/- The rule for drawn regions whose operations are all quiet, a predicate a value, the frame opaque. No program in sight. -/
import Derived.Test.YtofijnhkoadfjaaReg4
namespace Go.Proofs.Ytofijnhkoadfjaa
set_option linter.unusedSimpArgs false
set_option linter.unusedVariables false
set_option linter.unusedSectionVars false
open Go.RowKit

def RaAll (P : Program) (ops : Array Oper) (Q : Exit → Act → World → Prop) (V : List VP) (ds : List (Option Tmp)) (w0 : World) (a0 : Act) : List Oper → List VP → Prop
  | o :: r, x :: xs => StPre P ops Q V (notIn ds) ds w0 a0 o x ∧ RaAll P ops Q V ds w0 a0 r xs
  | [], [] => True
  | _, _ => False
theorem RaAll.get {P : Program} {ops : Array Oper} {Q : Exit → Act → World → Prop} {V : List VP} {ds : List (Option Tmp)} {w0 : World} {a0 : Act} : ∀ (l : List Oper) (xs : List VP), RaAll P ops Q V ds w0 a0 l xs → ∀ i o, l[i]? = some o → StPre P ops Q V (notIn ds) ds w0 a0 o (xs.getD i anyV) := by
  intro l
  induction l with
  | nil => intro xs _ i o h; simp at h
  | cons o r ih =>
    intro xs h i o' ho
    cases xs with
    | nil => exact h.elim
    | cons x xs =>
      cases i with
      | zero => simp at ho; subst ho; exact h.1
      | succ i => exact ih xs h.2 i o' (by simpa using ho)
theorem wp_reg_ra {P : Program} {l : List Oper} {Q : Exit → Act → World → Prop} {id : Nat} {a : Act} {w : World} (ds : List (Option Tmp)) (V : List VP) (hds : l.map (·.dst) = ds) (hm : P.follows .mixedOrders = true)
    (hd : distinct ds = true) (hf : fwdFrom l 0 = true) (hkeep : ∀ i v w w', V.getD i anyV v w → Grow w w' → V.getD i anyV v w') (hsteps : RaAll P l.toArray Q V ds w.drew a l V)
    (hpost : ∀ u w', Below w.heap.size w w' → (∀ i, i < l.length → V.getD i anyV (u i) w') → Q .normal (putAll ds 0 u a) w') : (Code.region id l.toArray true).wp P Q a w := by
  have hds' : dsts l.toArray = ds := hds
  subst hds'
  refine wp_reg (fun i v w => V.getD i anyV v w) Grow hm Grow.refl Grow.trans hkeep hd hf ?_ fun u w' hT hu => ?_
  · have key : ∀ n, n ≤ l.toArray.size → RegSteps P l.toArray Q (fun i v w => V.getD i anyV v w) Grow w.drew a n := by
      intro n
      induction n with
      | zero => exact fun _ => trivial
      | succ n ih =>
        intro hn
        refine ⟨ih (by omega), fun o ho u w hT hV K hK => ?_⟩
        have := (hsteps.get l V n o (by simpa using ho)) (putAll (dsts l.toArray) 0 u a).tmps w hT (depF_of hd hV) oldF_of K (by rw [← frame_of]; exact hK)
        rw [← frame_of] at this
        exact this
    exact key _ (Nat.le_refl _)
  · exact hpost u w' hT.below (fun i hi => hu i (by simpa using hi))
end Go.Proofs.Ytofijnhkoadfjaa
