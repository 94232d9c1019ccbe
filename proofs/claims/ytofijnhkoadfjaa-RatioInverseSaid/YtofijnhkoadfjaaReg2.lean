/- The rule for drawn regions again, with the frame opaque: each operation is shown with nothing but the slots it reads. No program in sight. -/
import Derived.Test.YtofijnhkoadfjaaReg
namespace Go.Proofs.Ytofijnhkoadfjaa
set_option linter.unusedSimpArgs false
set_option linter.unusedVariables false
set_option linter.unusedSectionVars false
open Go.RowKit

theorem put_defers (a : Act) (x : Option Tmp) (v : Value) : (a.put x v).defers = a.defers := by cases x <;> rfl
theorem put_size (a : Act) (x : Option Tmp) (v : Value) : (a.put x v).tmps.size = a.tmps.size := by
  cases x with
  | none => rfl
  | some d => simp [Act.put]
theorem put_getD (a : Act) (x : Option Tmp) (v : Value) (d : Nat) (h : x ≠ some d) : (a.put x v).tmps.getD d undef = a.tmps.getD d undef := by
  cases x with
  | none => rfl
  | some e =>
    have h' : e ≠ d := fun e' => h (by rw [e'])
    show (a.tmps.setIfInBounds e v).getD d undef = a.tmps.getD d undef
    simp [Array.getD_eq_getD_getElem?, Array.getElem?_setIfInBounds_ne h']
theorem put_getD_same (a : Act) (v : Value) (d : Nat) (h : d < a.tmps.size) : (a.put (some d) v).tmps.getD d undef = v := by
  simp [Act.put, Array.getD, h]
theorem putAll_defers : ∀ (ds : List (Option Tmp)) (k : Nat) (u : Nat → Value) (a : Act), (putAll ds k u a).defers = a.defers := by
  intro ds
  induction ds with
  | nil => intro k u a; rfl
  | cons d r ih => intro k u a; exact (ih (k + 1) u (a.put d (u k))).trans (put_defers _ _ _)
theorem putAll_size : ∀ (ds : List (Option Tmp)) (k : Nat) (u : Nat → Value) (a : Act), (putAll ds k u a).tmps.size = a.tmps.size := by
  intro ds
  induction ds with
  | nil => intro k u a; rfl
  | cons d r ih => intro k u a; exact (ih (k + 1) u (a.put d (u k))).trans (put_size _ _ _)
theorem putAll_old : ∀ (ds : List (Option Tmp)) (k : Nat) (u : Nat → Value) (a : Act) (d : Nat), some d ∉ ds → (putAll ds k u a).tmps.getD d undef = a.tmps.getD d undef := by
  intro ds
  induction ds with
  | nil => intro k u a d _; rfl
  | cons x r ih =>
    intro k u a d h
    exact (ih (k + 1) u (a.put x (u k)) d (fun h' => h (by simp [h']))).trans (put_getD _ _ _ _ (fun e => h (by simp [e])))
theorem putAll_new : ∀ (ds : List (Option Tmp)) (k : Nat) (u : Nat → Value) (a : Act) (i d : Nat), distinct ds = true → ds.getD i none = some d → d < a.tmps.size → (putAll ds k u a).tmps.getD d undef = u (k + i) := by
  intro ds
  induction ds with
  | nil => intro k u a i d _ h; simp at h
  | cons x r ih =>
    intro k u a i d hd h hs
    have hd' : (x = none ∨ x ∉ r) ∧ distinct r = true := by
      cases x with
      | none => exact ⟨.inl rfl, hd⟩
      | some d => simp only [distinct, Bool.and_eq_true, Bool.not_eq_true'] at hd; exact ⟨.inr (by intro hm; have := hd.1; simp [hm] at this), hd.2⟩
    cases i with
    | zero =>
      have h : x = some d := h
      subst h
      exact (putAll_old r (k + 1) u _ d (hd'.1.resolve_left (by simp))).trans (put_getD_same _ _ _ hs)
    | succ i =>
      have := ih (k + 1) u (a.put x (u k)) i d hd'.2 (by simpa using h) (by rw [put_size]; exact hs)
      have e : k + 1 + i = k + (i + 1) := by omega
      rw [e] at this
      exact this

/-- What is shown of an operation, the frame opaque. -/
def AbsStep (P : Program) (ops : Array Oper) (Q : Exit → Act → World → Prop) (c : List Value) (ds : List (Option Tmp)) (w0 : World) (a0 : Act) (o : Oper) (x : Value) : Prop :=
  ∀ (t : Array Value) (w : World), Grow w0 w → (∀ j d, dep o j = true → ds.getD j none = some d → d < a0.tmps.size → t[d]? = some (c.getD j undef)) →
    (∀ d v, ds.contains (some d) = false → a0.tmps[d]? = some v → t[d]? = some v) →
    ∀ K : Act → World → Prop, (∀ w', Grow w w' → K (Act.put ⟨t, a0.defers⟩ o.dst x) w') →
      if Region.wanted o (yielded ops t) = true then o.wp P ⟨t, a0.defers⟩ w K Q else K (Act.put ⟨t, a0.defers⟩ o.dst undef) w
def AbsSteps (P : Program) (ops : Array Oper) (Q : Exit → Act → World → Prop) (c : List Value) (ds : List (Option Tmp)) (w0 : World) (a0 : Act) : List Oper → List Value → Prop
  | o :: r, x :: xs => AbsStep P ops Q c ds w0 a0 o x ∧ AbsSteps P ops Q c ds w0 a0 r xs
  | [], [] => True
  | _, _ => False
theorem get_some {t : Array Value} {d : Nat} (h : d < t.size) : t[d]? = some (t.getD d undef) := by simp [Array.getD_eq_getD_getElem?, h]
theorem AbsStep.val {P : Program} {ops : Array Oper} {Q : Exit → Act → World → Prop} {c : List Value} {ds : List (Option Tmp)} {w0 : World} {a0 : Act} {o : Oper} {x : Value} (hd : distinct ds = true) (h : AbsStep P ops Q c ds w0 a0 o x) : ValStep P ops Q c ds w0 a0 o x := by
  intro u w hT hV K hK
  have e : putAll ds 0 u a0 = ⟨(putAll ds 0 u a0).tmps, a0.defers⟩ := by rw [← putAll_defers ds 0 u a0]
  have := h (putAll ds 0 u a0).tmps w hT (fun j d hj hjd hs => by
      have h1 := putAll_new ds 0 u a0 j d hd hjd hs
      rw [Nat.zero_add, hV j hj] at h1
      rw [← h1]
      exact get_some (by rw [putAll_size]; exact hs))
    (fun d v hd' hv => by
      have hs : d < a0.tmps.size := (Array.getElem?_eq_some_iff.1 hv).1
      have h1 := putAll_old ds 0 u a0 d (by intro hm; simp [hm] at hd')
      have h2 : a0.tmps.getD d undef = v := by simp [Array.getD_eq_getD_getElem?, hv]
      rw [h2] at h1
      rw [← h1]
      exact get_some (by rw [putAll_size]; exact hs)) K (by rw [← e]; exact hK)
  rw [← e] at this
  exact this
theorem AbsSteps.vals {P : Program} {ops : Array Oper} {Q : Exit → Act → World → Prop} {c : List Value} {ds : List (Option Tmp)} {w0 : World} {a0 : Act} (hd : distinct ds = true) : ∀ (l : List Oper) (xs : List Value), AbsSteps P ops Q c ds w0 a0 l xs → ValSteps P ops Q c ds w0 a0 l xs := by
  intro l
  induction l with
  | nil =>
    intro xs h
    cases xs with
    | nil => exact trivial
    | cons x xs => exact h.elim
  | cons o r ih =>
    intro xs h
    cases xs with
    | nil => exact h.elim
    | cons x xs => exact ⟨h.1.val hd, ih xs h.2⟩
/-- The rule where each value is known ahead and the frame is opaque. -/
theorem wp_reg_abs {P : Program} {l : List Oper} {Q : Exit → Act → World → Prop} {id : Nat} {a : Act} {w : World} (ds : List (Option Tmp)) (c : List Value) (hds : l.map (·.dst) = ds) (hm : P.follows .mixedOrders = true)
    (hd : distinct ds = true) (hf : fwdFrom l 0 = true) (hsteps : AbsSteps P l.toArray Q c ds w.drew a l c)
    (hpost : ∀ w', Below w.heap.size w w' → Q .normal (putAll ds 0 (fun i => c.getD i undef) a) w') : (Code.region id l.toArray true).wp P Q a w :=
  wp_reg_vals ds c hds hm hd hf (hsteps.vals hd) hpost
end Go.Proofs.Ytofijnhkoadfjaa
