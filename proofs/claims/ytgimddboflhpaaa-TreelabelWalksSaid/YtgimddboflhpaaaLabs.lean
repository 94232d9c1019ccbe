/- Slices of labels (three cells an element). No program in sight. -/
import Derived.Test.YtgimddboflhpaaaMem
import Derived.Test.YtgimddboflhpaaaForest
namespace Go.Proofs.Ytgimddboflhpaaa
set_option linter.unusedSimpArgs false
set_option linter.unusedVariables false
set_option linter.unusedSectionVars false
open Go.RowKit Tr

abbrev c3 (x : Lab) : List Value := [.int .i64 x.1, .int .i64 x.2.1, .int .i64 x.2.2]
abbrev aggOf (x : Lab) : Value := .agg #[.int .i64 x.1, .int .i64 x.2.1, .int .i64 x.2.2]
/-- Labels as cells. -/
def cl (l : List Lab) : List Value := l.flatMap c3
theorem cl_cons (x : Lab) (l : List Lab) : cl (x :: l) = .int .i64 x.1 :: .int .i64 x.2.1 :: .int .i64 x.2.2 :: cl l := rfl
theorem cl_append (l m : List Lab) : cl (l ++ m) = cl l ++ cl m := by simp [cl]
theorem cl_length (l : List Lab) : (cl l).length = l.length * 3 := by
  induction l with
  | nil => rfl
  | cons x l ih => rw [cl_cons]; simp [ih]; omega
theorem cl_get (l : List Lab) : ∀ k (h : k < l.length), (cl l)[k * 3]? = some (.int .i64 l[k].1) ∧ (cl l)[k * 3 + 1]? = some (.int .i64 l[k].2.1) ∧ (cl l)[k * 3 + 2]? = some (.int .i64 l[k].2.2) := by
  induction l with
  | nil => intro k h; simp at h
  | cons x l ih =>
    intro k h
    rw [cl_cons]
    cases k with
    | zero => simp
    | succ k =>
      have := ih k (by simpa using h)
      have e : (k + 1) * 3 = k * 3 + 1 + 1 + 1 := by omega
      simp only [e, List.getElem?_cons_succ, List.getElem_cons_succ]
      exact this
def Labs (w : World) (A : Option Addr) (l : List Lab) : Prop := Rd w A (cl l)
theorem Labs.get {w : World} {A : Option Addr} {l : List Lab} (h : Labs w A l) {k : Nat} (hk : k < l.length) :
    ∃ b off, A = some ⟨b, off, none⟩ ∧ w.cell? ⟨b, off + k * 3, none⟩ = some (.int .i64 l[k].1) ∧ w.cell? ⟨b, off + k * 3 + 1, none⟩ = some (.int .i64 l[k].2.1) ∧ w.cell? ⟨b, off + k * 3 + 2, none⟩ = some (.int .i64 l[k].2.2) := by
  obtain ⟨e0, e1, e2⟩ := cl_get l k hk
  obtain ⟨b, off, rfl, h0⟩ := h _ _ e0
  obtain ⟨_, _, e, h1⟩ := h _ _ e1
  cases e
  obtain ⟨_, _, e, h2⟩ := h _ _ e2
  cases e
  exact ⟨b, off, rfl, h0, by rw [Nat.add_assoc]; exact h1, by rw [Nat.add_assoc]; exact h2⟩
theorem Labs.below {w w' : World} {A : Option Addr} {l : List Lab} (h : Labs w A l) (hb : Below w.heap.size w w') : Labs w' A l := Rd.below h hb
def labEq (x y : Lab) : Bool := decide (x = y)
theorem labEq_iff {x y : Lab} : labEq x y = true ↔ x = y := by simp [labEq]
theorem labEq_of (a b c x y z : Int) : ((a == x) && (b == y) && (c == z)) = labEq (a, b, c) (x, y, z) := by
  rw [Bool.eq_iff_iff, labEq_iff]; simp [and_assoc]
/-- Two lists of labels are equal. -/
def labsEq (l m : List Lab) : Bool := decide (l = m)
def intsEq (a b : List Int) : Bool := decide (a = b)
theorem take_step {α : Type} {l m : List α} {k : Nat} (hl : k < l.length) (hm : k < m.length) (h : l.take k = m.take k) (he : l[k] = m[k]) : l.take (k + 1) = m.take (k + 1) := by
  rw [List.take_succ_eq_append_getElem hl, List.take_succ_eq_append_getElem hm, h, he]
theorem ne_of_get {α : Type} {l m : List α} {k : Nat} (hl : k < l.length) (hm : k < m.length) (he : l[k] ≠ m[k]) : l ≠ m := by
  rintro rfl; exact he rfl
theorem eq_of_take {α : Type} {l m : List α} {k : Nat} (hl : l.length ≤ k) (hm : m.length ≤ k) (h : l.take k = m.take k) : l = m := by
  rwa [List.take_of_length_le hl, List.take_of_length_le hm] at h
end Go.Proofs.Ytgimddboflhpaaa
