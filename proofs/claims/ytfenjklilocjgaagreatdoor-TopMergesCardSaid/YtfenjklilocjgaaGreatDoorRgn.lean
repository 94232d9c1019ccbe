/- Parts of the proof: Rgn. No condition of its own. -/
import Derived.Test.YtfenjklilocjgaaGreatDoorXb
set_option linter.unusedSimpArgs false
set_option linter.unusedVariables false
set_option linter.unusedSectionVars false
namespace Go.Proofs.YtfenjklilocjgaaGreatDoor
set_option linter.unusedSimpArgs false
set_option linter.unusedVariables false
set_option linter.unusedSectionVars false
open Go.RowKit

def StPreN (T : World → World → Prop) (M : (Nat → Bool) → (Nat → Value) → World → Prop) (P : Program) (ops : Array Oper) (Q : Exit → Act → World → Prop) (V : List VP) (Wr : Nat → Prop) (ds : List (Option Tmp)) (w0 : World) (a0 : Act) (i : Nat) (o : Oper) (x : VP) : Prop :=
  ∀ (L : Nat → Bool) (u : Nat → Value) (t : Array Value) (w : World), T w0 w → L i = false → (∀ j, dep o j = true → L j = true) → DepF ds a0 (fun j v w => V.getD j anyV v w ∧ v = u j) (fun j => dep o j = true) t w → OldF Wr a0 t →
    (∀ j q, ds.getD j none = some q → q < a0.tmps.size → t[q]? = some (u j)) → M L u w →
    ∀ K : Act → World → Prop, (∀ v w', T w w' → x v w' → M (upd L i true) (upd u i v) w' → K (Act.put ⟨t, a0.defers⟩ o.dst v) w') →
      if Region.wanted o (yielded ops t) = true then o.wp P ⟨t, a0.defers⟩ w K Q else K (Act.put ⟨t, a0.defers⟩ o.dst undef) w
def RaAllN (T : World → World → Prop) (M : (Nat → Bool) → (Nat → Value) → World → Prop) (P : Program) (ops : Array Oper) (Q : Exit → Act → World → Prop) (V : List VP) (ds : List (Option Tmp)) (w0 : World) (a0 : Act) : Nat → List Oper → List VP → Prop
  | k, o :: r, x :: xs => StPreN T M P ops Q V (notIn ds) ds w0 a0 k o x ∧ RaAllN T M P ops Q V ds w0 a0 (k + 1) r xs
  | _, [], [] => True
  | _, _, _ => False
theorem RaAllN.get {T : World → World → Prop} {M : (Nat → Bool) → (Nat → Value) → World → Prop} {P : Program} {ops : Array Oper} {Q : Exit → Act → World → Prop} {V : List VP} {ds : List (Option Tmp)} {w0 : World} {a0 : Act} : ∀ (l : List Oper) (xs : List VP) (k : Nat), RaAllN T M P ops Q V ds w0 a0 k l xs → ∀ i o, l[i]? = some o → StPreN T M P ops Q V (notIn ds) ds w0 a0 (k + i) o (xs.getD i anyV) := by
  intro l
  induction l with
  | nil => intro xs k _ i o h; simp at h
  | cons o r ih =>
    intro xs k h i o' ho
    cases xs with
    | nil => exact h.elim
    | cons x xs =>
      cases i with
      | zero => simp at ho; subst ho; exact h.1
      | succ i =>
        have := ih xs (k + 1) h.2 i o' (by simpa using ho)
        have e : k + 1 + i = k + (i + 1) := by omega
        rw [e] at this
        exact this
theorem newF_of {ds : List (Option Tmp)} {a0 : Act} {u : Nat → Value} (hd : distinct ds = true) : ∀ j q, ds.getD j none = some q → q < a0.tmps.size → (putAll ds 0 u a0).tmps[q]? = some (u j) := by
  intro j q hj hs
  have h1 := putAll_new ds 0 u a0 j q hd hj hs
  rw [Nat.zero_add] at h1
  rw [← h1]
  exact get_some (by rw [putAll_size]; exact hs)
theorem wp_reg_n (T : World → World → Prop) (M : (Nat → Bool) → (Nat → Value) → World → Prop) (h0 : ∀ w, T w w) (htr : ∀ a b c, T a b → T b c → T a c) {P : Program} {l : List Oper} {Q : Exit → Act → World → Prop} {id : Nat} {a : Act} {w : World} (ds : List (Option Tmp)) (V : List VP) (hds : l.map (·.dst) = ds) (hm : P.follows .mixedOrders = true)
    (hd : distinct ds = true) (hf : fwdFrom l 0 = true) (hM0 : ∀ L u, (∀ j, j < l.length → L j = false) → (∀ j q, ds.getD j none = some q → q < a.tmps.size → a.tmps[q]? = some (u j)) → M L u w.drew) (hkeep : ∀ i v w w', V.getD i anyV v w → T w w' → V.getD i anyV v w') (hsteps : RaAllN T M P l.toArray Q V ds w.drew a 0 l V)
    (hpost : ∀ u w', T w.drew w' → M (fun _ => true) u w' → (∀ i, i < l.length → V.getD i anyV (u i) w') → Q .normal (putAll ds 0 u a) w') : (Code.region id l.toArray true).wp P Q a w := by
  have hds' : dsts l.toArray = ds := hds
  subst hds'
  refine wp_region_any hm ?_
  obtain ⟨u, hu⟩ := putAll_self (dsts l.toArray) 0 a
  have := reg_anyM (P := P) (ops := l.toArray) (Q := Q) (fun i v w => V.getD i anyV v w) M T htr hkeep hd hf (a0 := a) (w0 := w.drew) (fun i hi o ho L u w hT hL hD hM K hK => by
      have h1 := hsteps.get l V 0 i o (by simpa using ho)
      rw [Nat.zero_add] at h1
      have := h1 L u (putAll (dsts l.toArray) 0 u a).tmps w hT hL (fun j hj => (hD j hj).1) (depF_of hd fun j hj => ⟨(hD j hj).2, rfl⟩) oldF_of (newF_of hd) hM K (by rw [← frame_of]; exact hK)
      rw [← frame_of] at this
      exact this)
    (fun u w' hT hM hu => hpost u w' hT hM (fun i hi => hu i (by simpa using hi))) l.toArray.size (Array.replicate l.toArray.size false) u w.drew (by simp) (by
    have := List.length_filter_le (fun j => !(Array.replicate l.toArray.size false).getD j true) (List.range l.toArray.size)
    simpa using this) (h0 _) (hM0 _ _ (fun j hj => by
      simp [Array.getD]; exact hj) (fun j q hj hs => by
      have h1 := newF_of (ds := dsts l.toArray) (a0 := a) (u := u) hd j q hj hs
      rw [hu] at h1
      exact h1)) (fun i hi h => by
      have h2 : i < l.length := by simpa using hi
      simp [Array.getD] at h
      omega)
  rw [hu] at this
  exact this
end Go.Proofs.YtfenjklilocjgaaGreatDoor
