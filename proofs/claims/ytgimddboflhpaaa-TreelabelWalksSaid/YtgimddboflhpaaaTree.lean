/- Plain facts about parents: ways up, cycles, kids, labels by a walk. No program in sight. -/
import Derived.WalkKit
namespace Go.Proofs.Ytgimddboflhpaaa
set_option linter.unusedSimpArgs false
set_option linter.unusedVariables false
set_option linter.unusedSectionVars false
namespace Tr

theorem php (n : Nat) : ∀ f : Nat → Nat, (∀ k, k ≤ n → f k < n) → ∃ a b, a < b ∧ b ≤ n ∧ f a = f b := by
  induction n with
  | zero => intro f h; have := h 0 (Nat.le_refl _); omega
  | succ n ih =>
    intro f h
    by_cases hx : ∃ k, k ≤ n ∧ f k = f (n + 1)
    · obtain ⟨k, hk, he⟩ := hx
      exact ⟨k, n + 1, by omega, by omega, he⟩
    · have hx' : ∀ k, k ≤ n → f k ≠ f (n + 1) := fun k hk he => hx ⟨k, hk, he⟩
      obtain ⟨a, b, hab, hb, he⟩ := ih (fun k => if f k = n then f (n + 1) else f k) (by
        intro k hk
        have h1 := h k (by omega)
        have h2 := h (n + 1) (by omega)
        have h3 := hx' k hk
        split <;> omega)
      refine ⟨a, b, hab, by omega, ?_⟩
      have h1 := hx' a (by omega)
      have h2 := hx' b (by omega)
      split at he <;> split at he <;> omega

/-- The parent of a node; a negative number has none. -/
def up (ps : List Int) (x : Int) : Int := if x < 0 then -1 else ps.getD x.toNat (-1)
def it (ps : List Int) : Nat → Int → Int
  | 0, x => x
  | k + 1, x => it ps k (up ps x)

section
variable {ps : List Int}
theorem it_zero (x : Int) : it ps 0 x = x := rfl
theorem it_add (a b : Nat) (x : Int) : it ps (a + b) x = it ps a (it ps b x) := by
  induction b generalizing x with
  | zero => rfl
  | succ b ih => exact ih (up ps x)
theorem it_succ (k : Nat) (x : Int) : it ps (k + 1) x = up ps (it ps k x) := by
  rw [Nat.add_comm, it_add]; rfl
theorem up_nat {i : Nat} (h : i < ps.length) : up ps i = ps[i] := by
  unfold up; rw [if_neg (by omega)]; simp [List.getD, h]
theorem it_neg (k : Nat) : ∀ x : Int, x < 0 → it ps k x < 0 := by
  induction k with
  | zero => exact fun x h => h
  | succ k ih => intro x h; refine ih _ ?_; unfold up; rw [if_pos h]; omega

/-- Each parent is a node or -1. -/
def Valid (ps : List Int) : Prop := ∀ (i : Nat) (h : i < ps.length), -1 ≤ ps[i] ∧ ps[i] < ps.length
theorem up_range (hv : Valid ps) (x : Int) (h : x < ps.length) : -1 ≤ up ps x ∧ up ps x < ps.length := by
  unfold up
  split
  · omega
  · have hx : x.toNat < ps.length := by omega
    have := hv _ hx
    simpa [List.getD, hx] using this
theorem it_lt (hv : Valid ps) (k : Nat) : ∀ x : Int, x < ps.length → it ps k x < ps.length := by
  induction k with
  | zero => exact fun x h => h
  | succ k ih => exact fun x h => ih _ (up_range hv x h).2
theorem it_ge (hv : Valid ps) (k : Nat) : ∀ x : Int, -1 ≤ x → x < ps.length → -1 ≤ it ps k x := by
  induction k with
  | zero => exact fun x h _ => h
  | succ k ih => exact fun x _ h => ih _ (up_range hv x h).1 (up_range hv x h).2

/-- a is a proper ancestor of b. -/
def Anc (ps : List Int) (a b : Nat) : Prop := ∃ k, it ps (k + 1) b = a
theorem Anc.trans {a b c : Nat} (h : Anc ps a b) (h' : Anc ps b c) : Anc ps a c := by
  obtain ⟨k, hk⟩ := h
  obtain ⟨l, hl⟩ := h'
  exact ⟨k + 1 + l, by rw [Nat.add_assoc, it_add, hl, hk]⟩
/-- Two ancestors of one node are comparable. -/
theorem Anc.chain {a b c : Nat} (h : Anc ps a c) (h' : Anc ps b c) : a = b ∨ Anc ps a b ∨ Anc ps b a := by
  obtain ⟨k, hk⟩ := h
  obtain ⟨l, hl⟩ := h'
  rcases Nat.lt_trichotomy k l with hlt | rfl | hlt
  · refine .inr (.inr ⟨l - k - 1, ?_⟩)
    rw [← hk, ← it_add]
    have : l - k - 1 + 1 + (k + 1) = l + 1 := by omega
    rw [this, hl]
  · left; omega
  · refine .inr (.inl ⟨k - l - 1, ?_⟩)
    rw [← hl, ← it_add]
    have : k - l - 1 + 1 + (l + 1) = k + 1 := by omega
    rw [this, hk]
theorem Anc.of_up {a b : Nat} (hb : up ps b = (a : Int)) : Anc ps a b := ⟨0, hb⟩
/-- The first step up. -/
theorem Anc.step {a b : Nat} (h : Anc ps a b) : up ps b = (a : Int) ∨ ∃ p : Nat, up ps b = (p : Int) ∧ Anc ps a p := by
  obtain ⟨k, hk⟩ := h
  cases k with
  | zero => exact .inl hk
  | succ k =>
    refine .inr ?_
    by_cases hn : up ps b < 0
    · have := it_neg (ps := ps) (k + 1) _ hn
      have hk' : it ps (k + 1) (up ps b) = a := hk
      omega
    · exact ⟨(up ps b).toNat, by omega, k, by rw [Int.toNat_of_nonneg (by omega)]; exact hk⟩
theorem Anc.lt (hv : Valid ps) {a b : Nat} (hb : b < ps.length) (h : Anc ps a b) : a < ps.length := by
  obtain ⟨k, hk⟩ := h
  have := it_lt hv (k + 1) b (by omega)
  omega

/-- Does the way up lead back, within as many steps as there are nodes? -/
def cyc (ps : List Int) (i : Nat) : Bool := (List.range ps.length).any fun k => it ps (k + 1) i == i
theorem cyc_of {i k : Nat} (hk : k < ps.length) (h : it ps (k + 1) i = i) : cyc ps i = true := by
  unfold cyc; rw [List.any_eq_true]; exact ⟨k, List.mem_range.2 hk, by simp [h]⟩
theorem Anc_of_cyc {i : Nat} (h : cyc ps i = true) : Anc ps i i := by
  unfold cyc at h; rw [List.any_eq_true] at h
  obtain ⟨k, _, hk⟩ := h
  exact ⟨k, by simpa using hk⟩
/-- A way of as many steps as there are nodes that never leaves meets one node twice. -/
theorem twice (hv : Valid ps) {i : Nat} (hi : i < ps.length) (h : 0 ≤ it ps ps.length i) : ∃ a b, a < b ∧ b ≤ ps.length ∧ it ps a i = it ps b i := by
  have hpos : ∀ k, k ≤ ps.length → 0 ≤ it ps k i := by
    intro k hk
    by_cases hn : it ps k i < 0
    · have := it_neg (ps := ps) (ps.length - k) _ hn
      rw [← it_add] at this
      have e : ps.length - k + k = ps.length := by omega
      rw [e] at this; omega
    · omega
  obtain ⟨a, b, hab, hb, he⟩ := php ps.length (fun k => (it ps k i).toNat) (by
    intro k hk
    have h1 := hpos k hk
    have h2 := it_lt hv k i (by omega)
    omega)
  have h1 := hpos a (by omega)
  have h2 := hpos b hb
  exact ⟨a, b, hab, hb, by omega⟩
theorem cyc_iff (hv : Valid ps) {i : Nat} (hi : i < ps.length) : cyc ps i = true ↔ Anc ps i i := by
  refine ⟨Anc_of_cyc, ?_⟩
  rintro ⟨k, hk⟩
  -- the least period
  have hper : ∀ m, it ps ((k + 1) * m) i = i := by
    intro m
    induction m with
    | zero => rfl
    | succ m ih => rw [Nat.mul_succ, it_add, hk, ih]
  have hpos : 0 ≤ it ps ps.length i := by
    by_cases hn : it ps ps.length i < 0
    · have := it_neg (ps := ps) ((k + 1) * ps.length - ps.length) _ hn
      rw [← it_add] at this
      have e : (k + 1) * ps.length - ps.length + ps.length = (k + 1) * ps.length := by
        have : ps.length ≤ (k + 1) * ps.length := Nat.le_mul_of_pos_left _ (by omega)
        omega
      rw [e, hper] at this; omega
    · omega
  obtain ⟨a, b, hab, hb, he⟩ := twice hv hi hpos
  -- a steps, then on to a multiple of the period
  refine cyc_of (k := b - a - 1) (by omega) ?_
  have hle : a ≤ (k + 1) * (a + 1) := by
    have : a + 1 ≤ (k + 1) * (a + 1) := Nat.le_mul_of_pos_left _ (by omega)
    omega
  have e1 : it ps ((k + 1) * (a + 1) - a) (it ps a i) = i := by
    rw [← it_add]
    have : (k + 1) * (a + 1) - a + a = (k + 1) * (a + 1) := by omega
    rw [this, hper]
  have e2 : it ps (b - a - 1 + 1) (it ps ((k + 1) * (a + 1) - a) (it ps a i)) = i := by
    rw [← it_add, ← it_add]
    have : b - a - 1 + 1 + ((k + 1) * (a + 1) - a) + a = ((k + 1) * (a + 1) - a) + b := by omega
    have h3 : b - a - 1 + 1 + ((k + 1) * (a + 1) - a + a) = ((k + 1) * (a + 1) - a) + b := by omega
    first | rw [this, it_add, ← he, e1] | rw [h3, it_add, ← he, e1] | (rw [Nat.add_assoc, h3, it_add, ← he, e1])
  rwa [e1] at e2
/-- No node is its own ancestor. -/
def Acyc (ps : List Int) : Prop := ∀ i : Nat, i < ps.length → ¬ Anc ps i i
theorem it_out (hv : Valid ps) (ha : Acyc ps) {i : Nat} (hi : i < ps.length) : it ps ps.length i < 0 := by
  by_cases hn : it ps ps.length i < 0
  · exact hn
  · exfalso
    obtain ⟨a, b, hab, hb, he⟩ := twice hv hi (by omega)
    have h0 : 0 ≤ it ps a i := by
      by_cases hn' : it ps a i < 0
      · have := it_neg (ps := ps) (ps.length - a) _ hn'
        rw [← it_add] at this
        have e : ps.length - a + a = ps.length := by omega
        rw [e] at this; omega
      · omega
    have hl := it_lt hv a i (by omega)
    refine ha (it ps a i).toNat (by omega) ⟨b - a - 1, ?_⟩
    rw [Int.toNat_of_nonneg h0, ← it_add]
    have : b - a - 1 + 1 + a = b := by omega
    rw [this, he]
end
end Tr
end Go.Proofs.Ytgimddboflhpaaa
