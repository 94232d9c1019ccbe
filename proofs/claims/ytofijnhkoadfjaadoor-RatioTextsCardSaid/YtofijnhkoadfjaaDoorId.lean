/- The program's Add, Sub, Mul, Quo. -/
import Derived.Test.YtofijnhkoadfjaaDoorIc
namespace Go.Proofs.YtofijnhkoadfjaaDoor
set_option linter.unusedSimpArgs false
set_option linter.unusedVariables false
set_option linter.unusedSectionVars false
open Go.RowKit Dg

/-- What read returns of two ratios. -/
def Read2 (n1 : Bool) (a b : Nat) (n2 : Bool) (c d : Nat) (w : World) (e : Ending) (w' : World) : Prop :=
  ∃ r cap A1 k1 A2 k2 A3 k3 A4 k4 rest, e = .returned (.tuple #[.slice (some ⟨r, 0, none⟩) 2 cap, .bool true]) ∧ 2 ≤ cap ∧ cap ≤ maxLen ∧ w.heap.size ≤ r ∧
    Own w' r 48 (.bool n1 :: .slice A1 (dw a).length k1 :: .slice A2 (dw b).length k2 :: .bool n2 :: .slice A3 (dw c).length k3 :: .slice A4 (dw d).length k4 :: rest) ∧
    NatO (fun k => k = r) w' (.slice A1 (dw a).length k1) a ∧ NatO (fun k => k = r) w' (.slice A2 (dw b).length k2) b ∧ NatO (fun k => k = r) w' (.slice A3 (dw c).length k3) c ∧ NatO (fun k => k = r) w' (.slice A4 (dw d).length k4) d ∧ Below w.heap.size w w'
theorem own_of_row {w : World} {base size n : Nat} {e : TypeId} {v : Value} {xs : List Value} (h : w.ownsRow base e size v n xs) (h0 : 0 < n) : ∃ g cap rest, v = .slice (some ⟨g, 0, none⟩) n cap ∧ n ≤ cap ∧ cap ≤ maxLen ∧ base ≤ g ∧ Own w g e (xs ++ rest) := by
  rcases h.2 with ⟨_, h1⟩ | ⟨g, cap, cur, hv, hb, hg, h1, h2, _, h3⟩
  · omega
  · refine ⟨g, cap, cur.toList.drop (n * size), hv, h1, h2, hb, ?_⟩
    unfold Own
    rw [hg, ← h3, List.take_append_drop]
theorem natO_lit {S : Nat → Prop} {w : World} {v : Value} {n : Nat} (h : NatO S w v n) : ∃ A k, v = .slice A (dw n).length k := let ⟨A, k, e, _⟩ := h; ⟨A, k, e⟩
/-- The result is settled by the number. -/
theorem ratRes_one (z : Rat) : ∃ n s t k, (∀ e, RatRes z e → e = .returned (.tuple #[.agg #[.bool n, .string s, .string t], .int .i64 k])) ∧ RatRes z (.returned (.tuple #[.agg #[.bool n, .string s, .string t], .int .i64 k])) := by
  by_cases h : OkR z
  · exact ⟨_, _, _, _, fun e he => he.ok h, .inl ⟨h, rfl⟩⟩
  · refine ⟨_, _, _, _, fun e he => ?_, .inr ⟨h, rfl⟩⟩
    rcases he with he | he
    · exact absurd he.1 h
    · exact he.2
theorem NumOk.below {L : Nat} {z : Rat} {w w' : World} {v : Value} (h : NumOk L z w v) (hb : Below w.heap.size w w') : NumOk L z w' v := by
  obtain ⟨neg, v1, v2, a, b, rfl, h1, h2, h3⟩ := h
  exact ⟨neg, v1, v2, a, b, rfl, h1.below hb, h2.below hb, h3⟩
end Go.Proofs.YtofijnhkoadfjaaDoor
/- Add, Sub, Mul, Quo of the program in rational numbers. -/
namespace Go.Proofs.YtofijnhkoadfjaaDoor
set_option linter.unusedSimpArgs false
set_option linter.unusedVariables false
set_option linter.unusedSectionVars false
open Go.RowKit Dg

theorem OkN.size {n : Nat} (h : OkN n) : (S n).size ≤ maxLen := by rw [S_size]; unfold OkN at h; unfold maxLen; omega
theorem den_pos (x : Rat) : 0 < x.den := Nat.pos_of_ne_zero x.den_nz
theorem rat_inv {neg : Bool} {c d : Nat} : rat neg d c = (rat neg c d)⁻¹ := by
  unfold rat
  rw [← Rat.divInt_ofNat, ← Rat.divInt_ofNat, Rat.inv_divInt]
  cases neg with
  | false => simp
  | true => simp [Rat.divInt_neg']
theorem num_pos {y : Rat} (h : y ≠ 0) : 0 < y.num.natAbs := by
  rcases Nat.eq_zero_or_pos y.num.natAbs with e | e
  · exact absurd (Rat.num_eq_zero.1 (by omega)) h
  · exact e
section
variable {n1 n2 : Bool} {s1 t1 s2 t2 : ByteArray} (hs1 : s1.size ≤ maxLen) (ht1 : t1.size ≤ maxLen) (hs2 : s2.size ≤ maxLen) (ht2 : t2.size ≤ maxLen) (h : ¬ (IsR n1 s1 t1 ∧ IsR n2 s2 t2)) (w : World)
include hs1 ht1 hs2 ht2 h
end
end Go.Proofs.YtofijnhkoadfjaaDoor
