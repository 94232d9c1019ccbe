/- The program's IsRatio. -/
import Derived.Test.YtofijnhkoadfjaaDoorRt
import Derived.Test.YtofijnhkoadfjaaDoorReg
import Derived.Test.YtofijnhkoadfjaaDoorLa
import Derived.Test.YtofijnhkoadfjaaDoorMem
namespace Go.Proofs.YtofijnhkoadfjaaDoor
set_option linter.unusedSimpArgs false
set_option linter.unusedVariables false
set_option linter.unusedSectionVars false
open Go.RowKit Dg

theorem beqI_false {a b : Int} (h : a ≠ b) : (a == b) = false := beq_eq_false_iff_ne.2 h
theorem beqI_true {a b : Int} (h : a = b) : (a == b) = true := beq_iff_eq.2 h
theorem cmp1 {g : Nat} : (cmpI g 1 == 0) = decide (g = 1) := by
  unfold cmpI
  by_cases h1 : g < 1
  · rw [if_pos h1]
    have : g ≠ 1 := by omega
    simp [this]
  · rw [if_neg h1]
    by_cases h2 : g = 1
    · rw [if_pos h2]; simp [h2]
    · rw [if_neg h2]; simp [h2]
def isRB (neg : Bool) (m n : Nat) : Bool := decide (0 < n ∧ ¬ (neg = true ∧ m = 0) ∧ Nat.gcd m n = 1)
theorem isRB_gcd {neg : Bool} {m n : Nat} (hn : 0 < n) (h : ¬ (neg = true ∧ m = 0)) : isRB neg m n = decide (Nat.gcd m n = 1) := by
  unfold isRB
  rw [decide_eq_decide]
  exact ⟨fun h' => h'.2.2, fun h' => ⟨hn, h, h'⟩⟩

end Go.Proofs.YtofijnhkoadfjaaDoor
/- The program's plus. -/
namespace Go.Proofs.YtofijnhkoadfjaaDoor
set_option linter.unusedSimpArgs false
set_option linter.unusedVariables false
set_option linter.unusedSectionVars false
open Go.RowKit Dg

/-- A value that is no integer. -/
def noI (v : Value) : Bool := match v with | .int _ _ => false | _ => true
theorem noI_cw {v : Value} (h : noI v = true) (l : List Nat) : v ∉ cw l := by
  intro hm
  simp only [cw, List.mem_map] at hm
  obtain ⟨x, _, rfl⟩ := hm
  cases h
theorem noI_ck {v : Value} (h : noI v = true) (l : List Nat) : v ∉ l.map (fun (x : Nat) => Value.int .i64 (x : Int)) := by
  intro hm
  simp only [List.mem_map] at hm
  obtain ⟨x, _, rfl⟩ := hm
  cases h
theorem NatV.set3 {w : World} {v : Value} {n g : Nat} {t : TypeId} {a b c : Value} (h : NatV w v n) (ho : Own w g t [a, b, c]) (x y z : Value) (hn : ([a, b, c, x, y, z].all noI) = true) :
    NatV (((w.setCell ⟨g, 0, none⟩ x).setCell ⟨g, 1, none⟩ y).setCell ⟨g, 2, none⟩ z) v n := by
  obtain ⟨A, k, rfl, h1, h2, h3⟩ := h
  refine ⟨A, k, rfl, h1, h2, Rd.set3 h3 ho x y z fun v hv => noI_cw ?_ _⟩
  exact List.all_eq_true.1 hn v hv
/-- A number with a sign as the program holds it: with a bound on its words. -/
def NumOk (L : Nat) (x : Rat) (w : World) (v : Value) : Prop := ∃ neg v1 v2 a b, v = .agg #[.bool neg, v1, v2] ∧ NatV w v1 a ∧ NatV w v2 b ∧ 0 < b ∧ (dw a).length ≤ L ∧ (dw b).length ≤ L ∧ x = rat neg a b
def PlusPost (x : Rat) (L : Nat) (w : World) (e : Ending) (w' : World) : Prop := (∃ v, e = .returned v ∧ NumOk L x w' v) ∧ Below w.heap.size w w'

end Go.Proofs.YtofijnhkoadfjaaDoor
