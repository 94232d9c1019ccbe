/- Arguments that are ratios, intervals, texts, cells, as the row reads them, opened to the words of this proof. -/
import Derived.Test.YtofijnhkoadfjaaDoorOpn
import Derived.ChangeArms
import Derived.Deep.Strs
import Derived.ChangeMaps5
namespace Go.Proofs.YtofijnhkoadfjaaDoor
set_option linter.unusedSimpArgs false
set_option linter.unusedVariables false
set_option linter.unusedSectionVars false
open Go.ChangeShapes Go.WideShapes Go.ChangeAt Go.RowKit Go.Deep

section
variable {H : Type} {enc : TypeId × Value → H} {P : Program} {w : World} {base : Nat} {spare : Nat → Bool} {held : Bool}
theorem list3 {α : Type} {l : List α} {a b c : α} (hl : l.length = 3) (h0 : (l.drop 0).take 1 = [a]) (h1 : (l.drop 1).take 1 = [b]) (h2 : (l.drop 2).take 1 = [c]) : l = [a, b, c] := by
  match l, hl with
  | [x, y, z], _ => simp at h0 h1 h2; simp [h0, h1, h2]
theorem list6 {α : Type} {l m n : List α} (hl : l.length = 6) (h0 : (l.drop 0).take 3 = m) (h1 : (l.drop 3).take 3 = n) : l = m ++ n := by
  match l, hl with
  | [x, y, z, u, v, p], _ => simp at h0 h1; simp [← h0, ← h1]
theorem ratio_cells {t : TypeId} {f0 f1 f2 : Field} {fuel : Nat} {cs : List Value} {x : DataW H × List MemPlace} (ht : P.underlying t = some (.struct #[f0, f1, f2])) (k0 : P.underlying f0.type = some .bool) (k1 : P.underlying f1.type = some .string) (k2 : P.underlying f2.type = some .string)
    (o0 : f0.offset = 0) (o1 : f1.offset = 1) (o2 : f2.offset = 2) (c0 : P.cellsOf f0.type = 1) (c1 : P.cellsOf f1.type = 1) (c2 : P.cellsOf f2.type = 1) (hc : P.cellsOf t = 3) (h : DataW.trod enc P w base spare held fuel t cs = some x) :
    ∃ (n : Bool) (s u : ByteArray), cs = [.bool n, .string s, .string u] ∧ s.size ≤ maxLen ∧ u.size ≤ maxLen := by
  obtain ⟨y0, y1, y2, n, -, hl, h0, h1, h2⟩ := trod_struct3 ht h
  rw [o0, c0] at h0
  rw [o1, c1] at h1
  rw [o2, c2] at h2
  obtain ⟨b, e0, -⟩ := DataW.trod_bool k0 h0
  obtain ⟨s, e1, -, s1⟩ := DataW.trod_string k1 h1
  obtain ⟨u, e2, -, s2⟩ := DataW.trod_string k2 h2
  exact ⟨b, s, u, list3 (hl.trans hc) e0 e1 e2, s1, s2⟩
theorem ratio_of {t : TypeId} {f0 f1 f2 : Field} {r : Reach} {b0 : Nat} {v : Value} {d : DataW H} {p : List MemPlace} (ht : P.underlying t = some (.struct #[f0, f1, f2])) (k0 : P.underlying f0.type = some .bool) (k1 : P.underlying f1.type = some .string) (k2 : P.underlying f2.type = some .string)
    (o0 : f0.offset = 0) (o1 : f1.offset = 1) (o2 : f2.offset = 2) (c0 : P.cellsOf f0.type = 1) (c1 : P.cellsOf f1.type = 1) (c2 : P.cellsOf f2.type = 1) (hc : P.cellsOf t = 3) (hv : Value.okWide P w r b0 t v) (h : DataW.Trod enc P w base spare held t v d p) :
    ∃ (n : Bool) (s u : ByteArray), v = .agg #[.bool n, .string s, .string u] ∧ s.size ≤ maxLen ∧ u.size ≤ maxLen := by
  obtain ⟨cs, rfl, -⟩ := okWide_struct ht hv
  obtain ⟨fuel, hf⟩ := h
  obtain ⟨n, s, u, e, h1, h2⟩ := ratio_cells ht k0 k1 k2 o0 o1 o2 c0 c1 c2 hc hf
  refine ⟨n, s, u, ?_, h1, h2⟩
  have e' : cs.toList = [.bool n, .string s, .string u] := e
  rw [show cs = cs.toList.toArray from rfl, e']
theorem interval_of {t e : TypeId} {g0 g1 f0 f1 f2 : Field} {r : Reach} {b0 : Nat} {v : Value} {d : DataW H} {p : List MemPlace} (hi : P.underlying t = some (.struct #[g0, g1])) (q0 : g0.type = e) (q1 : g1.type = e) (p0 : g0.offset = 0) (p1 : g1.offset = 3) (hci : P.cellsOf t = 6)
    (ht : P.underlying e = some (.struct #[f0, f1, f2])) (k0 : P.underlying f0.type = some .bool) (k1 : P.underlying f1.type = some .string) (k2 : P.underlying f2.type = some .string)
    (o0 : f0.offset = 0) (o1 : f1.offset = 1) (o2 : f2.offset = 2) (c0 : P.cellsOf f0.type = 1) (c1 : P.cellsOf f1.type = 1) (c2 : P.cellsOf f2.type = 1) (hc : P.cellsOf e = 3) (hv : Value.okWide P w r b0 t v) (h : DataW.Trod enc P w base spare held t v d p) :
    ∃ (n : Bool) (s u : ByteArray) (m : Bool) (s' u' : ByteArray), v = .agg #[.bool n, .string s, .string u, .bool m, .string s', .string u'] := by
  obtain ⟨cs, rfl, -⟩ := okWide_struct hi hv
  obtain ⟨fuel, hf⟩ := h
  obtain ⟨y0, y1, n, -, hl, h0, h1⟩ := trod_struct2 hi hf
  rw [p0, q0, hc] at h0
  rw [p1, q1, hc] at h1
  obtain ⟨n, s, u, e0, -⟩ := ratio_cells ht k0 k1 k2 o0 o1 o2 c0 c1 c2 hc h0
  obtain ⟨m, s', u', e1, -⟩ := ratio_cells ht k0 k1 k2 o0 o1 o2 c0 c1 c2 hc h1
  refine ⟨n, s, u, m, s', u', ?_⟩
  have e' : cs.toList = [.bool n, .string s, .string u] ++ [.bool m, .string s', .string u'] := list6 (hl.trans hci) e0 e1
  rw [show cs = cs.toList.toArray from rfl, e']
  rfl
end
end Go.Proofs.YtofijnhkoadfjaaDoor
