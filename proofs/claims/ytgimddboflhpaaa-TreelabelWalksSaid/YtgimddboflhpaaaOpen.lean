/- Arguments as the row reads them, opened to the words of this proof. -/
import Derived.Test.YtgimddboflhpaaaLabs
import Derived.ProofKit
import Derived.OpenShut
import Derived.ChangeOld
import Derived.Deep.Slices
import Derived.Deep.Fields
import Derived.Lib.SmallJoins
namespace Go.Proofs.Ytgimddboflhpaaa
set_option linter.unusedSimpArgs false
set_option linter.unusedVariables false
set_option linter.unusedSectionVars false
open Go.ChangeShapes Go.WideShapes Go.ChangeAt Go.RowKit Go.Deep Tr

theorem addr_lit {w : World} {x : Addr} {u : Value} (h : w.cell? (x.add 0) = some u) : x = ⟨x.block, x.off, none⟩ := by
  obtain ⟨b, off, spot⟩ := x
  have hs : spot = none := by simpa [Addr.add] using World.cell?_spot h
  subst hs
  rfl

section
variable {H : Type} {enc : TypeId × Value → H} {P : Program} {w : World} {base : Nat} {spare : Nat → Bool} {held : Bool}
theorem ints_of {t e : TypeId} {a : Option Addr} {len cap : Nat} {d : DataW H} {p : List MemPlace} (ht : P.underlying t = some (.slice e)) (he : P.underlying e = some (.int .i64)) (hc : P.cellsOf e = 1)
    (h : DataW.Trod enc P w base spare held t (.slice a len cap) d p) : ∃ l : List Int, l.length = len ∧ len ≤ maxLen ∧ Ints w a l ∧ ∀ n ∈ l, (Lit.int .i64 n).wf = true := by
  obtain ⟨fuel, hf⟩ := h
  rcases open_ints ht he hc hf with ⟨hcs, _⟩ | ⟨x, l, c, zs, hcs, _, hl, hm, hz, _, hcell, hwz⟩
  · simp [Value.cells] at hcs
    obtain ⟨rfl, rfl, rfl⟩ := hcs
    exact ⟨[], rfl, by simp [maxLen], Rd.nil _ _, by simp⟩
  · simp [Value.cells] at hcs
    obtain ⟨rfl, rfl, rfl⟩ := hcs
    have hz' : len ≤ zs.length := by rw [hz]; split <;> omega
    refine ⟨zs.take len, by rw [List.length_take]; omega, by omega, ?_, fun n hn => hwz n (List.mem_of_mem_take hn)⟩
    intro j u hu
    have hj : j < len ∧ j < zs.length := by
      have := (List.getElem?_eq_some_iff.1 hu).1
      simp only [ci, List.length_map, List.length_take] at this
      omega
    have hcj := hcell j hj.2
    have e := addr_lit (hcell 0 (by omega))
    refine ⟨x.block, x.off, by rw [← e], ?_⟩
    rw [e, Addr.add_lit] at hcj
    rw [hcj]
    have : (ci (zs.take len))[j]? = some (.int .i64 (zs.getD j 0)) := by
      simp only [ci, List.getElem?_map, List.getElem?_take, hj.1, if_true, List.getD, List.getElem?_eq_getElem hj.2]
      rfl
    rw [this] at hu
    exact hu
theorem labs_of {t e : TypeId} {a : Option Addr} {len cap : Nat} {d : DataW H} {p : List MemPlace} {f0 f1 f2 : Field} {t0 t1 t2 : TypeId} (ht : P.underlying t = some (.slice e)) (he : P.underlying e = some (.struct #[f0, f1, f2])) (hone : oneCellFields P #[f0, f1, f2] = true) (hC : P.cellsOf e = 3)
    (h0 : f0.type = t0) (h1 : f1.type = t1) (h2 : f2.type = t2) (i0 : P.underlying t0 = some (.int .i64)) (i1 : P.underlying t1 = some (.int .i64)) (i2 : P.underlying t2 = some (.int .i64))
    (h : DataW.Trod enc P w base spare held t (.slice a len cap) d p) : ∃ l : List Lab, l.length = len ∧ len ≤ maxLen ∧ Labs w a l := by
  subst h0 h1 h2
  obtain ⟨fuel, hf⟩ := h
  rcases open_slice ht hf with ⟨hcs, _⟩ | ⟨x, l, c, m, n, D, Pl, hcs, hb, hl, hm, hmm, _, hi⟩
  · simp [Value.cells] at hcs
    obtain ⟨rfl, rfl, rfl⟩ := hcs
    exact ⟨[], rfl, by simp [maxLen], Rd.nil _ _⟩
  · simp [Value.cells] at hcs
    obtain ⟨rfl, rfl, rfl⟩ := hcs
    have hlm : len ≤ m := by rw [hmm]; split <;> omega
    have key : ∀ i, i < len → ∃ y : Lab, ∀ j (h : j < 3), w.cell? (x.add (i * 3 + j)) = (c3 y)[j]? := by
      intro i hilt
      obtain ⟨cs', hc', ht'⟩ := hi i (by omega)
      rw [hC] at hc'
      obtain ⟨ys, n', _, _, hlen, hyl, hfld⟩ := DataW.trod_struct he ht'
      obtain ⟨_, hcl, hat⟩ := World.cells?_some hc'
      match cs', hcl with
      | [u0, u1, u2], _ =>
        have g0 := hfld 0 f0 rfl
        have g1 := hfld 1 f1 rfl
        have g2 := hfld 2 f2 rfl
        obtain ⟨o0, k0⟩ := hone_of hone 0 f0 rfl
        obtain ⟨o1, k1⟩ := hone_of hone 1 f1 rfl
        obtain ⟨o2, k2⟩ := hone_of hone 2 f2 rfl
        rw [o0, k0] at g0
        rw [o1, k1] at g1
        rw [o2, k2] at g2
        match ys, hyl with
        | [z0, z1, z2], _ =>
          obtain ⟨n0, e0, _⟩ := DataW.trod_int i0 (x := z0) g0
          obtain ⟨n1, e1, _⟩ := DataW.trod_int i1 (x := z1) g1
          obtain ⟨n2, e2, _⟩ := DataW.trod_int i2 (x := z2) g2
          simp at e0 e1 e2
          subst e0 e1 e2
          refine ⟨(n0, n1, n2), fun j hj => ?_⟩
          have := hat j hj
          rw [Go.Deep.add_add] at this
          exact this
    refine ⟨(List.range len).map fun i => if h : i < len then Classical.choose (key i h) else (0, 0, 0), by simp, by omega, ?_⟩
    intro j u hu
    have hjl : j < len * 3 := by
      have := (List.getElem?_eq_some_iff.1 hu).1
      rw [cl_length] at this
      simpa using this
    have hi3 : j / 3 < len := by omega
    have hk := Classical.choose_spec (key (j / 3) hi3) (j % 3) (by omega)
    have ej : j / 3 * 3 + j % 3 = j := by omega
    rw [ej] at hk
    have hu' : (c3 (Classical.choose (key (j / 3) hi3)))[j % 3]? = some u := by
      rw [← hu]
      obtain ⟨q0, q1, q2⟩ := cl_get ((List.range len).map fun i => if h : i < len then Classical.choose (key i h) else (0, 0, 0)) (j / 3) (by simpa using hi3)
      simp only [List.getElem_map, List.getElem_range, hi3, dif_pos] at q0 q1 q2
      have h3 : j % 3 = 0 ∨ j % 3 = 1 ∨ j % 3 = 2 := by omega
      rcases h3 with h3 | h3 | h3
      · rw [h3]; have : j = j / 3 * 3 := by omega
        rw [show (cl _)[j]? = (cl _)[j / 3 * 3]? from congrArg _ this, q0]; rfl
      · rw [h3]; have : j = j / 3 * 3 + 1 := by omega
        rw [show (cl _)[j]? = (cl _)[j / 3 * 3 + 1]? from congrArg _ this, q1]; rfl
      · rw [h3]; have : j = j / 3 * 3 + 2 := by omega
        rw [show (cl _)[j]? = (cl _)[j / 3 * 3 + 2]? from congrArg _ this, q2]; rfl
    rw [hu'] at hk
    have e := addr_lit ((Classical.choose_spec (key 0 (by omega)) 0 (by omega)).trans (rfl : _ = some (Value.int .i64 (Classical.choose (key 0 (by omega))).1)))
    refine ⟨x.block, x.off, by rw [← e], ?_⟩
    rw [e, Addr.add_lit] at hk
    exact hk
end
end Go.Proofs.Ytgimddboflhpaaa
