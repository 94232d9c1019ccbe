/- Parts of the proof: Opd, Hnd. No condition of its own. -/
import Derived.Test.YtfenjklilocjgaaGreatDoorCo
import Derived.Test.YtfenjklilocjgaaGreatDoorRows
import Derived.Test.YtfenjklilocjgaaGreatDoorChecked
import Derived.ProofKit
import Derived.OpenShut
import Derived.ChangeOld
import Derived.ChangeArms
import Derived.Deep.Slices
import Derived.Deep.Fields
import Derived.Lib.SmallJoins
import Derived.LaidMore
import Derived.LaidHandle
import Derived.MakeChecks
import Derived.Stop.Joined
import Derived.SevenTiedAt
import Derived.Handed
set_option linter.unusedSimpArgs false
set_option linter.unusedVariables false
set_option linter.unusedSectionVars false
namespace Go.Proofs.YtfenjklilocjgaaGreatDoor
set_option linter.unusedSimpArgs false
set_option linter.unusedVariables false
set_option linter.unusedSectionVars false
open Go.ChangeShapes Go.WideShapes Go.ChangeAt Go.RowKit Go.Deep

theorem addr_litd {w : World} {x : Addr} {u : Value} (h : w.cell? (x.add 0) = some u) : x = ⟨x.block, x.off, none⟩ := by
  obtain ⟨b, off, spot⟩ := x
  have hs : spot = none := by simpa [Addr.add] using World.cell?_spot h
  subst hs
  rfl
theorem tk_d {cs : List Value} {off c : Nat} {r : List Value} (hc : 1 = c) (h : (cs.drop off).take c = r) : (cs.drop off).take 1 = r := hc ▸ h
theorem wide_d {n : Int} (h : (Lit.int .i64 n).wf = true) : I64 n := by
  have e1 : IntKind.i64.min = -9223372036854775808 := by decide
  have e2 : IntKind.i64.max = 9223372036854775807 := by decide
  unfold I64
  simp [Lit.wf] at h
  omega
theorem flat_idx {k : Nat} : ∀ {es : List (List Value)} (_ : ∀ e ∈ es, e.length = k) (j : Nat) (u : Value), es.flatten[j]? = some u → ∃ i r e, j = i * k + r ∧ r < k ∧ es[i]? = some e ∧ e[r]? = some u := by
  intro es
  induction es with
  | nil => intro _ j u h; simp at h
  | cons x r ih =>
    intro hk j u h
    have hx := hk x (by simp)
    rw [List.flatten_cons] at h
    rcases Nat.lt_or_ge j x.length with hj | hj
    · rw [List.getElem?_append_left hj] at h
      exact ⟨0, j, x, by omega, by omega, rfl, h⟩
    · rw [List.getElem?_append_right hj] at h
      obtain ⟨i, q, e, h1, h2, h3, h4⟩ := ih (fun e he => hk e (by simp [he])) _ u h
      exact ⟨i + 1, q, e, by rw [Nat.add_mul]; omega, h2, by simpa using h3, h4⟩

section
variable {H : Type} {enc : TypeId × Value → H} {P : Program} {w : World} {base : Nat} {spare : Nat → Bool} {held : Bool}
theorem eo_of {α : Type} {t e : TypeId} {k : Nat} {E : α → List Value → Prop} (ht : P.underlying t = some (.slice e)) (hc : P.cellsOf e = k) (hk : 0 < k)
    (hel : ∀ n cs x, cs.length = k → DataW.trod enc P w base spare held n e cs = some x → ∃ a, E a cs) {fuel : Nat} {cs : List Value} {x : DataW H × List MemPlace} (h : DataW.trod enc P w base spare held fuel t cs = some x) :
    ∃ v l, cs = [v] ∧ EO (fun _ => False) w k E v l := by
  rcases open_slice ht h with ⟨rfl, -⟩ | ⟨a, len, cap, m, n, D, Pl, rfl, -, hl, hm, hmm, -, hx⟩
  · exact ⟨_, [], rfl, EO.nil _ _ _ _⟩
  · have hlm : len ≤ m := by rw [hmm]; split <;> omega
    have each : ∀ i, i < len → ∃ p : α × List Value, p.2.length = k ∧ E p.1 p.2 ∧ ∀ r u, p.2[r]? = some u → w.cell? (a.add (i * k + r)) = some u := by
      intro i hi
      obtain ⟨cs', h1, h2⟩ := hx i (by omega)
      rw [hc] at h1
      obtain ⟨_, hlen, hcell⟩ := World.cells?_some h1
      obtain ⟨y, hy⟩ := hel n cs' _ hlen h2
      refine ⟨(y, cs'), hlen, hy, fun r u hu => ?_⟩
      have hr : r < k := by rw [← hlen]; exact (List.getElem?_eq_some_iff.1 hu).1
      have h3 := hcell r hr
      rw [add_add] at h3
      rw [h3]
      exact hu
    let f : Fin len → α × List Value := fun i => Classical.choose (each i.1 i.2)
    have hf : ∀ i : Fin len, (f i).2.length = k ∧ E (f i).1 (f i).2 ∧ ∀ r u, (f i).2[r]? = some u → w.cell? (a.add (i.1 * k + r)) = some u := fun i => Classical.choose_spec (each i.1 i.2)
    have hw : ∀ e ∈ List.ofFn fun i => (f i).2, e.length = k := fun e he => by obtain ⟨i, rfl⟩ := List.mem_ofFn.1 he; exact (hf i).1
    refine ⟨_, List.ofFn fun i => (f i).1, rfl, List.ofFn fun i => (f i).2, ⟨by simp, hw, fun i e x h1 h2 => ?_⟩, some a, cap, by simp, by simpa using hl, hm, fun j u hu => ?_⟩
    · obtain ⟨hi, rfl⟩ := List.getElem?_eq_some_iff.1 h1
      obtain ⟨hi', rfl⟩ := List.getElem?_eq_some_iff.1 h2
      simp only [List.getElem_ofFn]
      exact (hf _).2.1
    · obtain ⟨i, r, e, rfl, hr, h1, h2⟩ := flat_idx hw j u hu
      obtain ⟨hi, rfl⟩ := List.getElem?_eq_some_iff.1 h1
      simp only [List.getElem_ofFn] at h2
      have h3 := (hf _).2.2 r u h2
      have hi0 : 0 < len := by have := hi; simp at this; omega
      obtain ⟨u0, h0⟩ : ∃ u, w.cell? (a.add (0 * k + 0)) = some u := ⟨_, (hf ⟨0, hi0⟩).2.2 0 _ (List.getElem?_eq_getElem (by rw [(hf _).1]; exact hk))⟩
      have ea := addr_litd (x := a) (by rw [Nat.zero_mul] at h0; exact h0)
      refine ⟨a.block, a.off, by rw [← ea], fun x => x, ?_⟩
      rw [ea, Addr.add_lit] at h3
      exact h3
theorem field_of {fs : Array Field} {t : TypeId} {fuel : Nat} {cs : List Value} {x : DataW H × List MemPlace} (ht : P.underlying t = some (.struct fs)) (h : DataW.trod enc P w base spare held fuel t cs = some x) :
    ∃ n, cs.length = P.cellsOf t ∧ ∀ (i : Nat) (f : Field), fs[i]? = some f → ∃ y, DataW.trod enc P w base spare held n f.type ((cs.drop f.offset).take (P.cellsOf f.type)) = some y := by
  obtain ⟨xs, n, _, _, hl, hlen, hf⟩ := DataW.trod_struct ht h
  refine ⟨n, hl, fun i f hi => ?_⟩
  have hlt : i < xs.length := by
    rw [hlen]
    rcases Nat.lt_or_ge i fs.size with h | h
    · exact h
    · rw [Array.getElem?_eq_none h] at hi; cases hi
  exact ⟨xs[i], by rw [hf i f hi, List.getElem?_eq_getElem hlt]⟩
theorem el_str {t : TypeId} (ht : P.underlying t = some .string) {n : Nat} {cs : List Value} {x : DataW H × List MemPlace} (h : DataW.trod enc P w base spare held n t cs = some x) : ∃ s, EStr s cs := by
  obtain ⟨s, rfl, -, hs⟩ := DataW.trod_string ht h
  exact ⟨s, rfl, hs⟩
theorem el_int {t : TypeId} (ht : P.underlying t = some (.int .i64)) {n : Nat} {cs : List Value} {x : DataW H × List MemPlace} (h : DataW.trod enc P w base spare held n t cs = some x) : ∃ z, EInt z cs := by
  obtain ⟨z, rfl, -, hz⟩ := DataW.trod_int ht h
  exact ⟨z, rfl, wide_d hz⟩
theorem el_bool {t : TypeId} (ht : P.underlying t = some .bool) {n : Nat} {cs : List Value} {x : DataW H × List MemPlace} (h : DataW.trod enc P w base spare held n t cs = some x) : ∃ b, cs = [.bool b] := by
  obtain ⟨b, rfl, -⟩ := DataW.trod_bool ht h
  exact ⟨b, rfl⟩
end
theorem two_d {l : List Value} {a b : Value} (hl : l.length = 2) (h0 : (l.drop 0).take 1 = [a]) (h1 : (l.drop 1).take 1 = [b]) : l = [a, b] := by
  match l, hl with
  | [x, y], _ => simp at h0 h1; simp [h0, h1]
theorem four_d {l : List Value} {a b c d : Value} (hl : l.length = 4) (h0 : (l.drop 0).take 1 = [a]) (h1 : (l.drop 1).take 1 = [b]) (h2 : (l.drop 2).take 1 = [c]) (h3 : (l.drop 3).take 1 = [d]) : l = [a, b, c, d] := by
  match l, hl with
  | [x, y, z, u], _ => simp at h0 h1 h2 h3; simp [h0, h1, h2, h3]
theorem seven_d {l : List Value} {a b c d e f g : Value} (hl : l.length = 7) (h0 : (l.drop 0).take 1 = [a]) (h1 : (l.drop 1).take 1 = [b]) (h2 : (l.drop 2).take 1 = [c]) (h3 : (l.drop 3).take 1 = [d]) (h4 : (l.drop 4).take 1 = [e]) (h5 : (l.drop 5).take 1 = [f]) (h6 : (l.drop 6).take 1 = [g]) : l = [a, b, c, d, e, f, g] := by
  match l, hl with
  | [x0, x1, x2, x3, x4, x5, x6], _ => simp at h0 h1 h2 h3 h4 h5 h6; simp [h0, h1, h2, h3, h4, h5, h6]
section
variable {H : Type} {enc : TypeId × Value → H} {w : World} {base : Nat} {spare : Nat → Bool} {held : Bool} {n : Nat} {cs : List Value} {x : DataW H × List MemPlace}
theorem el_pair (h : DataW.trod enc Tryz.prog w base spare held n 105 cs = some x) : ∃ p, EPair p cs := by
  obtain ⟨m, hl, hf⟩ := field_of Tryz.underlying105 h
  obtain ⟨y0, h0⟩ := hf 0 _ rfl
  obtain ⟨y1, h1⟩ := hf 1 _ rfl
  obtain ⟨a, e0, q0⟩ := el_str Tryz.underlying9 h0
  obtain ⟨b, e1, q1⟩ := el_str Tryz.underlying9 h1
  exact ⟨(a, b), two_d (hl.trans (by kernel_rfl)) (tk_d (by kernel_rfl) e0) (tk_d (by kernel_rfl) e1), q0, q1⟩
theorem el_attr (h : DataW.trod enc Tryz.prog w base spare held n 64 cs = some x) : ∃ p, EAttr p cs := by
  obtain ⟨m, hl, hf⟩ := field_of Tryz.underlying64 h
  obtain ⟨y0, h0⟩ := hf 0 _ rfl
  obtain ⟨y1, h1⟩ := hf 1 _ rfl
  obtain ⟨a, e0, q0⟩ := el_str Tryz.underlying9 h0
  obtain ⟨b, e1⟩ := el_bool Tryz.underlying4 h1
  exact ⟨(a, b), two_d (hl.trans (by kernel_rfl)) (tk_d (by kernel_rfl) e0) (tk_d (by kernel_rfl) e1), q0⟩
theorem el_node (h : DataW.trod enc Tryz.prog w base spare held n 74 cs = some x) : ∃ p, ENode p cs := by
  obtain ⟨m, hl, hf⟩ := field_of Tryz.underlying74 h
  obtain ⟨y0, h0⟩ := hf 0 _ rfl
  obtain ⟨y1, h1⟩ := hf 1 _ rfl
  obtain ⟨y2, h2⟩ := hf 2 _ rfl
  obtain ⟨y3, h3⟩ := hf 3 _ rfl
  obtain ⟨a, e0, q0⟩ := el_str Tryz.underlying9 h0
  obtain ⟨b, e1, q1⟩ := el_int Tryz.underlying3 h1
  obtain ⟨c, e2, q2⟩ := el_int Tryz.underlying3 h2
  obtain ⟨d, e3, q3⟩ := el_int Tryz.underlying3 h3
  exact ⟨(a, b, c, d), four_d (hl.trans (by kernel_rfl)) (tk_d (by kernel_rfl) e0) (tk_d (by kernel_rfl) e1) (tk_d (by kernel_rfl) e2) (tk_d (by kernel_rfl) e3), q0, q1, q2, q3⟩
theorem el_pairs (h : DataW.trod enc Tryz.prog w base spare held n 67 cs = some x) : ∃ v l, cs = [v] ∧ PairsO (fun _ => False) w v l :=
  eo_of Tryz.underlying67 (by kernel_rfl) (by decide) (fun _ _ _ _ h => el_pair h) h
theorem el_text (h : DataW.trod enc Tryz.prog w base spare held n 71 cs = some x) : ∃ p, ESpn (fun _ => False) w p cs := by
  obtain ⟨m, hl, hf⟩ := field_of Tryz.underlying71 h
  obtain ⟨y0, h0⟩ := hf 0 _ rfl
  obtain ⟨y1, h1⟩ := hf 1 _ rfl
  obtain ⟨y2, h2⟩ := hf 2 _ rfl
  obtain ⟨y3, h3⟩ := hf 3 _ rfl
  obtain ⟨a, e0, q0⟩ := el_str Tryz.underlying9 h0
  obtain ⟨b, e1, q1⟩ := el_int Tryz.underlying3 h1
  obtain ⟨c, e2, q2⟩ := el_int Tryz.underlying3 h2
  obtain ⟨d, l, e3, q3⟩ := el_pairs h3
  exact ⟨⟨a, b, c, l⟩, d, four_d (hl.trans (by kernel_rfl)) (tk_d (by kernel_rfl) e0) (tk_d (by kernel_rfl) e1) (tk_d (by kernel_rfl) e2) (tk_d (by kernel_rfl) e3), q0, q1, q2, q3⟩
theorem el_reg (h : DataW.trod enc Tryz.prog w base spare held n 69 cs = some x) : ∃ p, ESpn (fun _ => False) w p cs := by
  obtain ⟨m, hl, hf⟩ := field_of Tryz.underlying69 h
  obtain ⟨y0, h0⟩ := hf 0 _ rfl
  obtain ⟨y1, h1⟩ := hf 1 _ rfl
  obtain ⟨y2, h2⟩ := hf 2 _ rfl
  obtain ⟨y3, h3⟩ := hf 3 _ rfl
  obtain ⟨a, e0, q0⟩ := el_str Tryz.underlying9 h0
  obtain ⟨b, e1, q1⟩ := el_int Tryz.underlying3 h1
  obtain ⟨c, e2, q2⟩ := el_int Tryz.underlying3 h2
  obtain ⟨d, l, e3, q3⟩ := el_pairs h3
  exact ⟨⟨a, b, c, l⟩, d, four_d (hl.trans (by kernel_rfl)) (tk_d (by kernel_rfl) e0) (tk_d (by kernel_rfl) e1) (tk_d (by kernel_rfl) e2) (tk_d (by kernel_rfl) e3), q0, q1, q2, q3⟩
theorem el_strs (h : DataW.trod enc Tryz.prog w base spare held n 28 cs = some x) : ∃ v l, cs = [v] ∧ StrsO (fun _ => False) w v l :=
  eo_of Tryz.underlying28 (by kernel_rfl) (by decide) (fun _ _ _ _ h => el_str Tryz.underlying9 h) h
theorem el_row (h : DataW.trod enc Tryz.prog w base spare held n 28 cs = some x) : ∃ r, ERow (fun _ => False) w r cs := by
  obtain ⟨v, l, e, q⟩ := el_strs h
  exact ⟨l, v, e, q⟩
set_option maxRecDepth 100000 in
/-- A corpus as an argument. -/
theorem cor_of {r : Reach} {b0 : Nat} {v : Value} {d : DataW H} {p : List MemPlace} (hv : Value.okWide Tryz.prog w r b0 30 v) (h : DataW.Trod enc Tryz.prog w base spare held 30 v d p) : ∃ C, CorV (fun _ => False) w v C := by
  obtain ⟨cs, rfl, -⟩ := okWide_struct Tryz.underlying30 hv
  obtain ⟨fuel, hf⟩ := h
  obtain ⟨m, hl, hf⟩ := field_of Tryz.underlying30 hf
  obtain ⟨y0, h0⟩ := hf 0 _ rfl
  obtain ⟨y1, h1⟩ := hf 1 _ rfl
  obtain ⟨y2, h2⟩ := hf 2 _ rfl
  obtain ⟨y3, h3⟩ := hf 3 _ rfl
  obtain ⟨y4, h4⟩ := hf 4 _ rfl
  obtain ⟨y5, h5⟩ := hf 5 _ rfl
  obtain ⟨y6, h6⟩ := hf 6 _ rfl
  obtain ⟨a, la, e0, q0⟩ := eo_of Tryz.underlying22 (k := 2) (by kernel_rfl) (by decide) (fun _ _ _ _ h => el_attr h) h0
  obtain ⟨t, lt, e1, q1⟩ := eo_of Tryz.underlying23 (k := 1) (by kernel_rfl) (by decide) (fun _ _ _ _ h => el_row h) h1
  obtain ⟨x, lx, e2, q2⟩ := eo_of Tryz.underlying24 (k := 4) (by kernel_rfl) (by decide) (fun _ _ _ _ h => el_text h) h2
  obtain ⟨r, lr, e3, q3⟩ := eo_of Tryz.underlying25 (k := 4) (by kernel_rfl) (by decide) (fun _ _ _ _ h => el_reg h) h3
  obtain ⟨n, ln, e4, q4⟩ := eo_of Tryz.underlying26 (k := 4) (by kernel_rfl) (by decide) (fun _ _ _ _ h => el_node h) h4
  obtain ⟨hh, lh, e5, q5⟩ := eo_of Tryz.underlying27 (k := 1) (by kernel_rfl) (by decide) (fun _ _ _ _ h => el_int Tryz.underlying3 h) h5
  obtain ⟨s, ls, e6, q6⟩ := eo_of Tryz.underlying28 (k := 1) (by kernel_rfl) (by decide) (fun _ _ _ _ h => el_str Tryz.underlying9 h) h6
  have e := seven_d (hl.trans (by kernel_rfl)) (tk_d (by kernel_rfl) e0) (tk_d (by kernel_rfl) e1) (tk_d (by kernel_rfl) e2) (tk_d (by kernel_rfl) e3) (tk_d (by kernel_rfl) e4) (tk_d (by kernel_rfl) e5) (tk_d (by kernel_rfl) e6)
  exact ⟨⟨la, lt, lx, lr, ln, lh, ls⟩, a, t, x, r, n, hh, s, by rw [show cs = cs.toList.toArray from rfl]; exact congrArg (fun l => Value.agg (List.toArray l)) e, q0, q1, q2, q3, q4, q5, q6⟩
end
set_option linter.unusedSimpArgs false
set_option linter.unusedVariables false
set_option linter.unusedSectionVars false
open Go.ChangeShapes Go.WideShapes Go.ChangeAt Go.RowKit Go.Deep

/-- What a claim asks of the world beside the row's own premise: both the laid variables and the shape. -/
theorem handed_both {H : Type} {enc : TypeId × Value → H} {C : Checked} {os : Os} {f : FuncId} {fn : Func} {s : ChangeSpec} {apart fresh handsOn again : Bool} {X : World → Array Value → Prop}
    (hX : ∀ (w w' : World) (args : Array Value), w.heap = w'.heap → X w args → X w' args) (own : ownKnob C.prog.godebug = none) (started : os.Started) (noInit : C.prog.inits.idxOf? f = none) (hfn : C.prog.funcs[f]? = some fn)
    (wit : ∃ (w : World) (tape : Go.Tape) (i : Input), w.os = os ∧ (w.forCall tape i).Shaped C.prog ∧ i.vars = [] ∧ Input.okWide C.prog (w.forCall tape i) .any w.heap.size f i ∧
      ((s.pre enc C.prog fn [] apart (w.forCall tape i).memory i.args ∧ X (w.forCall tape i).memory i.args) ∧ sizedMet enc C.prog fn (OpenSpec.ofChange s) apart (w.forCall tape i).memory i.args) ∧ Assume.holds {} C.prog (lone (Frame.enter C.prog f i.args .normal) [] (w.forCall tape i)))
    (calls : ∀ (W : World) (base : Nat) (args : Array Value) (ds gs : List (DataW H)) (before : List MemPlace), W.ShapedOpen C.prog → X W args →
      (∀ (j : Nat) t v, fn.params[j]? = some t → args[j]? = some v → Value.okWide C.prog W .any base t v) →
      DataW.Whole enc C.prog fn.params.toList s.vars apart W args.toList ds gs before →
      Calls C.prog f args W fun e W' => ∃ v, e = .returned v ∧ s.post enc C.prog fn apart fresh handsOn again W args v W') :
    ReturnsInHanded {} C os f .any (fun w args => (s.pre enc C.prog fn [] apart w args ∧ X w args) ∧ sizedMet enc C.prog fn (OpenSpec.ofChange s) apart w args) (s.post enc C.prog fn apart fresh handsOn again) := by
  apply returnsInHanded_of_calls own started noInit wit
  rintro w tape i - shape - ⟨-, -, -, g, hg, -, -, -, -, vals⟩ ⟨⟨⟨ds, gs, before, whole, -⟩, x⟩, -⟩ -
  cases (Option.some.inj (hg.symm.trans hfn) : g = fn)
  refine (calls (w.forCall tape i) _ i.args ds gs before shape (hX _ _ _ (by rfl) x) vals (whole.of_heap (w' := w.forCall tape i) (by rfl))).mono ?_
  rintro e W' ⟨v, rfl, post⟩
  exact ChangeSpec.post_blind post
end Go.Proofs.YtfenjklilocjgaaGreatDoor
