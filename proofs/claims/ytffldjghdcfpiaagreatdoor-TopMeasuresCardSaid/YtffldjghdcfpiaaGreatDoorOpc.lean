/- Parts of the proof: Ltz, Opn, Opc. No condition of its own. -/
import Derived.Test.YtffldjghdcfpiaaGreatDoorLtm
import Derived.HandedShaped
import Derived.Shelf.Vars
import Derived.Handed
import Derived.Test.YtffldjghdcfpiaaGreatDoorLa
import Derived.Test.YtffldjghdcfpiaaGreatDoorRows
import Derived.Test.YtffldjghdcfpiaaGreatDoorChecked
import Derived.ProofKit
import Derived.OpenShut
import Derived.ChangeOld
import Derived.Deep.Slices
import Derived.Deep.Fields
import Derived.Lib.SmallJoins
import Derived.ChangeArms
import Derived.Deep.Strs
set_option linter.unusedSimpArgs false
set_option linter.unusedVariables false
set_option linter.unusedSectionVars false
namespace Go.Proofs.YtffldjghdcfpiaaGreatDoor
open Go.RowKit Dg

theorem top_any (a p q n k : Int) (w : World) (_ : -9223372036854775808 ≤ k) (_ : k ≤ 9223372036854775807) (ht : Tab w) (hm : MLen w) :
    Calls Tryz.prog 3 #[.agg #[.int .i64 a, .int .i64 p, .int .i64 q, .int .i64 n], .int .i64 k] w fun e w' => e = .returned (.bool true) ∧ Below w.heap.size w w' := by
  rcases Classical.em (VI a p q n) with h | h
  · obtain ⟨a', p', q', n', rfl, rfl, rfl, rfl, hv⟩ := h.nat
    rcases Nat.lt_or_ge 100000 n' with hn | hn
    · exact top_no2 hv hn w
    · rcases Int.lt_or_le k 0 with hk | hk
      · exact top_no3 hv hn hk w
      · rcases Int.lt_or_le 4 k with h4 | h4
        · exact top_no4 hv hn h4 w
        · obtain ⟨k', rfl⟩ := Int.eq_ofNat_of_zero_le hk
          rcases Nat.eq_zero_or_pos (p' + q') with h0 | h0
          · exact top_zero hv hn (by omega) h0 w ht hm
          · exact top_pos hv hn (by omega) h0 w ht hm
  · exact top_no1 h w
theorem handed_both {H : Type} {enc : TypeId × Value → H} {C : Checked} {os : Os} {f : FuncId} {fn : Func} {s : ChangeSpec} {apart fresh handsOn again : Bool} {X : World → Array Value → Prop}
    (hX : ∀ (w w' : World) (args : Array Value), w.heap = w'.heap → X w args → X w' args) (own : ownKnob C.prog.godebug = none) (started : os.Started) (noInit : C.prog.inits.idxOf? f = none) (hfn : C.prog.funcs[f]? = some fn)
    (wit : ∃ (w : World) (tape : Go.Tape) (i : Input), w.os = os ∧ (w.forCall tape i).Shaped C.prog ∧ i.vars = [] ∧ Input.okWide C.prog (w.forCall tape i) .any w.heap.size f i ∧
      ((s.pre enc C.prog fn [] apart (w.forCall tape i).memory i.args ∧ X (w.forCall tape i).memory i.args) ∧ sizedMet enc C.prog fn (OpenSpec.ofChange s) apart (w.forCall tape i).memory i.args) ∧ Assume.holds {} C.prog (lone (Frame.enter C.prog f i.args .normal) [] (w.forCall tape i)))
    (calls : ∀ (W : World) (base : Nat) (args : Array Value) (ds gs : List (DataW H)) (before : List MemPlace), W.ShapedOpen C.prog → X W args →
      (∀ (j : Nat) t v, fn.params[j]? = some t → args[j]? = some v → Value.okWide C.prog W .any base t v) →
      DataW.Whole enc C.prog fn.params.toList s.vars apart W args.toList ds gs before →
      Calls C.prog f args W fun e W' => ∃ v, e = .returned v ∧ s.post enc C.prog fn apart fresh handsOn again W args v W') :
    ReturnsInHanded {} C os f .any (fun w args => (s.pre enc C.prog fn [] apart w args ∧ X w args) ∧ sizedMet enc C.prog fn (OpenSpec.ofChange s) apart w args) (s.post enc C.prog fn apart fresh handsOn again) := by
  apply returnsInHanded_of_calls own started noInit wit
  rintro w tape i - shape - ⟨-, -, -, g, hg, -, -, -, -, vals⟩ ⟨⟨⟨ds, gs, before, whole, -⟩, x⟩, -⟩ -
  cases (Option.some.inj (hg.symm.trans hfn) : g = fn)
  refine (calls (w.forCall tape i) _ i.args ds gs before shape (hX _ _ _ (by rfl) x) vals (whole.of_heap (w' := w.forCall tape i) (by rfl))).mono ?_; rintro e W' ⟨v, rfl, post⟩; exact ChangeSpec.post_blind post
open Go.ChangeShapes Go.WideShapes Go.ChangeAt Go.RowKit Go.Deep

theorem wide_of {n : Int} (h : (Lit.int .i64 n).wf = true) : -9223372036854775808 ≤ n ∧ n ≤ 9223372036854775807 := by
  have e1 : IntKind.i64.min = -9223372036854775808 := by decide
  have e2 : IntKind.i64.max = 9223372036854775807 := by decide
  simp [Lit.wf] at h
  omega

section
variable {H : Type} {enc : TypeId × Value → H} {P : Program} {w : World} {base : Nat} {spare : Nat → Bool} {held : Bool}
end
open Go.ChangeShapes Go.WideShapes Go.ChangeAt Go.RowKit Go.Deep

section
variable {H : Type} {enc : TypeId × Value → H} {P : Program} {w : World} {base : Nat} {spare : Nat → Bool} {held : Bool}
theorem list4 {α : Type} {l : List α} {a b c d : α} (hl : l.length = 4) (h0 : (l.drop 0).take 1 = [a]) (h1 : (l.drop 1).take 1 = [b]) (h2 : (l.drop 2).take 1 = [c]) (h3 : (l.drop 3).take 1 = [d]) : l = [a, b, c, d] := by
  match l, hl with
  | [x, y, z, u], _ => simp at h0 h1 h2 h3; simp [h0, h1, h2, h3]
theorem cells_of {t e : TypeId} {f0 f1 f2 f3 : Field} {r : Reach} {b0 : Nat} {v : Value} {d : DataW H} {p : List MemPlace} (ht : P.underlying t = some (.struct #[f0, f1, f2, f3])) (q0 : f0.type = e) (q1 : f1.type = e) (q2 : f2.type = e) (q3 : f3.type = e) (ke : P.underlying e = some (.int .i64))
    (o0 : f0.offset = 0) (o1 : f1.offset = 1) (o2 : f2.offset = 2) (o3 : f3.offset = 3) (ce : P.cellsOf e = 1) (hc : P.cellsOf t = 4) (hv : Value.okWide P w r b0 t v) (h : DataW.Trod enc P w base spare held t v d p) :
    ∃ a b c u : Int, v = .agg #[.int .i64 a, .int .i64 b, .int .i64 c, .int .i64 u] := by
  obtain ⟨cs, rfl, -⟩ := okWide_struct ht hv; obtain ⟨fuel, hf⟩ := h; obtain ⟨y0, y1, y2, y3, n, -, hl, h0, h1, h2, h3⟩ := Go.Joins.trod_struct4 ht hf; rw [o0, q0, ce] at h0; rw [o1, q1, ce] at h1; rw [o2, q2, ce] at h2; rw [o3, q3, ce] at h3; obtain ⟨a, e0, -⟩ := DataW.trod_int ke h0; obtain ⟨b, e1, -⟩ := DataW.trod_int ke h1; obtain ⟨c, e2, -⟩ := DataW.trod_int ke h2; obtain ⟨u, e3, -⟩ := DataW.trod_int ke h3; have e' : cs.toList = [.int .i64 a, .int .i64 b, .int .i64 c, .int .i64 u] := list4 (hl.trans hc) e0 e1 e2 e3; exact ⟨a, b, c, u, by rw [show cs = cs.toList.toArray from rfl, e']⟩
end
end Go.Proofs.YtffldjghdcfpiaaGreatDoor
