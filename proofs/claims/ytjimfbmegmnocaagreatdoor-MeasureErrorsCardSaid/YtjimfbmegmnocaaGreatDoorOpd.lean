/- Parts of the proof: Opn, Opd. No condition of its own. -/
import Derived.Test.YtjimfbmegmnocaaGreatDoorIt
import Derived.Test.YtjimfbmegmnocaaGreatDoorRows
import Derived.Test.YtjimfbmegmnocaaGreatDoorChecked
import Derived.ProofKit
import Derived.OpenShut
import Derived.ChangeOld
import Derived.Deep.Slices
import Derived.Deep.Fields
import Derived.Lib.SmallJoins
import Derived.Test.YtjimfbmegmnocaaGreatDoorCa
import Derived.ChangeArms
set_option linter.unusedSimpArgs false
set_option linter.unusedVariables false
set_option maxRecDepth 100000
namespace Go.Proofs.YtjimfbmegmnocaaGreatDoor
open Go.ChangeShapes Go.WideShapes Go.ChangeAt Go.RowKit Go.Deep

theorem addr_lit {w : World} {x : Addr} {u : Value} (h : w.cell? (x.add 0) = some u) : x = ⟨x.block, x.off, none⟩ := by
 obtain ⟨b, off, spot⟩ := x; have hs : spot = none := by simpa [Addr.add] using World.cell?_spot h
 subst hs
 rfl
theorem wide_of {n : Int} (h : (Lit.int .i64 n).wf = true) : -9223372036854775808 <= n /\ n <= 9223372036854775807 := by
 have e1 : IntKind.i64.min = -9223372036854775808 := by decide
 have e2 : IntKind.i64.max = 9223372036854775807 := by decide
 simp [Lit.wf] at h
 omega

section
variable {H : Type} {enc : TypeId × Value -> H} {P : Program} {w : World} {base : Nat} {spare : Nat -> Bool} {held : Bool}
theorem ints_of2 {t e : TypeId} {a : Option Addr} {len cap : Nat} {d : DataW H} {p : List MemPlace} (ht : P.underlying t = some (.slice e)) (he : P.underlying e = some (.int .i64)) (hc : P.cellsOf e = 1)
  (h : DataW.Trod enc P w base spare held t (.slice a len cap) d p) : ∃ l : List Int, l.length = len /\ len <= cap /\ cap <= maxLen /\ Ints w a l /\ Wide l := by
 obtain ⟨fuel, hf⟩ := h
 rcases open_ints ht he hc hf with ⟨hcs, _⟩ | ⟨x, l, c, zs, hcs, _, hl, hm, hz, _, hcell, hwz⟩
 ·simp [Value.cells] at hcs
  obtain ⟨rfl, rfl, rfl⟩ := hcs; exact ⟨[], rfl, by omega, by simp [maxLen], Rd.nil _ _, by intro x hx; simp at hx⟩
 ·simp [Value.cells] at hcs
  obtain ⟨rfl, rfl, rfl⟩ := hcs; have hz' : len <= zs.length := by rw [hz]; split <;> omega
  refine ⟨zs.take len, by rw [List.length_take]; omega, by omega, by omega, ?_, fun n hn => wide_of (hwz n (List.mem_of_mem_take hn))⟩; intro j u hu; have hj : j < len /\ j < zs.length := by
   have := (List.getElem?_eq_some_iff.1 hu).1
   simp only [ci, List.length_map, List.length_take] at this
   omega
  have hcj := hcell j hj.2; have e := addr_lit (hcell 0 (by omega)); refine ⟨x.block, x.off, by rw [<- e], ?_⟩; rw [e, Addr.add_lit] at hcj; rw [hcj]; have : (ci (zs.take len))[j]? = some (.int .i64 (zs.getD j 0)) := by
   simp only [ci, List.getElem?_map, List.getElem?_take, hj.1, if_true, List.getD, List.getElem?_eq_getElem hj.2]
   rfl
  rw [this] at hu; exact hu
end
open Go.ChangeShapes Go.WideShapes Go.ChangeAt Go.RowKit Go.Deep

theorem addr_litd {w : World} {x : Addr} {u : Value} (h : w.cell? (x.add 0) = some u) : x = ⟨x.block, x.off, none⟩ := by
 obtain ⟨b, off, spot⟩ := x; have hs : spot = none := by simpa [Addr.add] using World.cell?_spot h
 subst hs
 rfl
theorem tk_d {cs : List Value} {off c : Nat} {r : List Value} (hc : 1 = c) (h : (cs.drop off).take c = r) : (cs.drop off).take 1 = r := hc ▸ h
theorem wide_d {n : Int} (h : (Lit.int .i64 n).wf = true) : I64 n := by
 have e1 : IntKind.i64.min = -9223372036854775808 := by decide
 have e2 : IntKind.i64.max = 9223372036854775807 := by decide
 unfold I64
 simp [Lit.wf] at h
 omega
theorem flat_idx {k : Nat} : ∀ {es : List (List Value)} (_ : ∀ e ∈ es, e.length = k) (j : Nat) (u : Value), es.flatten[j]? = some u -> ∃ i r e, j = i * k + r /\ r < k /\ es[i]? = some e /\ e[r]? = some u := by
 intro es
 induction es with
 | nil => intro _ j u h; simp at h
 | cons x r ih =>
  intro hk j u h; have hx := hk x (by simp); rw [List.flatten_cons] at h
  rcases Nat.lt_or_ge j x.length with hj | hj
  ·rw [List.getElem?_append_left hj] at h; exact ⟨0, j, x, by omega, by omega, rfl, h⟩
  ·rw [List.getElem?_append_right hj] at h; obtain ⟨i, q, e, h1, h2, h3, h4⟩ := ih (fun e he => hk e (by simp [he])) _ u h; exact ⟨i + 1, q, e, by rw [Nat.add_mul]; omega, h2, by simpa using h3, h4⟩

section
variable {H : Type} {enc : TypeId × Value -> H} {P : Program} {w : World} {base : Nat} {spare : Nat -> Bool} {held : Bool}
theorem eo_of {α : Type} {t e : TypeId} {k : Nat} {E : α -> List Value -> Prop} (ht : P.underlying t = some (.slice e)) (hc : P.cellsOf e = k) (hk : 0 < k)
  (hel : ∀ n cs x, cs.length = k -> DataW.trod enc P w base spare held n e cs = some x -> ∃ a, E a cs) {fuel : Nat} {cs : List Value} {x : DataW H × List MemPlace} (h : DataW.trod enc P w base spare held fuel t cs = some x) :
  ∃ v l, cs = [v] /\ EO (fun _ => False) w k E v l := by
 rcases open_slice ht h with ⟨rfl, -⟩ | ⟨a, len, cap, m, n, D, Pl, rfl, -, hl, hm, hmm, -, hx⟩
 ·exact ⟨_, [], rfl, EO.nil _ _ _ _⟩
 ·have hlm : len <= m := by rw [hmm]; split <;> omega
  have each : ∀ i, i < len -> ∃ p : α × List Value, p.2.length = k /\ E p.1 p.2 /\ ∀ r u, p.2[r]? = some u -> w.cell? (a.add (i * k + r)) = some u := by
   intro i hi; obtain ⟨cs', h1, h2⟩ := hx i (by omega); rw [hc] at h1; obtain ⟨_, hlen, hcell⟩ := World.cells?_some h1; obtain ⟨y, hy⟩ := hel n cs' _ hlen h2; refine ⟨(y, cs'), hlen, hy, fun r u hu => ?_⟩; have hr : r < k := by rw [<- hlen]; exact (List.getElem?_eq_some_iff.1 hu).1
   have h3 := hcell r hr; rw [add_add] at h3; rw [h3]; exact hu
  let f : Fin len -> α × List Value := fun i => Classical.choose (each i.1 i.2)
  have hf : ∀ i : Fin len, (f i).2.length = k /\ E (f i).1 (f i).2 /\ ∀ r u, (f i).2[r]? = some u -> w.cell? (a.add (i.1 * k + r)) = some u := fun i => Classical.choose_spec (each i.1 i.2); have hw : ∀ e ∈ List.ofFn fun i => (f i).2, e.length = k := fun e he => by obtain ⟨i, rfl⟩ := List.mem_ofFn.1 he; exact (hf i).1
  refine ⟨_, List.ofFn fun i => (f i).1, rfl, List.ofFn fun i => (f i).2, ⟨by simp, hw, fun i e x h1 h2 => ?_⟩, some a, cap, by simp, by simpa using hl, hm, fun j u hu => ?_⟩
  ·obtain ⟨hi, rfl⟩ := List.getElem?_eq_some_iff.1 h1; obtain ⟨hi', rfl⟩ := List.getElem?_eq_some_iff.1 h2
   simp only [List.getElem_ofFn]
   exact (hf _).2.1
  ·obtain ⟨i, r, e, rfl, hr, h1, h2⟩ := flat_idx hw j u hu; obtain ⟨hi, rfl⟩ := List.getElem?_eq_some_iff.1 h1
   simp only [List.getElem_ofFn] at h2
   have h3 := (hf _).2.2 r u h2; have hi0 : 0 < len := by have := hi; simp at this; omega
   obtain ⟨u0, h0⟩ : ∃ u, w.cell? (a.add (0 * k + 0)) = some u := ⟨_, (hf ⟨0, hi0⟩).2.2 0 _ (List.getElem?_eq_getElem (by rw [(hf _).1]; exact hk))⟩; have ea := addr_litd (x := a) (by rw [Nat.zero_mul] at h0; exact h0); refine ⟨a.block, a.off, by rw [<- ea], fun x => x, ?_⟩; rw [ea, Addr.add_lit] at h3; exact h3
theorem field_of {fs : Array Field} {t : TypeId} {fuel : Nat} {cs : List Value} {x : DataW H × List MemPlace} (ht : P.underlying t = some (.struct fs)) (h : DataW.trod enc P w base spare held fuel t cs = some x) :
  ∃ n, cs.length = P.cellsOf t /\ ∀ (i : Nat) (f : Field), fs[i]? = some f -> ∃ y, DataW.trod enc P w base spare held n f.type ((cs.drop f.offset).take (P.cellsOf f.type)) = some y := by
 obtain ⟨xs, n, _, _, hl, hlen, hf⟩ := DataW.trod_struct ht h; refine ⟨n, hl, fun i f hi => ?_⟩; have hlt : i < xs.length := by
  rw [hlen]
  rcases Nat.lt_or_ge i fs.size with h | h
  ·exact h
  ·rw [Array.getElem?_eq_none h] at hi; cases hi
 exact ⟨xs[i], by rw [hf i f hi, List.getElem?_eq_getElem hlt]⟩
theorem el_int {t : TypeId} (ht : P.underlying t = some (.int .i64)) {n : Nat} {cs : List Value} {x : DataW H × List MemPlace} (h : DataW.trod enc P w base spare held n t cs = some x) : ∃ z, EInt z cs := by
 obtain ⟨z, rfl, -, hz⟩ := DataW.trod_int ht h; exact ⟨z, rfl, wide_d hz⟩
end
theorem two_d {l : List Value} {a b : Value} (hl : l.length = 2) (h0 : (l.drop 0).take 1 = [a]) (h1 : (l.drop 1).take 1 = [b]) : l = [a, b] := by
 match l, hl with
 | [x, y], _ => simp at h0 h1; simp [h0, h1]
section
variable {H : Type} {enc : TypeId × Value -> H} {w : World} {base : Nat} {spare : Nat -> Bool} {held : Bool} {n : Nat} {cs : List Value} {x : DataW H × List MemPlace}
theorem el_span (h : DataW.trod enc Tryz.prog w base spare held n 85 cs = some x) : ∃ z1 z2 : Int, cs = [.int .i64 z1, .int .i64 z2] /\ I64 z1 /\ I64 z2 := by
 obtain ⟨m, hl, hf⟩ := field_of Tryz.underlying85 h; obtain ⟨y0, h0⟩ := hf 0 _ rfl; obtain ⟨y1, h1⟩ := hf 1 _ rfl; obtain ⟨a, e0, q0⟩ := el_int Tryz.underlying3 h0; obtain ⟨b, e1, q1⟩ := el_int Tryz.underlying3 h1; exact ⟨a, b, two_d (hl.trans (by kernel_rfl)) (tk_d (by kernel_rfl) e0) (tk_d (by kernel_rfl) e1), q0, q1⟩
theorem spans_of {A : Option Addr} {len c : Nat} {d : DataW H} {p : List MemPlace} (h : DataW.Trod enc Tryz.prog w base spare held 42 (.slice A len c) d p) :
  ∃ l : List (Int × Int), EO (fun _ => False) w 2 (fun q e => e = [.int .i64 q.1, .int .i64 q.2] /\ I64 q.1 /\ I64 q.2) (.slice A len c) l := by
 obtain ⟨fuel, hf⟩ := h; obtain ⟨v, l, e, q⟩ := eo_of (E := fun (q : Int × Int) e => e = [.int .i64 q.1, .int .i64 q.2] /\ I64 q.1 /\ I64 q.2) Tryz.underlying42 (k := 2) (by kernel_rfl) (by decide) (fun n cs x _ h => by obtain ⟨a, b, e, q⟩ := el_span h; exact ⟨(a, b), e, q⟩) hf; have e2 : v = .slice A len c := by simpa [Value.cells] using e.symm
 exact ⟨l, e2 ▸ q⟩
end
end Go.Proofs.YtjimfbmegmnocaaGreatDoor
