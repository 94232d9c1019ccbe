/- Parts of the proof: Ah, Ak. No condition of its own. -/
import Derived.Test.YtfenjklilocjgaaGreatDoorAg
import Derived.Defers
import Derived.Recover
import Derived.Tactics2
import Derived.Laws.Pointers
set_option linter.unusedSimpArgs false
set_option linter.unusedVariables false
set_option linter.unusedSectionVars false
namespace Go.Proofs.YtfenjklilocjgaaGreatDoor
set_option linter.unusedSimpArgs false
set_option linter.unusedVariables false
set_option linter.unusedSectionVars false
open Go.RowKit Dg

set_option maxRecDepth 100000 in
set_option maxHeartbeats 1000000 in
theorem pt_idle (a b c : Value) (w : World) :
    CallsD Tryz.prog 119 #[a, b, c] .returning w fun e u' w' => e = .returned (.tuple #[]) ∧ u' = .returning ∧ Below w.heap.size w w' := by
  have hta : ∀ (w : World), (Instr.typeAssert .nilIface 20 160 true).run Tryz.prog w = .ok (.tuple #[.agg #[.int .i64 0, .int .i64 0], .bool false]) w := fun w => by kernel_rfl
  refine callsD_of_wpS Tryz.func119 rfl fun c₀ cs hu => ?_
  apply wpS_seq
  apply wpS_region
  simp [wpOpsS, go_sem, recoverD, hu, Tryz.ntmps119, Exit.thenS, hta]
  apply wpS_seq
  apply wpS_region
  simp [wpOpsS, go_sem, Exit.thenS]
  refine wpS_cond (t := false) (by simp [Act.eval, Array.replicate]) ?_
  simp only [Bool.false_eq_true, if_false]
  refine wpS_of_wp (wp_skip ?_)
  cases c₀
  simp_all [bodyPostS, results, Tryz.results119]
  exact (Below.refl _ w).alloc (Nat.le_refl _) _
set_option maxRecDepth 100000 in
set_option maxHeartbeats 1000000 in
theorem parseTag_nil (s : ByteArray) (c : Bool) (nm : ByteArray) (ht : ∀ (g : Nat) (w : World), Sc9 w g s 0 → Calls Tryz.prog 120 #[.pointer (some ⟨g, 0, none⟩)] w fun e w' => e = .returned (.agg #[.bool c, .string nm, .slice none 0 0]) ∧ (∃ i, Sc9 w' g s i) ∧ Chg (fun k => k = g) w w') :
    RetV 74 #[.string s] (.tuple #[.agg #[.bool c, .string nm, .slice none 0 0], .int .i64 0, .int .i64 0]) := by
  intro w
  have HT := Lib.hid ht
  clear ht
  have hmf : ∀ (fn : Fn) (first cap : Array Value) (w : World), (Instr.makeFunc fn first cap).run Tryz.prog w = .ok (.func fn first cap) w := fun _ _ _ _ => rfl
  go_enter_defers Tryz.func74, Tryz.ntmps74
  go_wp2_with fail
  obtain ⟨o_t, o_a, o_e, o_s, hbw⟩ := new4 w [.bool false, .string ⟨#[]⟩, .slice none 0 0] [.int .i64 0] [.int .i64 0] [.string s, .int .i64 0] 126 3 34 163
  generalize ((((w.alloc (.cells #[.bool false, .string ⟨#[]⟩, .slice none 0 0] 126)).alloc (.cells #[.int .i64 0] 3)).alloc (.cells #[.int .i64 0] 34)).alloc (.cells #[.string s, .int .i64 0] 163)) = wb at o_t o_a o_e o_s hbw ⊢
  refine (HT.out _ _ o_s).mono ?_
  rintro e w1 ⟨rfl, -, hc⟩
  replace o_t := hc.own9 o_t (by omega)
  replace o_a := hc.own9 o_a (by omega)
  replace o_e := hc.own9 o_e (by omega)
  replace hbw : Below w.heap.size w w1 := hbw.trans (hc.below (B := w.heap.size) (fun k hk e => by omega) hbw.size)
  clear hc o_s
  have qt0 : w1.cell? ⟨w.heap.size, 0, none⟩ = some (.bool false) := o_t.cell 0
  have qt1 : w1.cell? ⟨w.heap.size, 1, none⟩ = some (.string ⟨#[]⟩) := o_t.cell 1
  have qt2 : w1.cell? ⟨w.heap.size, 2, none⟩ = some (.slice none 0 0) := o_t.cell 2
  have ft0 := o_t.frozen 0
  have ft1 := o_t.frozen 1
  have ft2 := o_t.frozen 2
  have o_z := o_t.set3 (.bool c) (.string nm) (.slice none 0 0)
  have e1 : w.heap.size + 1 ≠ w.heap.size := by omega
  have e2 : w.heap.size + 1 + 1 ≠ w.heap.size := by omega
  have e3 : w.heap.size + 1 + 1 ≠ w.heap.size + 1 := by omega
  have o_a1 := ((o_a.far (p := ⟨w.heap.size, 0, none⟩) e1 (.bool c)).far (p := ⟨w.heap.size, 1, none⟩) e1 (.string nm)).far (p := ⟨w.heap.size, 2, none⟩) e1 (.slice none 0 0)
  have o_e1 := ((o_e.far (p := ⟨w.heap.size, 0, none⟩) e2 (.bool c)).far (p := ⟨w.heap.size, 1, none⟩) e2 (.string nm)).far (p := ⟨w.heap.size, 2, none⟩) e2 (.slice none 0 0)
  have hb1 := Below.set3 hbw (g := w.heap.size) (Nat.le_refl _) (.bool c) (.string nm) (.slice none 0 0)
  obtain ⟨wz, hwz⟩ : ∃ wz, wz = (((w1.setCell ⟨w.heap.size, 0, none⟩ (.bool c)).setCell ⟨w.heap.size, 1, none⟩ (.string nm)).setCell ⟨w.heap.size, 2, none⟩ (.slice none 0 0)) := ⟨_, rfl⟩
  rw [← hwz] at o_z o_a1 o_e1 hb1
  have qa : wz.cell? ⟨w.heap.size + 1, 0, none⟩ = some (.int .i64 0) := o_a1.cell 0
  have fa := o_a1.frozen 0
  have o_z2 := o_z.far (p := ⟨w.heap.size + 1, 0, none⟩) (Ne.symm e1) (.int .i64 0)
  have o_a2 := o_a1.set_ 0 (.int .i64 0)
  have o_e2 := o_e1.far (p := ⟨w.heap.size + 1, 0, none⟩) e3 (.int .i64 0)
  have hb2 := hb1.setCell (p := ⟨w.heap.size + 1, 0, none⟩) (by show w.heap.size ≤ w.heap.size + 1; omega) (.int .i64 0)
  have qe : (wz.setCell ⟨w.heap.size + 1, 0, none⟩ (.int .i64 0)).cell? ⟨w.heap.size + 1 + 1, 0, none⟩ = some (.int .i64 0) := o_e2.cell 0
  have fe := o_e2.frozen 0
  rw [hwz] at qa fa qe fe
  go_wp2
  rw [← hwz]
  have o_z3 := o_z2.far (p := ⟨w.heap.size + 1 + 1, 0, none⟩) (Ne.symm e2) (.int .i64 0)
  have o_a3 := o_a2.far (p := ⟨w.heap.size + 1 + 1, 0, none⟩) (Ne.symm e3) (.int .i64 0)
  have o_e3 := o_e2.set_ 0 (.int .i64 0)
  have hb3 := hb2.setCell (p := ⟨w.heap.size + 1 + 1, 0, none⟩) (by show w.heap.size ≤ w.heap.size + 1 + 1; omega) (.int .i64 0)
  clear qt0 qt1 qt2 ft0 ft1 ft2 qa fa qe fe o_z o_z2 o_a o_a1 o_a2 o_e o_e1 o_e2 o_t hb1 hb2 hbw
  generalize ((wz.setCell ⟨w.heap.size + 1, 0, none⟩ (.int .i64 0)).setCell ⟨w.heap.size + 1 + 1, 0, none⟩ (.int .i64 0)) = wy at o_z3 o_a3 o_e3 hb3 ⊢
  clear hwz
  refine leaves_cons (f := 119) (args := #[.pointer (some ⟨w.heap.size, 0, none⟩), .pointer (some ⟨w.heap.size + 1, 0, none⟩), .pointer (some ⟨w.heap.size + 1 + 1, 0, none⟩)]) (by simp) (by simp [go_sem]) ?_
  refine (pt_idle _ _ _ _).mono ?_
  rintro e u' w9 ⟨rfl, rfl, hb9⟩
  replace o_z3 := o_z3.below hb9 o_z3.lt
  replace o_a3 := o_a3.below hb9 o_a3.lt
  replace o_e3 := o_e3.below hb9 o_e3.lt
  have hbf := below6 hb3 hb9
  have z0 : w9.cell? ⟨w.heap.size, 0, none⟩ = some (.bool c) := o_z3.cell 0
  have z1 : w9.cell? ⟨w.heap.size, 1, none⟩ = some (.string nm) := o_z3.cell 1
  have z2 : w9.cell? ⟨w.heap.size, 2, none⟩ = some (.slice none 0 0) := o_z3.cell 2
  have z3 : w9.cell? ⟨w.heap.size + 1, 0, none⟩ = some (.int .i64 0) := o_a3.cell 0
  have z4 : w9.cell? ⟨w.heap.size + 1 + 1, 0, none⟩ = some (.int .i64 0) := o_e3.cell 0
  simp [Leaves, settle, results, Tryz.results74, go_sem, z0, z1, z2, z3, z4]
  exact hbf
set_option maxRecDepth 100000 in
set_option maxHeartbeats 1000000 in
theorem parseTag_key (s : ByteArray) (c : Bool) (nm a b : ByteArray) (ht : ∀ (g : Nat) (w : World), Sc9 w g s 0 → Calls Tryz.prog 120 #[.pointer (some ⟨g, 0, none⟩)] w fun e w' => (∃ v, e = .returned (.agg #[.bool c, .string nm, v]) ∧ w'.ownsRow w.heap.size 105 2 v 1 [.string a, .string b]) ∧ (∃ i, Sc9 w' g s i) ∧ Chg (fun k => k = g) w w') :
    ∀ w, Calls Tryz.prog 74 #[.string s] w fun e w' => ∃ v, e = .returned (.tuple #[.agg #[.bool c, .string nm, v], .int .i64 0, .int .i64 0]) ∧ w'.ownsRow w.heap.size 105 2 v 1 [.string a, .string b] ∧ Below w.heap.size w w' := by
  intro w
  have HT := Lib.hid ht
  clear ht
  have hmf : ∀ (fn : Fn) (first cap : Array Value) (w : World), (Instr.makeFunc fn first cap).run Tryz.prog w = .ok (.func fn first cap) w := fun _ _ _ _ => rfl
  go_enter_defers Tryz.func74, Tryz.ntmps74
  go_wp2_with fail
  obtain ⟨o_t, o_a, o_e, o_s, hbw⟩ := new4 w [.bool false, .string ⟨#[]⟩, .slice none 0 0] [.int .i64 0] [.int .i64 0] [.string s, .int .i64 0] 126 3 34 163
  generalize ((((w.alloc (.cells #[.bool false, .string ⟨#[]⟩, .slice none 0 0] 126)).alloc (.cells #[.int .i64 0] 3)).alloc (.cells #[.int .i64 0] 34)).alloc (.cells #[.string s, .int .i64 0] 163)) = wb at o_t o_a o_e o_s hbw ⊢
  refine (HT.out _ _ o_s).mono ?_
  rintro e w1 ⟨⟨v, rfl, hrow⟩, -, hc⟩
  obtain ⟨gk, ck, rfl, hgk, -⟩ := hrow.form (by decide)
  have hgw := o_s.lt
  replace hrow := ownsRow_weak hrow (show w.heap.size ≤ _ by have := hbw.size; omega)
  replace o_t := hc.own9 o_t (by omega)
  replace o_a := hc.own9 o_a (by omega)
  replace o_e := hc.own9 o_e (by omega)
  replace hbw : Below w.heap.size w w1 := hbw.trans (hc.below (B := w.heap.size) (fun k hk e => by omega) hbw.size)
  clear hc o_s
  have qt0 : w1.cell? ⟨w.heap.size, 0, none⟩ = some (.bool false) := o_t.cell 0
  have qt1 : w1.cell? ⟨w.heap.size, 1, none⟩ = some (.string ⟨#[]⟩) := o_t.cell 1
  have qt2 : w1.cell? ⟨w.heap.size, 2, none⟩ = some (.slice none 0 0) := o_t.cell 2
  have ft0 := o_t.frozen 0
  have ft1 := o_t.frozen 1
  have ft2 := o_t.frozen 2
  have o_z := o_t.set3 (.bool c) (.string nm) (.slice (some ⟨gk, 0, none⟩) 1 ck)
  have n0 : (Value.slice (some ⟨gk, 0, none⟩) 1 ck).ownBlock ≠ some w.heap.size := by intro x; injection x with x; have x2 : gk = w.heap.size := x; omega
  have n1 : (Value.slice (some ⟨gk, 0, none⟩) 1 ck).ownBlock ≠ some (w.heap.size + 1) := by intro x; injection x with x; have x2 : gk = w.heap.size + 1 := x; omega
  have n2 : (Value.slice (some ⟨gk, 0, none⟩) 1 ck).ownBlock ≠ some (w.heap.size + 1 + 1) := by intro x; injection x with x; have x2 : gk = w.heap.size + 1 + 1 := x; omega
  replace hrow := ownsRow_setCell_other (a := ⟨w.heap.size, 2, none⟩) (ownsRow_setCell_other (a := ⟨w.heap.size, 1, none⟩) (ownsRow_setCell_other (a := ⟨w.heap.size, 0, none⟩) hrow n0 (.bool c)) n0 (.string nm)) n0 (.slice (some ⟨gk, 0, none⟩) 1 ck)
  have e1 : w.heap.size + 1 ≠ w.heap.size := by omega
  have e2 : w.heap.size + 1 + 1 ≠ w.heap.size := by omega
  have e3 : w.heap.size + 1 + 1 ≠ w.heap.size + 1 := by omega
  have o_a1 := ((o_a.far (p := ⟨w.heap.size, 0, none⟩) e1 (.bool c)).far (p := ⟨w.heap.size, 1, none⟩) e1 (.string nm)).far (p := ⟨w.heap.size, 2, none⟩) e1 (.slice (some ⟨gk, 0, none⟩) 1 ck)
  have o_e1 := ((o_e.far (p := ⟨w.heap.size, 0, none⟩) e2 (.bool c)).far (p := ⟨w.heap.size, 1, none⟩) e2 (.string nm)).far (p := ⟨w.heap.size, 2, none⟩) e2 (.slice (some ⟨gk, 0, none⟩) 1 ck)
  have hb1 := Below.set3 hbw (g := w.heap.size) (Nat.le_refl _) (.bool c) (.string nm) (.slice (some ⟨gk, 0, none⟩) 1 ck)
  obtain ⟨wz, hwz⟩ : ∃ wz, wz = (((w1.setCell ⟨w.heap.size, 0, none⟩ (.bool c)).setCell ⟨w.heap.size, 1, none⟩ (.string nm)).setCell ⟨w.heap.size, 2, none⟩ (.slice (some ⟨gk, 0, none⟩) 1 ck)) := ⟨_, rfl⟩
  rw [← hwz] at o_z o_a1 o_e1 hb1 hrow
  have qa : wz.cell? ⟨w.heap.size + 1, 0, none⟩ = some (.int .i64 0) := o_a1.cell 0
  have fa := o_a1.frozen 0
  have o_z2 := o_z.far (p := ⟨w.heap.size + 1, 0, none⟩) (Ne.symm e1) (.int .i64 0)
  have o_a2 := o_a1.set_ 0 (.int .i64 0)
  have o_e2 := o_e1.far (p := ⟨w.heap.size + 1, 0, none⟩) e3 (.int .i64 0)
  have hb2 := hb1.setCell (p := ⟨w.heap.size + 1, 0, none⟩) (by show w.heap.size ≤ w.heap.size + 1; omega) (.int .i64 0)
  have qe : (wz.setCell ⟨w.heap.size + 1, 0, none⟩ (.int .i64 0)).cell? ⟨w.heap.size + 1 + 1, 0, none⟩ = some (.int .i64 0) := o_e2.cell 0
  have fe := o_e2.frozen 0
  rw [hwz] at qa fa qe fe
  go_wp2
  rw [← hwz]
  have o_z3 := o_z2.far (p := ⟨w.heap.size + 1 + 1, 0, none⟩) (Ne.symm e2) (.int .i64 0)
  have o_a3 := o_a2.far (p := ⟨w.heap.size + 1 + 1, 0, none⟩) (Ne.symm e3) (.int .i64 0)
  have o_e3 := o_e2.set_ 0 (.int .i64 0)
  have hb3 := hb2.setCell (p := ⟨w.heap.size + 1 + 1, 0, none⟩) (by show w.heap.size ≤ w.heap.size + 1 + 1; omega) (.int .i64 0)
  replace hrow := ownsRow_setCell_other (a := ⟨w.heap.size + 1 + 1, 0, none⟩) (ownsRow_setCell_other (a := ⟨w.heap.size + 1, 0, none⟩) hrow n1 (.int .i64 0)) n2 (.int .i64 0)
  clear qt0 qt1 qt2 ft0 ft1 ft2 qa fa qe fe o_z o_z2 o_a o_a1 o_a2 o_e o_e1 o_e2 o_t hb1 hb2 hbw
  generalize ((wz.setCell ⟨w.heap.size + 1, 0, none⟩ (.int .i64 0)).setCell ⟨w.heap.size + 1 + 1, 0, none⟩ (.int .i64 0)) = wy at o_z3 o_a3 o_e3 hb3 hrow ⊢
  clear hwz
  refine leaves_cons (f := 119) (args := #[.pointer (some ⟨w.heap.size, 0, none⟩), .pointer (some ⟨w.heap.size + 1, 0, none⟩), .pointer (some ⟨w.heap.size + 1 + 1, 0, none⟩)]) (by simp) (by simp [go_sem]) ?_
  refine (pt_idle _ _ _ _).mono ?_
  rintro e u' w9 ⟨rfl, rfl, hb9⟩
  replace o_z3 := o_z3.below hb9 o_z3.lt
  replace o_a3 := o_a3.below hb9 o_a3.lt
  replace o_e3 := o_e3.below hb9 o_e3.lt
  replace hrow := own_below1 hrow hb9
  have hbf := below6 hb3 hb9
  have z0 : w9.cell? ⟨w.heap.size, 0, none⟩ = some (.bool c) := o_z3.cell 0
  have z1 : w9.cell? ⟨w.heap.size, 1, none⟩ = some (.string nm) := o_z3.cell 1
  have z2 : w9.cell? ⟨w.heap.size, 2, none⟩ = some (.slice (some ⟨gk, 0, none⟩) 1 ck) := o_z3.cell 2
  have z3 : w9.cell? ⟨w.heap.size + 1, 0, none⟩ = some (.int .i64 0) := o_a3.cell 0
  have z4 : w9.cell? ⟨w.heap.size + 1 + 1, 0, none⟩ = some (.int .i64 0) := o_e3.cell 0
  simp [Leaves, settle, results, Tryz.results74, go_sem, z0, z1, z2, z3, z4]
  first | exact ⟨hrow, hbf⟩ | exact hbf
set_option linter.unusedSimpArgs false
set_option linter.unusedVariables false
set_option linter.unusedSectionVars false
open Go.RowKit Dg

/-- Blocks below a bound stand, but for two. -/
structure Fr (w0 : World) (g : Nat) (row : Option Nat) (w : World) : Prop where
  os : w.os = w0.os
  tape : w.tape = w0.tape
  output : w.output = w0.output
  size : w0.heap.size ≤ w.heap.size
  block : ∀ k, k < w0.heap.size → k ≠ g → row ≠ some k → w.heap[k]? = w0.heap[k]?
theorem Fr.refl (w0 : World) (g : Nat) (row : Option Nat) : Fr w0 g row w0 := ⟨rfl, rfl, rfl, Nat.le_refl _, fun _ _ _ _ => rfl⟩
theorem Fr.drew {w0 w : World} {g : Nat} {row : Option Nat} (h : Fr w0 g row w) : Fr w0 g row w.drew := ⟨h.os, h.tape, h.output, h.size, h.block⟩
theorem Fr.below {w0 w w' : World} {g : Nat} {row : Option Nat} (h : Fr w0 g row w) (hb : Below w.heap.size w w') : Fr w0 g row w' :=
  ⟨hb.os.trans h.os, hb.tape.trans h.tape, hb.output.trans h.output, Nat.le_trans h.size hb.size, fun k h1 h2 h3 => (hb.block k (Nat.lt_of_lt_of_le h1 h.size)).trans (h.block k h1 h2 h3)⟩
theorem Fr.grown {w0 w w' : World} {g : Nat} {row : Option Nat} (h : Fr w0 g row w) (hg : w.grownBy w' row) : Fr w0 g row w' :=
  ⟨hg.os.trans h.os, hg.tape.trans h.tape, hg.output.trans h.output, Nat.le_trans h.size hg.size, fun k h1 h2 h3 => (hg.block k (Nat.lt_of_lt_of_le h1 h.size) (fun e => h3 e.symm)).trans (h.block k h1 h2 h3)⟩
theorem Fr.set {w0 w : World} {g : Nat} {row : Option Nat} (h : Fr w0 g row w) (i : Nat) (v : Value) : Fr w0 g row (w.setCell ⟨g, i, none⟩ v) :=
  ⟨h.os, h.tape, h.output, by have := h.size; simpa [World.setCell] using this, fun k h1 h2 h3 => (Below.heap_setCell _ _ _ _ h2).trans (h.block k h1 h2 h3)⟩
theorem Fr.own {w0 w : World} {g : Nat} {row : Option Nat} (h : Fr w0 g row w) {b : Nat} {T : TypeId} {cs : List Value} (ho : Own w0 b T cs) (h1 : b ≠ g) (h2 : row ≠ some b) : Own w b T cs := (h.block b ho.lt h1 h2).trans ho
theorem Fr.owns {w0 w : World} {g : Nat} {row : Option Nat} (h : Fr w0 g row w) {base size n : Nat} {e : TypeId} {v : Value} {xs : List Value} (ho : w0.ownsRow base e size v n xs) (h1 : v.ownBlock ≠ some g) (h2 : row = none ∨ row ≠ v.ownBlock) : w.ownsRow base e size v n xs := by
  have hl := ho.lt
  obtain ⟨a1, a2⟩ := ho
  refine ⟨a1, ?_⟩
  rcases a2 with a2 | ⟨b, cap, cur, rfl, b2, b3, b4⟩
  · exact .inl a2
  · refine .inr ⟨b, cap, cur, rfl, b2, ?_, b4⟩
    rw [h.block b (hl b rfl).2 (fun e => h1 (by rw [← e]; rfl)) (fun e => by rcases h2 with h2 | h2; rw [h2] at e; cases e; exact h2 e)]
    exact b3
theorem Fr.bel {w0 w : World} {g B : Nat} {row : Option Nat} (h : Fr w0 g row w) (hg : B ≤ g) (hr : ∀ k, row = some k → B ≤ k) (hB : B ≤ w0.heap.size) : Below B w0 w :=
  ⟨h.os, h.tape, h.output, h.size, fun k hk => h.block k (by omega) (by omega) (fun e => by have := hr k e; omega)⟩
/-- A field of a variable is appended to: what has been done so far. -/
structure GM (w0 : World) (g : Nat) (T : TypeId) (pre : List Value) (f : Nat) (fv : Value) (B : Nat) (e : TypeId) (size n : Nat) (xs news : List Value) (l1 l2 l3 l4 : Bool) (vb va : Value) (w : World) : Prop where
  h32 : l3 = true → l2 = true
  h31 : l3 = true → l1 = true
  h43 : l4 = true → l3 = true
  own : Own w g T (if l4 then pre.set f va else pre)
  fr : Fr w0 g fv.ownBlock w
  bu : l2 = true → ∃ gb, vb = .slice (some ⟨gb, 0, none⟩) 1 1 ∧ w0.heap.size ≤ gb ∧ Own w gb e news
  no : l3 = false → w.ownsRow B e size fv n xs
  yes : l3 = true → w.ownsRow B e size va (n + 1) (xs ++ news) ∧ (va.ownBlock = fv.ownBlock ∨ ∃ k, va.ownBlock = some k ∧ w0.heap.size ≤ k)
section
variable {w0 w : World} {g : Nat} {T : TypeId} {pre : List Value} {f : Nat} {fv : Value} {B : Nat} {e : TypeId} {size n : Nat} {xs news : List Value} {l1 l2 l3 l4 : Bool} {vb va : Value}
theorem GM.start (ho : Own w0 g T pre) (hr : w0.ownsRow B e size fv n xs) : GM w0 g T pre f fv B e size n xs news false false false false vb va w0.drew :=
  ⟨fun h => h, fun h => (by cases h), fun h => h, ho, (Fr.refl _ _ _).drew, fun h => (by cases h), fun _ => hr, fun h => (by cases h)⟩
theorem GM.n1 (h : GM w0 g T pre f fv B e size n xs news l1 l2 l3 l4 vb va w) (h1 : l1 = false) : l4 = false := by
  have a := h.h31; have b := h.h43
  cases l4 <;> cases l3 <;> simp_all
theorem GM.cell (h : GM w0 g T pre f fv B e size n xs news l1 l2 l3 l4 vb va w) (i : Nat) (hi : i ≠ f) : w.cell? ⟨g, i, none⟩ = pre[i]? := by
  rw [h.own.cell]
  split
  · rw [List.getElem?_set_ne (Ne.symm hi)]
  · rfl
theorem GM.cellf (h : GM w0 g T pre f fv B e size n xs news l1 l2 l3 l4 vb va w) (h1 : l1 = false) : w.cell? ⟨g, f, none⟩ = pre[f]? := by
  have h4 := h.n1 h1
  rw [h.own.cell, h4]
  rfl
theorem GM.s1 (h : GM w0 g T pre f fv B e size n xs news l1 l2 l3 l4 vb va w) : GM w0 g T pre f fv B e size n xs news true l2 l3 l4 vb va w := { h with h31 := fun _ => rfl }
theorem GM.s2 (h : GM w0 g T pre f fv B e size n xs news l1 l2 l3 l4 vb va w) (h2 : l2 = false) : GM w0 g T pre f fv B e size n xs news l1 true l3 l4 (.slice (some ⟨w.heap.size, 0, none⟩) 1 1) va (w.alloc (.cells news.toArray e)) := by
  have e3 : l3 = false := by have := h.h32; cases l3 <;> simp_all
  have e4 : l4 = false := by have := h.h43; cases l4 <;> simp_all
  subst e3 e4
  exact ⟨fun x => (by cases x), fun x => (by cases x), fun x => (by cases x), h.own.alloc _, h.fr.below ((Below.refl _ w).alloc (Nat.le_refl _) _), fun _ => ⟨_, rfl, h.fr.size, Own.new w e news⟩, fun _ => (h.no rfl).alloc _, fun x => (by cases x)⟩
theorem GM.s3 (h : GM w0 g T pre f fv B e size n xs news l1 l2 l3 l4 vb va w) (h3 : l3 = false) (h2 : l2 = true) (h1 : l1 = true) (hgr : fv.ownBlock ≠ some g) {v' : Value} {w' : World} (hlt : ∀ k, fv.ownBlock = some k → k < w0.heap.size) (hown : w'.ownsRow B e size v' (n + 1) (xs ++ news)) (hg : w.grownBy w' fv.ownBlock)
    (hat : v'.ownBlock = fv.ownBlock ∨ v'.ownBlock = some w.heap.size) : GM w0 g T pre f fv B e size n xs news l1 l2 true l4 vb v' w' := by
  have e4 : l4 = false := by have := h.h43; cases l4 <;> simp_all
  subst e4
  refine ⟨fun _ => h2, fun _ => h1, fun x => (by cases x), (hg.block _ h.own.lt (fun x => hgr x.symm)).trans h.own, h.fr.grown hg, fun _ => ?_, fun x => (by cases x), fun _ => ⟨hown, ?_⟩⟩
  · obtain ⟨gb, e1, e2, e3⟩ := h.bu h2
    exact ⟨gb, e1, e2, (hg.block _ e3.lt (fun x => by have := hlt gb x.symm; omega)).trans e3⟩
  · rcases hat with x | x
    · exact .inl x
    · exact .inr ⟨_, x, h.fr.size⟩
theorem GM.s4 (h : GM w0 g T pre f fv B e size n xs news l1 l2 l3 l4 vb va w) (h4 : l4 = false) (h3 : l3 = true) (hgr : fv.ownBlock ≠ some g) (hg0 : g < w0.heap.size) : GM w0 g T pre f fv B e size n xs news l1 l2 l3 true vb va (w.setCell ⟨g, f, none⟩ va) := by
  subst h4
  obtain ⟨r1, r2⟩ := h.yes h3
  have hva : va.ownBlock ≠ some g := by
    rcases r2 with x | ⟨k, x, hk⟩
    · rw [x]; exact hgr
    · rw [x]; intro y; injection y with y; omega
  refine ⟨h.h32, h.h31, fun _ => h3, h.own.set_ f va, h.fr.set f va, fun x => ?_, fun x => (by rw [h3] at x; cases x), fun _ => ⟨ownsRow_setCell_other r1 hva va, r2⟩⟩
  obtain ⟨gb, e1, e2, e3⟩ := h.bu x
  exact ⟨gb, e1, e2, e3.far (p := ⟨g, f, none⟩) (by show gb ≠ g; omega) va⟩
end
end Go.Proofs.YtfenjklilocjgaaGreatDoor
