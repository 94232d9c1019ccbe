/- Parts of the proof: Mem. No condition of its own. -/
import Derived.WalkKit
import Derived.WalkSpells
import Derived.WalkLawsBesides
import Derived.Lib.Hide
set_option linter.unusedSimpArgs false
set_option linter.unusedVariables false
set_option linter.unusedSectionVars false
namespace Go.Proofs.YtfenjklilocjgaaGreatDoor
set_option linter.unusedSimpArgs false
set_option linter.unusedVariables false
set_option linter.unusedSectionVars false
open Go.RowKit

/-- The cells of a slice at address A. -/
def Rd (w : World) (A : Option Addr) (xs : List Value) : Prop :=
  ∀ j u, xs[j]? = some u → ∃ b off, A = some ⟨b, off, none⟩ ∧ w.cell? ⟨b, off + j, none⟩ = some u

theorem Rd.nil (w : World) (A : Option Addr) : Rd w A [] := by intro j u h; simp at h

theorem Rd.of_cells {w : World} {b off : Nat} {xs : List Value} (h : ∀ j u, xs[j]? = some u → w.cell? ⟨b, off + j, none⟩ = some u) : Rd w (some ⟨b, off, none⟩) xs :=
  fun j u hu => ⟨b, off, rfl, h j u hu⟩

theorem Rd.get {w : World} {A : Option Addr} {xs : List Value} (h : Rd w A xs) {k : Nat} (hk : k < xs.length) :
    ∃ b off, A = some ⟨b, off, none⟩ ∧ w.cell? ⟨b, off + k, none⟩ = some xs[k] := h k _ (List.getElem?_eq_getElem hk)

theorem Rd.keep {w w' : World} {A : Option Addr} {xs : List Value} (h : Rd w A xs) (hk : ∀ p : Addr, p.block < w.heap.size → w'.cell? p = w.cell? p) : Rd w' A xs := by
  intro j u hu
  obtain ⟨b, off, e, hc⟩ := h j u hu
  exact ⟨b, off, e, (hk _ (World.block_lt_of_cell? w _ hc)).trans hc⟩

theorem Rd.below {w w' : World} {A : Option Addr} {xs : List Value} (h : Rd w A xs) (hb : Below w.heap.size w w') : Rd w' A xs :=
  h.keep fun _ hp => hb.cell hp

theorem Rd.take {w : World} {A : Option Addr} {xs : List Value} (h : Rd w A xs) (n : Nat) : Rd w A (xs.take n) := by
  intro j u hu
  rw [List.getElem?_take] at hu
  split at hu
  · exact h j u hu
  · cases hu

/-- A block known whole. -/
def Own (w : World) (g : Nat) (t : TypeId) (cs : List Value) : Prop := w.heap[g]? = some (.cells cs.toArray t (0, 0))

section
variable {w w' : World} {g : Nat} {t : TypeId} {cs : List Value}
theorem Own.lt (h : Own w g t cs) : g < w.heap.size := by
  rcases Nat.lt_or_ge g w.heap.size with hlt | hge
  · exact hlt
  · unfold Own at h; rw [Array.getElem?_eq_none hge] at h; cases h
theorem Own.cell (h : Own w g t cs) (i : Nat) : w.cell? ⟨g, i, none⟩ = cs[i]? := by
  rw [cell_of_row w g i cs.toArray t (0, 0) h]; simp
theorem Own.frozen (h : Own w g t cs) (i : Nat) : w.frozen? ⟨g, i, none⟩ = false := by
  unfold Own at h
  simp [World.frozen?, h]
theorem Own.new (w : World) (t : TypeId) (cs : List Value) : Own (w.alloc (.cells cs.toArray t)) w.heap.size t cs := heap_alloc_new w _
theorem Own.set_ (h : Own w g t cs) (i : Nat) (u : Value) : Own (w.setCell ⟨g, i, none⟩ u) g t (cs.set i u) := by
  unfold Own at h ⊢
  simp [World.setCell, Array.getElem?_modify, h]
theorem Own.far (h : Own w g t cs) {p : Addr} (hp : g ≠ p.block) (u : Value) : Own (w.setCell p u) g t cs := (Below.heap_setCell w p u g hp).trans h
theorem Own.alloc (h : Own w g t cs) (o : Obj) : Own (w.alloc o) g t cs := (Below.heap_alloc w o g h.lt).trans h
theorem Own.below {B : Nat} (h : Own w g t cs) (hb : Below B w w') (hg : g < B) : Own w' g t cs := (hb.block g hg).trans h
theorem Own.rd (h : Own w g t cs) (off : Nat) : Rd w (some ⟨g, off, none⟩) (cs.drop off) :=
  Rd.of_cells fun j u hu => by rw [h.cell]; simpa using hu
theorem Own.rd0 (h : Own w g t cs) : Rd w (some ⟨g, 0, none⟩) cs := by simpa using h.rd 0
end

/-- Integers as cells. -/
abbrev ci (l : List Int) : List Value := l.map (Value.int .i64)

/-- A slice of ints. -/
def Ints (w : World) (A : Option Addr) (l : List Int) : Prop := Rd w A (ci l)
theorem Ints.get {w : World} {A : Option Addr} {l : List Int} (h : Ints w A l) {k : Nat} (hk : k < l.length) :
    ∃ b off, A = some ⟨b, off, none⟩ ∧ w.cell? ⟨b, off + k, none⟩ = some (.int .i64 l[k]) := by
  obtain ⟨b, off, e, hc⟩ := Rd.get h (k := k) (by simpa using hk)
  exact ⟨b, off, e, by simpa using hc⟩
theorem Ints.below {w w' : World} {A : Option Addr} {l : List Int} (h : Ints w A l) (hb : Below w.heap.size w w') : Ints w' A l := Rd.below h hb

theorem Rd.of_own {w : World} {base : Nat} {e : TypeId} {size n : Nat} {A : Option Addr} {c : Nat} {xs : List Value} (h : w.ownsRow base e size (.slice A n c) n xs) : Rd w A xs := by
  intro j u hu
  rcases h.2 with ⟨hv, rfl⟩ | ⟨g, cap, cur, hv, _, hg, _, _, _, ht⟩
  · have := h.1
    have hx : xs = [] := List.eq_nil_of_length_eq_zero (by simpa using this)
    subst hx; simp at hu
  · injection hv with hA
    subst hA
    refine ⟨g, 0, rfl, ?_⟩
    have := h.cells (g := g) rfl j u hu
    simpa [Addr.add_lit] using this
theorem own_form {w : World} {base : Nat} {e : TypeId} {size n : Nat} {v : Value} {xs : List Value} (h : w.ownsRow base e size v n xs) : ∃ A c, v = .slice A n c ∧ n ≤ c ∧ c ≤ maxLen := by
  rcases h.2 with ⟨hv, rfl⟩ | ⟨g, cap, cur, hv, _, hg, h1, h2, _, ht⟩
  · exact ⟨none, 0, hv, Nat.le_refl _, by unfold maxLen; omega⟩
  · exact ⟨_, cap, hv, h1, h2⟩
/-- A slice value of n elements whose cells are xs. -/
def Sl (w : World) (v : Value) (n : Nat) (xs : List Value) : Prop := ∃ A c, v = .slice A n c ∧ n ≤ c ∧ c ≤ maxLen ∧ Rd w A xs
theorem Sl.of_own {w : World} {base : Nat} {e : TypeId} {size n : Nat} {v : Value} {xs : List Value} (h : w.ownsRow base e size v n xs) : Sl w v n xs := by
  obtain ⟨A, c, rfl, h1, h2⟩ := own_form h
  exact ⟨A, c, rfl, h1, h2, Rd.of_own h⟩
theorem Sl.below {w w' : World} {v : Value} {n : Nat} {xs : List Value} (h : Sl w v n xs) (hb : Below w.heap.size w w') : Sl w' v n xs := by
  obtain ⟨A, c, rfl, h1, h2, h3⟩ := h
  exact ⟨A, c, rfl, h1, h2, h3.below hb⟩
theorem Sl.nil (w : World) : Sl w (.slice none 0 0) 0 [] := ⟨none, 0, rfl, Nat.le_refl _, by unfold maxLen; omega, Rd.nil _ _⟩

/-- The cells of a block that has just been laid. -/
theorem new_cells (w : World) (t : TypeId) (xs : List Value) (k : Nat) (hk : w.heap.size = k) : ∀ j u, xs[j]? = some u → (w.alloc (.cells xs.toArray t)).cell? ((⟨k, 0, none⟩ : Addr).add j) = some u := by
  intro j u hu
  subst hk
  rw [Addr.add_lit, (Own.new w t xs).cell]
  simpa using hu
theorem own_lt {w : World} {base : Nat} {e : TypeId} {size n : Nat} {v : Value} {xs : List Value} (h : w.ownsRow base e size v n xs) : ∀ k, v.ownBlock = some k → base ≤ k := fun k hk => (h.lt k hk).1
theorem size2 (w : World) (o o' : Obj) : ((w.alloc o).alloc o').heap.size = w.heap.size + 2 := by simp
theorem size1 (w : World) (o : Obj) : (w.alloc o).heap.size = w.heap.size + 1 := by simp

/-- n zeros as cells. -/
def zeros (n : Nat) : List Value := ci (List.replicate n 0)
theorem zeros_length (n : Nat) : (zeros n).length = n := by simp [zeros]
theorem madeCells_one (v : Value) (n : Nat) : madeCells #[v] n = (List.replicate n v).toArray := by
  apply Array.ext
  · simp [madeCells]
  · intro i h1 h2
    simp [madeCells, Nat.mod_one]
theorem run_make_ints {P : Program} {t e : TypeId} (ht : P.underlying t = some (.slice e)) (hi : (P.info? e).map (fun i => (i.zero, i.size, i.bytes)) = some (some (.int .i64 0), 1, 8)) (n : Nat) (hn : n ≤ 1073741824) (w : World) :
    (Instr.makeSlice t (.int .i64 (n : Int)) (.int .i64 (n : Int))).run P w = .ok (.slice (some ⟨w.heap.size, 0, none⟩) n n) (w.alloc (.cells (zeros n).toArray e)) := by
  obtain ⟨i0, hi0, hz0, hz1, hz2⟩ := info_parts hi
  have hr := run_make (P := P) w t e i0 _ ht hi0 hz0 .i64 .i64 n n (by omega) (by omega) (by rw [hz2]; omega) (by omega)
  rw [hr, hz1]
  have : madeCells (Value.int .i64 0).cells n = (zeros n).toArray := by
    show madeCells #[Value.int .i64 0] n = _
    rw [madeCells_one]
    simp [zeros, ci]
  simp only [Int.toNat_natCast, Nat.mul_one, this]

/-- All blocks but those of S are as they were. -/
structure Chg (S : Nat → Prop) (w w' : World) : Prop where
  os : w'.os = w.os
  tape : w'.tape = w.tape
  output : w'.output = w.output
  size : w.heap.size ≤ w'.heap.size
  block : ∀ k, k < w.heap.size → ¬ S k → w'.heap[k]? = w.heap[k]?
section
variable {S T : Nat → Prop} {w w' w'' : World}
theorem Chg.refl (S : Nat → Prop) (w : World) : Chg S w w := ⟨rfl, rfl, rfl, Nat.le_refl _, fun _ _ _ => rfl⟩
theorem Chg.trans (h : Chg S w w') (h' : Chg S w' w'') : Chg S w w'' :=
  ⟨h'.os.trans h.os, h'.tape.trans h.tape, h'.output.trans h.output, Nat.le_trans h.size h'.size, fun k hk hs => (h'.block k (Nat.lt_of_lt_of_le hk h.size) hs).trans (h.block k hk hs)⟩
theorem Chg.mono (h : Chg S w w') (hs : ∀ k, k < w.heap.size → S k → T k) : Chg T w w' := ⟨h.os, h.tape, h.output, h.size, fun k hk ht => h.block k hk fun x => ht (hs k hk x)⟩
theorem Chg.setCell (h : Chg S w w') {p : Addr} (hp : S p.block) (u : Value) : Chg S w (w'.setCell p u) :=
  h.trans ⟨rfl, rfl, rfl, by simp [World.setCell], fun k _ hk => Below.heap_setCell _ _ _ _ (fun e => hk (e ▸ hp))⟩
theorem Chg.alloc (h : Chg S w w') (o : Obj) : Chg S w (w'.alloc o) :=
  h.trans ⟨rfl, rfl, rfl, by simp, fun k hk _ => Below.heap_alloc _ _ _ hk⟩
theorem Chg.drew (h : Chg S w w') : Chg S w w'.drew := ⟨h.os, h.tape, h.output, h.size, h.block⟩
theorem Chg.drewN (h : Chg S w w') (n : Nat) : Chg S w (w'.drewN n) := ⟨h.os, h.tape, h.output, h.size, h.block⟩
theorem Chg.of_below {B : Nat} (h : Below B w w') (hs : ∀ k, k < w.heap.size → B ≤ k → S k) : Chg S w w' :=
  ⟨h.os, h.tape, h.output, h.size, fun k hk hn => h.block k (Nat.lt_of_not_le fun hb => hn (hs k hk hb))⟩
theorem Chg.below {B : Nat} (h : Chg S w w') (hs : ∀ k, k < B → ¬ S k) (hB : B ≤ w.heap.size) : Below B w w' :=
  ⟨h.os, h.tape, h.output, h.size, fun k hk => h.block k (Nat.lt_of_lt_of_le hk hB) (hs k hk)⟩
theorem Chg.own {g : Nat} {t : TypeId} {cs : List Value} (h : Chg S w w') (ho : Own w g t cs) (hs : ¬ S g) : Own w' g t cs := (h.block g ho.lt hs).trans ho
theorem Chg.cell (h : Chg S w w') {p : Addr} {u : Value} (hc : w.cell? p = some u) (hs : ¬ S p.block) : w'.cell? p = some u :=
  (World.cell?_of_block (h.block p.block (World.block_lt_of_cell? w _ hc) hs)).trans hc
end
/-- A slice whose cells lie in no block of S. -/
def RdOut (S : Nat → Prop) (w : World) (A : Option Addr) (xs : List Value) : Prop :=
  ∀ j u, xs[j]? = some u → ∃ b off, A = some ⟨b, off, none⟩ ∧ ¬ S b ∧ w.cell? ⟨b, off + j, none⟩ = some u
theorem RdOut.rd {S : Nat → Prop} {w : World} {A : Option Addr} {xs : List Value} (h : RdOut S w A xs) : Rd w A xs := fun j u hu =>
  let ⟨b, off, e, _, hc⟩ := h j u hu; ⟨b, off, e, hc⟩
theorem RdOut.chg {S : Nat → Prop} {w w' : World} {A : Option Addr} {xs : List Value} (h : RdOut S w A xs) (hc : Chg S w w') : RdOut S w' A xs := fun j u hu =>
  let ⟨b, off, e, hs, hce⟩ := h j u hu; ⟨b, off, e, hs, hc.cell hce hs⟩
theorem Rd.out {S : Nat → Prop} {w : World} {A : Option Addr} {xs : List Value} (h : Rd w A xs) {B : Nat} (hl : ∀ p : Addr, A = some p → p.block < B) (hs : ∀ k, k < B → ¬ S k) : RdOut S w A xs := fun j u hu =>
  let ⟨b, off, e, hc⟩ := h j u hu; ⟨b, off, e, hs b (hl _ e), hc⟩

/-- A function changed at one place. -/
def upd {α : Type} (f : Nat → α) (p : Nat) (v : α) : Nat → α := fun i => if i = p then v else f i
theorem upd_same {α : Type} (f : Nat → α) (p : Nat) (v : α) : upd f p v p = v := if_pos rfl
theorem upd_ne {α : Type} (f : Nat → α) {p i : Nat} (v : α) (h : i ≠ p) : upd f p v i = f i := if_neg h
theorem own_blk_ne {w : World} {base g : Nat} {e t : TypeId} {size n : Nat} {v : Value} {xs cs : List Value} (h : w.ownsRow base e size v n xs) (hg : Own w g t cs) (hne : e ≠ t) : v.ownBlock ≠ some g := by
  rcases h.2 with ⟨rfl, _⟩ | ⟨g', cap, cur, rfl, _, hh, _⟩
  · simp [Value.ownBlock]
  · intro he
    have : g' = g := by simpa [Value.ownBlock] using he
    subst this
    unfold Own at hg
    rw [hh] at hg
    injection hg with hg
    injection hg with _ ht
    exact hne ht
theorem grownBy_setCell (w : World) (p : Addr) (u : Value) : w.grownBy (w.setCell p u) (some p.block) :=
  ⟨rfl, rfl, rfl, by simp [World.setCell], fun k _ hk => Below.heap_setCell _ _ _ _ (fun e => hk (by rw [e]))⟩
/-- m rows of numbers that the call itself made, no two in one block. -/
structure Fam (w : World) (B : Nat) (e : TypeId) (m : Nat) (R : Nat → Value) (ls : Nat → List Int) : Prop where
  own : ∀ p, p < m → w.ownsRow B e 1 (R p) (ls p).length (ci (ls p))
  sep : ∀ p q, p < m → q < m → p ≠ q → ∀ k, (R p).ownBlock = some k → (R q).ownBlock ≠ some k
section
variable {w w' : World} {B : Nat} {e : TypeId} {m : Nat} {R : Nat → Value} {ls : Nat → List Int}
theorem Fam.kept {row : Option Nat} (h : Fam w B e m R ls) (hg : w.grownBy w' row) (hn : ∀ p, p < m → (R p).ownBlock = none ∨ (R p).ownBlock ≠ row) : Fam w' B e m R ls :=
  ⟨fun p hp => (h.own p hp).kept hg (hn p hp), h.sep⟩
theorem Fam.alloc (h : Fam w B e m R ls) (o : Obj) : Fam (w.alloc o) B e m R ls := h.kept (World.grownBy_alloc w o none) (fun p _ => by cases (R p).ownBlock <;> simp)
theorem Fam.drew (h : Fam w B e m R ls) : Fam w.drew B e m R ls := ⟨fun p hp => (h.own p hp).drew, h.sep⟩
theorem Fam.store {g : Nat} {t : TypeId} {cs : List Value} (h : Fam w B e m R ls) (hg : Own w g t cs) (hne : e ≠ t) (off : Nat) (u : Value) : Fam (w.setCell ⟨g, off, none⟩ u) B e m R ls :=
  h.kept (grownBy_setCell w ⟨g, off, none⟩ u) (fun p hp => .inr (own_blk_ne (h.own p hp) hg hne))
theorem Fam.nil (w : World) (B : Nat) (e : TypeId) (m : Nat) : Fam w B e m (fun _ => .slice none 0 0) (fun _ => []) :=
  ⟨fun _ _ => World.ownsRow_nil w B e 1, fun p q _ _ _ k hk => by simp [Value.ownBlock] at hk⟩
/-- A row out of which is read while blocks of other types are written. -/
theorem own_out {size n : Nat} {v : Value} {xs : List Value} (h : w.ownsRow B e size v n xs) {S : Nat → Prop} (hs : ∀ k, v.ownBlock = some k → ¬ S k) : ∃ A c, v = .slice A n c ∧ n ≤ c ∧ c ≤ maxLen ∧ RdOut S w A xs := by
  obtain ⟨A, c, rfl, h1, h2⟩ := own_form h
  refine ⟨A, c, rfl, h1, h2, fun j u hu => ?_⟩
  obtain ⟨b, off, rfl, hc⟩ := Rd.of_own h j u hu
  exact ⟨b, off, rfl, hs b rfl, hc⟩
end

theorem below_cell {w w' : World} (hb : Below w.heap.size w w') {p : Addr} {u : Value} (h : w.cell? p = some u) : w'.cell? p = some u := (hb.cell (World.block_lt_of_cell? w _ h)).trans h

set_option linter.unusedSimpArgs false
set_option linter.unusedVariables false
set_option linter.unusedSectionVars false
open Go.RowKit

theorem new1 (w : World) (c1 : List Value) (t1 : TypeId) : Own (w.alloc (.cells c1.toArray t1)) w.heap.size t1 c1 ∧ Below w.heap.size w (w.alloc (.cells c1.toArray t1)) :=
  ⟨Own.new w _ _, (Below.refl _ _).alloc (Nat.le_refl _) _⟩
theorem new2 (w : World) (c1 c2 : List Value) (t1 t2 : TypeId) :
    Own ((w.alloc (.cells c1.toArray t1)).alloc (.cells c2.toArray t2)) w.heap.size t1 c1 ∧ Own ((w.alloc (.cells c1.toArray t1)).alloc (.cells c2.toArray t2)) (w.heap.size + 1) t2 c2 ∧
    Below w.heap.size w ((w.alloc (.cells c1.toArray t1)).alloc (.cells c2.toArray t2)) := by
  refine ⟨(new1 w c1 t1).1.alloc _, ?_, (new1 w c1 t1).2.alloc (by rw [size1]; omega) _⟩
  have := Own.new (w.alloc (.cells c1.toArray t1)) t2 c2
  rw [size1] at this
  exact this
theorem new3 (w : World) (c1 c2 c3 : List Value) (t1 t2 t3 : TypeId) :
    Own (((w.alloc (.cells c1.toArray t1)).alloc (.cells c2.toArray t2)).alloc (.cells c3.toArray t3)) w.heap.size t1 c1 ∧ Own (((w.alloc (.cells c1.toArray t1)).alloc (.cells c2.toArray t2)).alloc (.cells c3.toArray t3)) (w.heap.size + 1) t2 c2 ∧
    Own (((w.alloc (.cells c1.toArray t1)).alloc (.cells c2.toArray t2)).alloc (.cells c3.toArray t3)) (w.heap.size + 1 + 1) t3 c3 ∧
    Below w.heap.size w (((w.alloc (.cells c1.toArray t1)).alloc (.cells c2.toArray t2)).alloc (.cells c3.toArray t3)) := by
  obtain ⟨h1, h2, h3⟩ := new2 w c1 c2 t1 t2
  refine ⟨h1.alloc _, h2.alloc _, ?_, h3.alloc (by rw [size2]; omega) _⟩
  have := Own.new ((w.alloc (.cells c1.toArray t1)).alloc (.cells c2.toArray t2)) t3 c3
  rw [size2] at this
  exact this
theorem Own.set3 {w : World} {g : Nat} {t : TypeId} {a b c : Value} (h : Own w g t [a, b, c]) (x y z : Value) :
    Own (((w.setCell ⟨g, 0, none⟩ x).setCell ⟨g, 1, none⟩ y).setCell ⟨g, 2, none⟩ z) g t [x, y, z] := ((h.set_ 0 x).set_ 1 y).set_ 2 z
theorem Below.set3 {B : Nat} {w w' : World} (h : Below B w w') {g : Nat} (hg : B ≤ g) (x y z : Value) :
    Below B w (((w'.setCell ⟨g, 0, none⟩ x).setCell ⟨g, 1, none⟩ y).setCell ⟨g, 2, none⟩ z) := ((h.setCell hg x).setCell hg y).setCell hg z
theorem Chg.set3 {S : Nat → Prop} {w w' : World} (h : Chg S w w') {g : Nat} (hg : S g) (x y z : Value) :
    Chg S w (((w'.setCell ⟨g, 0, none⟩ x).setCell ⟨g, 1, none⟩ y).setCell ⟨g, 2, none⟩ z) := ((h.setCell (p := ⟨g, 0, none⟩) hg x).setCell (p := ⟨g, 1, none⟩) hg y).setCell (p := ⟨g, 2, none⟩) hg z
/-- A word that no cell of a block is. -/
theorem Rd.set_own {w : World} {A : Option Addr} {xs cs : List Value} {g : Nat} {t : TypeId} (h : Rd w A xs) (ho : Own w g t cs) (hne : ∀ c ∈ cs, c ∉ xs) (i : Nat) (u : Value) : Rd (w.setCell ⟨g, i, none⟩ u) A xs := by
  intro j x hx
  obtain ⟨b, off, e, hc⟩ := h j x hx
  refine ⟨b, off, e, ?_⟩
  have hb : b ≠ g := by
    intro e2
    subst e2
    rw [ho.cell] at hc
    exact hne x (List.mem_of_getElem? hc) (List.mem_of_getElem? hx)
  rw [World.cell?_setCell_other _ _ _ _ (by intro e2; injection e2 with e3; exact hb e3.symm)]
  exact hc
theorem Rd.set3 {w : World} {A : Option Addr} {xs : List Value} {g : Nat} {t : TypeId} {a b c : Value} (h : Rd w A xs) (ho : Own w g t [a, b, c]) (x y z : Value) (hne : ∀ v ∈ [a, b, c, x, y, z], v ∉ xs) :
    Rd (((w.setCell ⟨g, 0, none⟩ x).setCell ⟨g, 1, none⟩ y).setCell ⟨g, 2, none⟩ z) A xs := by
  refine ((h.set_own ho ?_ 0 x).set_own (ho.set_ 0 x) ?_ 1 y).set_own ((ho.set_ 0 x).set_ 1 y) ?_ 2 z
  · intro v hv; exact hne v (by simp at hv ⊢; rcases hv with h | h | h <;> simp [h])
  · intro v hv; exact hne v (by simp at hv ⊢; rcases hv with h | h | h <;> simp [h])
  · intro v hv; exact hne v (by simp at hv ⊢; rcases hv with h | h | h <;> simp [h])
end Go.Proofs.YtfenjklilocjgaaGreatDoor
