/- Parts of the proof: Co. No condition of its own. -/
import Derived.Test.YtfenjklilocjgaaGreatDoorMem
set_option linter.unusedSimpArgs false
set_option linter.unusedVariables false
set_option linter.unusedSectionVars false
namespace Go.Proofs.YtfenjklilocjgaaGreatDoor
set_option linter.unusedSimpArgs false
set_option linter.unusedVariables false
set_option linter.unusedSectionVars false
open Go.RowKit

/-- A slice of n elements whose cells are xs, none of them in a block of S. -/
def SO (S : Nat → Prop) (w : World) (v : Value) (n : Nat) (xs : List Value) : Prop := ∃ A c, v = .slice A n c ∧ n ≤ c ∧ c ≤ maxLen ∧ RdOut S w A xs
theorem RdOut.nil (S : Nat → Prop) (w : World) (A : Option Addr) : RdOut S w A [] := by intro j u h; simp at h
theorem SO.nil (S : Nat → Prop) (w : World) : SO S w (.slice none 0 0) 0 [] := ⟨none, 0, rfl, Nat.le_refl _, by unfold maxLen; omega, RdOut.nil _ _ _⟩
theorem SO.chg {S : Nat → Prop} {w w' : World} {v : Value} {n : Nat} {xs : List Value} (h : SO S w v n xs) (hc : Chg S w w') : SO S w' v n xs := by
  obtain ⟨A, c, rfl, h1, h2, h3⟩ := h
  exact ⟨A, c, rfl, h1, h2, h3.chg hc⟩
theorem Chg.grow9 {S : Nat → Prop} {w w' : World} (hb : Below w.heap.size w w') : Chg S w w' := Chg.of_below hb fun k h1 h2 => by omega
theorem SO.below {S : Nat → Prop} {w w' : World} {v : Value} {n : Nat} {xs : List Value} (h : SO S w v n xs) (hb : Below w.heap.size w w') : SO S w' v n xs := h.chg (Chg.grow9 hb)
theorem SO.of_own {S : Nat → Prop} {w : World} {base : Nat} {e : TypeId} {size n : Nat} {v : Value} {xs : List Value} (h : w.ownsRow base e size v n xs) (hs : ∀ k, base ≤ k → ¬ S k) : SO S w v n xs := by
  obtain ⟨A, c, rfl, h1, h2, h3⟩ := own_out h (S := S) fun k hk => hs k (own_lt h k hk)
  exact ⟨A, c, rfl, h1, h2, h3⟩

/-- What a cell list at a place holds: k cells an element. -/
theorem flat_get {k : Nat} : ∀ {es : List (List Value)} (_ : ∀ e ∈ es, e.length = k) (i : Nat) (e : List Value) (j : Nat) (u : Value), es[i]? = some e → e[j]? = some u → es.flatten[i * k + j]? = some u := by
  intro es
  induction es with
  | nil => intro _ i e j u h; simp at h
  | cons x r ih =>
    intro hk i e j u h hj
    have hx := hk x (by simp)
    cases i with
    | zero =>
      have h : x = e := by simpa using h
      subst h
      have hlt : j < x.length := by
        rcases Nat.lt_or_ge j x.length with hl | hl
        · exact hl
        · rw [List.getElem?_eq_none hl] at hj; cases hj
      rw [List.flatten_cons, Nat.zero_mul, Nat.zero_add, List.getElem?_append_left hlt]
      exact hj
    | succ i =>
      have := ih (fun e he => hk e (by simp [he])) i e j u (by simpa using h) hj
      rw [List.flatten_cons, List.getElem?_append_right (by rw [hx, Nat.add_mul]; omega), hx]
      have e9 : (i + 1) * k + j - k = i * k + j := by rw [Nat.add_mul]; omega
      rw [e9]; exact this
theorem flat_length {k : Nat} : ∀ {es : List (List Value)} (_ : ∀ e ∈ es, e.length = k), es.flatten.length = es.length * k := by
  intro es
  induction es with
  | nil => intro _; simp
  | cons x r ih =>
    intro hk
    rw [List.flatten_cons, List.length_append, ih fun e he => hk e (by simp [he]), hk x (by simp), List.length_cons, Nat.add_mul]
    omega

section
variable {α : Type}
/-- The cells es hold the elements l, k cells each. -/
structure Els (k : Nat) (E : α → List Value → Prop) (es : List (List Value)) (l : List α) : Prop where
  len : es.length = l.length
  wide : ∀ e ∈ es, e.length = k
  each : ∀ (i : Nat) e x, es[i]? = some e → l[i]? = some x → E x e
/-- A slice of the elements l, k cells each. -/
def EO (S : Nat → Prop) (w : World) (k : Nat) (E : α → List Value → Prop) (v : Value) (l : List α) : Prop := ∃ es, Els k E es l ∧ SO S w v l.length es.flatten
variable {S T : Nat → Prop} {w w' : World} {k : Nat} {E F : α → List Value → Prop} {v : Value} {l : List α} {es : List (List Value)}
theorem Els.nil (k : Nat) (E : α → List Value → Prop) : Els k E [] [] := ⟨rfl, by simp, fun i e x h => by simp at h⟩
theorem Els.mono (h : Els k E es l) (hE : ∀ x e, x ∈ l → E x e → F x e) : Els k F es l := ⟨h.len, h.wide, fun i e x h1 h2 => hE x e (List.mem_of_getElem? h2) (h.each i e x h1 h2)⟩
theorem Els.one {x : α} {e : List Value} (hk : e.length = k) (h : E x e) : Els k E [e] [x] := by
  refine ⟨rfl, by simpa using hk, fun i e' x' h1 h2 => ?_⟩
  cases i with
  | zero => simp at h1 h2; subst h1 h2; exact h
  | succ i => simp at h1
theorem Els.take (h : Els k E es l) (n : Nat) : Els k E (es.take n) (l.take n) := by
  refine ⟨by simp [h.len], fun e he => h.wide e (List.mem_of_mem_take he), fun i e x h1 h2 => ?_⟩
  rw [List.getElem?_take] at h1 h2
  split at h1
  · rename_i hi
    rw [if_pos hi] at h2
    exact h.each i e x h1 h2
  · cases h1
theorem Els.get (h : Els k E es l) {i : Nat} (hi : i < l.length) : ∃ e, es[i]? = some e ∧ e.length = k ∧ E l[i] e := by
  have h1 : i < es.length := by rw [h.len]; exact hi
  exact ⟨es[i], List.getElem?_eq_getElem h1, h.wide _ (List.getElem_mem h1), h.each i _ _ (List.getElem?_eq_getElem h1) (List.getElem?_eq_getElem hi)⟩
theorem EO.nil (S : Nat → Prop) (w : World) (k : Nat) (E : α → List Value → Prop) : EO S w k E (.slice none 0 0) [] := ⟨[], Els.nil k E, SO.nil S w⟩
theorem EO.mono (h : EO S w k E v l) (hE : ∀ x e, x ∈ l → E x e → F x e) : EO S w k F v l := by
  obtain ⟨es, h1, h2⟩ := h
  exact ⟨es, h1.mono hE, h2⟩
theorem EO.chg' (h : EO S w k E v l) (hc : Chg S w w') : EO S w' k E v l := by
  obtain ⟨es, h1, h2⟩ := h
  exact ⟨es, h1, h2.chg hc⟩
theorem EO.chg (h : EO S w k E v l) (hc : Chg S w w') (hE : ∀ x e, x ∈ l → E x e → F x e) : EO S w' k F v l := (h.chg' hc).mono hE
theorem EO.below (h : EO S w k E v l) (hb : Below w.heap.size w w') : EO S w' k E v l := EO.chg' h (Chg.grow9 hb)
/-- The slice's shape. -/
theorem EO.form (h : EO S w k E v l) : ∃ A c, v = .slice A l.length c ∧ l.length ≤ c ∧ c ≤ maxLen ∧ EO S w k E (.slice A l.length c) l := by
  obtain ⟨es, h1, A, c, rfl, h2, h3, h4⟩ := h
  exact ⟨A, c, rfl, h2, h3, es, h1, A, c, rfl, h2, h3, h4⟩
/-- An element's cells. -/
theorem EO.get {A : Option Addr} {n c : Nat} (h : EO S w k E (.slice A n c) l) (hk : 0 < k) {i : Nat} (hi : i < l.length) :
    ∃ b off e, A = some ⟨b, off, none⟩ ∧ ¬ S b ∧ e.length = k ∧ E l[i] e ∧ ∀ j u, e[j]? = some u → w.cell? ⟨b, off + i * k + j, none⟩ = some u := by
  obtain ⟨es, h1, A', c', he, h2, h3, h4⟩ := h
  injection he with e1 e2 e3
  subst e1 e2 e3
  obtain ⟨e, g1, g2, g3⟩ := h1.get hi
  obtain ⟨u0, hu0⟩ : ∃ u, e[0]? = some u := ⟨_, List.getElem?_eq_getElem (by omega)⟩
  obtain ⟨b, off, rfl, hn, -⟩ := h4 _ u0 (flat_get h1.wide i e 0 u0 g1 hu0)
  refine ⟨b, off, e, rfl, hn, g2, g3, fun j u hu => ?_⟩
  obtain ⟨b', off', ee, -, hc⟩ := h4 _ u (flat_get h1.wide i e j u g1 hu)
  injection ee with ee
  injection ee with ee1 ee2
  subst ee1 ee2
  rw [Nat.add_assoc]
  exact hc
theorem EO.len {A : Option Addr} {n c : Nat} (h : EO S w k E (.slice A n c) l) : n = l.length ∧ n ≤ c ∧ c ≤ maxLen := by
  obtain ⟨es, h1, A', c', he, h2, h3, h4⟩ := h
  injection he with e1 e2 e3
  subst e1 e2 e3
  exact ⟨rfl, h2, h3⟩
end

/-- A machine's int. -/
def I64 (x : Int) : Prop := -9223372036854775808 ≤ x ∧ x ≤ 9223372036854775807
/-- Elements: a string, an int, a pair of strings. -/
def EStr (s : ByteArray) (e : List Value) : Prop := e = [.string s] ∧ s.size ≤ maxLen
def EInt (x : Int) (e : List Value) : Prop := e = [.int .i64 x] ∧ I64 x
def EPair (p : ByteArray × ByteArray) (e : List Value) : Prop := e = [.string p.1, .string p.2] ∧ p.1.size ≤ maxLen ∧ p.2.size ≤ maxLen
def EAttr (p : ByteArray × Bool) (e : List Value) : Prop := e = [.string p.1, .bool p.2] ∧ p.1.size ≤ maxLen
def ENode (p : ByteArray × Int × Int × Int) (e : List Value) : Prop := e = [.string p.1, .int .i64 p.2.1, .int .i64 p.2.2.1, .int .i64 p.2.2.2] ∧ p.1.size ≤ maxLen ∧ I64 p.2.1 ∧ I64 p.2.2.1 ∧ I64 p.2.2.2
section
variable (S : Nat → Prop) (w : World)
abbrev StrsO (v : Value) (l : List ByteArray) : Prop := EO S w 1 EStr v l
abbrev IntsO (v : Value) (l : List Int) : Prop := EO S w 1 EInt v l
abbrev PairsO (v : Value) (l : List (ByteArray × ByteArray)) : Prop := EO S w 2 EPair v l
abbrev AttrsO (v : Value) (l : List (ByteArray × Bool)) : Prop := EO S w 2 EAttr v l
abbrev NodesO (v : Value) (l : List (ByteArray × Int × Int × Int)) : Prop := EO S w 4 ENode v l
/-- A row of strings, as an element. -/
def ERow (r : List ByteArray) (e : List Value) : Prop := ∃ v, e = [v] ∧ StrsO S w v r
abbrev RowsO (v : Value) (l : List (List ByteArray)) : Prop := EO S w 1 (ERow S w) v l
/-- A text or a region: a name, two ends, pairs. -/
structure Spn where
  name : ByteArray
  lo : Int
  hi : Int
  keys : List (ByteArray × ByteArray)
def ESpn (t : Spn) (e : List Value) : Prop := ∃ m, e = [.string t.name, .int .i64 t.lo, .int .i64 t.hi, m] ∧ t.name.size ≤ maxLen ∧ I64 t.lo ∧ I64 t.hi ∧ PairsO S w m t.keys
abbrev SpnsO (v : Value) (l : List Spn) : Prop := EO S w 4 (ESpn S w) v l
end
section
variable {S T : Nat → Prop} {w w' : World} {v : Value}
theorem ERow.chg {r : List ByteArray} {e : List Value} (h : ERow S w r e) (hc : Chg S w w') : ERow S w' r e := by
  obtain ⟨v, rfl, hv⟩ := h
  exact ⟨v, rfl, hv.chg' hc⟩
theorem RowsO.chg {l : List (List ByteArray)} (h : RowsO S w v l) (hc : Chg S w w') : RowsO S w' v l := EO.chg h hc fun _ _ _ h => h.chg hc
theorem ESpn.chg {t : Spn} {e : List Value} (h : ESpn S w t e) (hc : Chg S w w') : ESpn S w' t e := by
  obtain ⟨m, rfl, h1, h2, h3, h4⟩ := h
  exact ⟨m, rfl, h1, h2, h3, h4.chg' hc⟩
theorem SpnsO.chg {l : List Spn} (h : SpnsO S w v l) (hc : Chg S w w') : SpnsO S w' v l := EO.chg h hc fun _ _ _ h => h.chg hc
end
/-- A corpus: attributes, tokens, texts, regions, nodes, heads, relations. -/
structure Cor where
  attrs : List (ByteArray × Bool)
  toks : List (List ByteArray)
  texts : List Spn
  regs : List Spn
  nodes : List (ByteArray × Int × Int × Int)
  heads : List Int
  rels : List ByteArray
/-- Seven slices that read as a corpus. -/
structure CorC (S : Nat → Prop) (w : World) (a t x r n h s : Value) (C : Cor) : Prop where
  a : AttrsO S w a C.attrs
  t : RowsO S w t C.toks
  x : SpnsO S w x C.texts
  r : SpnsO S w r C.regs
  n : NodesO S w n C.nodes
  h : IntsO S w h C.heads
  s : StrsO S w s C.rels
def CorV (S : Nat → Prop) (w : World) (v : Value) (C : Cor) : Prop := ∃ a t x r n h s, v = .agg #[a, t, x, r, n, h, s] ∧ CorC S w a t x r n h s C
theorem CorC.chg {S : Nat → Prop} {w w' : World} {a t x r n h s : Value} {C : Cor} (q : CorC S w a t x r n h s C) (hc : Chg S w w') : CorC S w' a t x r n h s C :=
  ⟨q.a.chg' hc, RowsO.chg q.t hc, SpnsO.chg q.x hc, SpnsO.chg q.r hc, q.n.chg' hc, q.h.chg' hc, q.s.chg' hc⟩
theorem CorC.below {S : Nat → Prop} {w w' : World} {a t x r n h s : Value} {C : Cor} (q : CorC S w a t x r n h s C) (hb : Below w.heap.size w w') : CorC S w' a t x r n h s C := q.chg (Chg.grow9 hb)
theorem CorV.chg {S : Nat → Prop} {w w' : World} {v : Value} {C : Cor} (q : CorV S w v C) (hc : Chg S w w') : CorV S w' v C := by
  obtain ⟨a, t, x, r, n, h, s, rfl, q⟩ := q
  exact ⟨a, t, x, r, n, h, s, rfl, q.chg hc⟩
theorem CorV.below {S : Nat → Prop} {w w' : World} {v : Value} {C : Cor} (q : CorV S w v C) (hb : Below w.heap.size w w') : CorV S w' v C := q.chg (Chg.grow9 hb)
/-- The element i of a slice of texts or regions. -/
theorem SpnsO.get {S : Nat → Prop} {w : World} {A : Option Addr} {n c : Nat} {l : List Spn} (h : SpnsO S w (.slice A n c) l) {i : Nat} (hi : i < l.length) :
    ∃ b off m, A = some ⟨b, off, none⟩ ∧ ¬ S b ∧ w.cell? ⟨b, off + i * 4, none⟩ = some (.string l[i].name) ∧ w.cell? ⟨b, off + i * 4 + 1, none⟩ = some (.int .i64 l[i].lo) ∧ w.cell? ⟨b, off + i * 4 + 2, none⟩ = some (.int .i64 l[i].hi) ∧ w.cell? ⟨b, off + i * 4 + 3, none⟩ = some m ∧ PairsO S w m l[i].keys ∧ l[i].name.size ≤ maxLen ∧ I64 l[i].lo ∧ I64 l[i].hi := by
  obtain ⟨b, off, e, rfl, hn, -, ⟨m, rfl, h1, h2, h3, h4⟩, hc⟩ := EO.get h (by decide) hi
  exact ⟨b, off, m, rfl, hn, hc 0 _ rfl, hc 1 _ rfl, hc 2 _ rfl, hc 3 _ rfl, h4, h1, h2, h3⟩
theorem RowsO.get {S : Nat → Prop} {w : World} {A : Option Addr} {n c : Nat} {l : List (List ByteArray)} (h : RowsO S w (.slice A n c) l) {i : Nat} (hi : i < l.length) :
    ∃ b off v, A = some ⟨b, off, none⟩ ∧ ¬ S b ∧ w.cell? ⟨b, off + i, none⟩ = some v ∧ StrsO S w v l[i] := by
  obtain ⟨b, off, e, rfl, hn, -, ⟨v, rfl, hv⟩, hc⟩ := EO.get h (by decide) hi
  have := hc 0 _ rfl
  rw [Nat.mul_one, Nat.add_zero] at this
  exact ⟨b, off, v, rfl, hn, this, hv⟩
theorem StrsO.get {S : Nat → Prop} {w : World} {A : Option Addr} {n c : Nat} {l : List ByteArray} (h : StrsO S w (.slice A n c) l) {i : Nat} (hi : i < l.length) :
    ∃ b off, A = some ⟨b, off, none⟩ ∧ ¬ S b ∧ w.cell? ⟨b, off + i, none⟩ = some (.string l[i]) ∧ l[i].size ≤ maxLen := by
  obtain ⟨b, off, e, rfl, hn, -, ⟨rfl, hv⟩, hc⟩ := EO.get h (by decide) hi
  have := hc 0 _ rfl
  rw [Nat.mul_one, Nat.add_zero] at this
  exact ⟨b, off, rfl, hn, this, hv⟩
theorem IntsO.get {S : Nat → Prop} {w : World} {A : Option Addr} {n c : Nat} {l : List Int} (h : IntsO S w (.slice A n c) l) {i : Nat} (hi : i < l.length) :
    ∃ b off, A = some ⟨b, off, none⟩ ∧ ¬ S b ∧ w.cell? ⟨b, off + i, none⟩ = some (.int .i64 l[i]) ∧ I64 l[i] := by
  obtain ⟨b, off, e, rfl, hn, -, ⟨rfl, hv⟩, hc⟩ := EO.get h (by decide) hi
  have := hc 0 _ rfl
  rw [Nat.mul_one, Nat.add_zero] at this
  exact ⟨b, off, rfl, hn, this, hv⟩
theorem PairsO.get {S : Nat → Prop} {w : World} {A : Option Addr} {n c : Nat} {l : List (ByteArray × ByteArray)} (h : PairsO S w (.slice A n c) l) {i : Nat} (hi : i < l.length) :
    ∃ b off, A = some ⟨b, off, none⟩ ∧ ¬ S b ∧ w.cell? ⟨b, off + i * 2, none⟩ = some (.string l[i].1) ∧ w.cell? ⟨b, off + i * 2 + 1, none⟩ = some (.string l[i].2) ∧ l[i].1.size ≤ maxLen ∧ l[i].2.size ≤ maxLen := by
  obtain ⟨b, off, e, rfl, hn, -, ⟨rfl, h1, h2⟩, hc⟩ := EO.get h (by decide) hi
  exact ⟨b, off, rfl, hn, hc 0 _ rfl, hc 1 _ rfl, h1, h2⟩
theorem AttrsO.get {S : Nat → Prop} {w : World} {A : Option Addr} {n c : Nat} {l : List (ByteArray × Bool)} (h : AttrsO S w (.slice A n c) l) {i : Nat} (hi : i < l.length) :
    ∃ b off, A = some ⟨b, off, none⟩ ∧ ¬ S b ∧ w.cell? ⟨b, off + i * 2, none⟩ = some (.string l[i].1) ∧ w.cell? ⟨b, off + i * 2 + 1, none⟩ = some (.bool l[i].2) ∧ l[i].1.size ≤ maxLen := by
  obtain ⟨b, off, e, rfl, hn, -, ⟨rfl, h1⟩, hc⟩ := EO.get h (by decide) hi
  exact ⟨b, off, rfl, hn, hc 0 _ rfl, hc 1 _ rfl, h1⟩
theorem NodesO.get {S : Nat → Prop} {w : World} {A : Option Addr} {n c : Nat} {l : List (ByteArray × Int × Int × Int)} (h : NodesO S w (.slice A n c) l) {i : Nat} (hi : i < l.length) :
    ∃ b off, A = some ⟨b, off, none⟩ ∧ ¬ S b ∧ w.cell? ⟨b, off + i * 4, none⟩ = some (.string l[i].1) ∧ w.cell? ⟨b, off + i * 4 + 1, none⟩ = some (.int .i64 l[i].2.1) ∧ w.cell? ⟨b, off + i * 4 + 2, none⟩ = some (.int .i64 l[i].2.2.1) ∧ w.cell? ⟨b, off + i * 4 + 3, none⟩ = some (.int .i64 l[i].2.2.2) ∧ l[i].1.size ≤ maxLen ∧ I64 l[i].2.1 ∧ I64 l[i].2.2.1 ∧ I64 l[i].2.2.2 := by
  obtain ⟨b, off, e, rfl, hn, -, ⟨rfl, h1, h2, h3, h4⟩, hc⟩ := EO.get h (by decide) hi
  exact ⟨b, off, rfl, hn, hc 0 _ rfl, hc 1 _ rfl, hc 2 _ rfl, hc 3 _ rfl, h1, h2, h3, h4⟩
end Go.Proofs.YtfenjklilocjgaaGreatDoor
