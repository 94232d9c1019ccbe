/- Parts of the proof: Co, Ca. No condition of its own. -/
import Derived.Test.YtjimfbmegmnocaaGreatDoorMem
import Derived.Test.YtjimfbmegmnocaaGreatDoorShelf
import Derived.IntWalk
import Derived.Deep.LoopGhost
import Derived.Deep.DeepCutAuto
import Derived.Deep.CutBlock
import Derived.Deep.QuietTactic
import Derived.BigQuiet
import Derived.Maps.AppendAt
set_option linter.unusedSimpArgs false
set_option linter.unusedVariables false
set_option maxRecDepth 100000
set_option maxHeartbeats 4000000
namespace Go.Proofs.YtjimfbmegmnocaaGreatDoor
open Go.RowKit

def SO (S : Nat -> Prop) (w : World) (v : Value) (n : Nat) (xs : List Value) : Prop := ∃ A c, v = .slice A n c /\ n <= c /\ c <= maxLen /\ RdOut S w A xs
theorem RdOut.nil (S : Nat -> Prop) (w : World) (A : Option Addr) : RdOut S w A [] := by intro j u h; simp at h
theorem SO.nil (S : Nat -> Prop) (w : World) : SO S w (.slice none 0 0) 0 [] := ⟨none, 0, rfl, Nat.le_refl _, by unfold maxLen; omega, RdOut.nil _ _ _⟩
theorem SO.chg {S : Nat -> Prop} {w w' : World} {v : Value} {n : Nat} {xs : List Value} (h : SO S w v n xs) (hc : Chg S w w') : SO S w' v n xs := by
 obtain ⟨A, c, rfl, h1, h2, h3⟩ := h; exact ⟨A, c, rfl, h1, h2, h3.chg hc⟩
theorem Chg.grow9 {S : Nat -> Prop} {w w' : World} (hb : Below w.heap.size w w') : Chg S w w' := Chg.of_below hb fun k h1 h2 => by omega
theorem SO.below {S : Nat -> Prop} {w w' : World} {v : Value} {n : Nat} {xs : List Value} (h : SO S w v n xs) (hb : Below w.heap.size w w') : SO S w' v n xs := h.chg (Chg.grow9 hb)
theorem SO.weak {S T : Nat -> Prop} {w : World} {v : Value} {n : Nat} {xs : List Value} (h : SO S w v n xs) (hs : ∀ k, T k -> S k) : SO T w v n xs := by
 obtain ⟨A, c, rfl, h1, h2, h3⟩ := h; exact ⟨A, c, rfl, h1, h2, fun j u hu => let ⟨b, off, e, hn, hc⟩ := h3 j u hu; ⟨b, off, e, fun x => hn (hs _ x), hc⟩⟩
theorem SO.of_own {S : Nat -> Prop} {w : World} {base : Nat} {e : TypeId} {size n : Nat} {v : Value} {xs : List Value} (h : w.ownsRow base e size v n xs) (hs : ∀ k, base <= k -> ¬ S k) : SO S w v n xs := by
 obtain ⟨A, c, rfl, h1, h2, h3⟩ := own_out h (S := S) fun k hk => hs k (own_lt h k hk); exact ⟨A, c, rfl, h1, h2, h3⟩

theorem flat_get {k : Nat} : ∀ {es : List (List Value)} (_ : ∀ e ∈ es, e.length = k) (i : Nat) (e : List Value) (j : Nat) (u : Value), es[i]? = some e -> e[j]? = some u -> es.flatten[i * k + j]? = some u := by
 intro es
 induction es with
 | nil => intro _ i e j u h; simp at h
 | cons x r ih =>
  intro hk i e j u h hj; have hx := hk x (by simp)
  cases i with
  | zero =>
   have h : x = e := by simpa using h
   subst h; have hlt : j < x.length := by
    rcases Nat.lt_or_ge j x.length with hl | hl
    ·exact hl
    ·rw [List.getElem?_eq_none hl] at hj; cases hj
   rw [List.flatten_cons, Nat.zero_mul, Nat.zero_add, List.getElem?_append_left hlt]; exact hj
  | succ i =>
   have := ih (fun e he => hk e (by simp [he])) i e j u (by simpa using h) hj; rw [List.flatten_cons, List.getElem?_append_right (by rw [hx, Nat.add_mul]; omega), hx]; have e9 : (i + 1) * k + j - k = i * k + j := by rw [Nat.add_mul]; omega
   rw [e9]; exact this
theorem flat_length {k : Nat} : ∀ {es : List (List Value)} (_ : ∀ e ∈ es, e.length = k), es.flatten.length = es.length * k := by
 intro es
 induction es with
 | nil => intro _; simp
 | cons x r ih =>
  intro hk; rw [List.flatten_cons, List.length_append, ih fun e he => hk e (by simp [he]), hk x (by simp), List.length_cons, Nat.add_mul]
  omega

section
variable {α : Type}
structure Els (k : Nat) (E : α -> List Value -> Prop) (es : List (List Value)) (l : List α) : Prop where
 len : es.length = l.length
 wide : ∀ e ∈ es, e.length = k
 each : ∀ (i : Nat) e x, es[i]? = some e -> l[i]? = some x -> E x e
def EO (S : Nat -> Prop) (w : World) (k : Nat) (E : α -> List Value -> Prop) (v : Value) (l : List α) : Prop := ∃ es, Els k E es l /\ SO S w v l.length es.flatten
variable {S T : Nat -> Prop} {w w' : World} {k : Nat} {E F : α -> List Value -> Prop} {v : Value} {l : List α} {es : List (List Value)}
theorem Els.nil (k : Nat) (E : α -> List Value -> Prop) : Els k E [] [] := ⟨rfl, by simp, fun i e x h => by simp at h⟩
theorem Els.mono (h : Els k E es l) (hE : ∀ x e, x ∈ l -> E x e -> F x e) : Els k F es l := ⟨h.len, h.wide, fun i e x h1 h2 => hE x e (List.mem_of_getElem? h2) (h.each i e x h1 h2)⟩
theorem Els.app {es' : List (List Value)} {l' : List α} (h : Els k E es l) (h' : Els k E es' l') : Els k E (es ++ es') (l ++ l') := by
 refine ⟨by simp [h.len, h'.len], fun e he => ?_, fun i e x h1 h2 => ?_⟩
 ·rcases List.mem_append.1 he with he | he
  ·exact h.wide e he
  ·exact h'.wide e he
 ·rcases Nat.lt_or_ge i es.length with hi | hi
  ·rw [List.getElem?_append_left hi] at h1; rw [List.getElem?_append_left (h.len ▸ hi)] at h2; exact h.each i e x h1 h2
  ·rw [List.getElem?_append_right hi] at h1; rw [List.getElem?_append_right (h.len ▸ hi), <- h.len] at h2; exact h'.each _ e x h1 h2
theorem Els.one {x : α} {e : List Value} (hk : e.length = k) (h : E x e) : Els k E [e] [x] := by
 refine ⟨rfl, by simpa using hk, fun i e' x' h1 h2 => ?_⟩
 cases i with
 | zero => simp at h1 h2; subst h1 h2; exact h
 | succ i => simp at h1
theorem Els.take (h : Els k E es l) (n : Nat) : Els k E (es.take n) (l.take n) := by
 refine ⟨by simp [h.len], fun e he => h.wide e (List.mem_of_mem_take he), fun i e x h1 h2 => ?_⟩; rw [List.getElem?_take] at h1 h2
 split at h1
 ·rename_i hi
  rw [if_pos hi] at h2; exact h.each i e x h1 h2
 ·cases h1
theorem Els.get (h : Els k E es l) {i : Nat} (hi : i < l.length) : ∃ e, es[i]? = some e /\ e.length = k /\ E l[i] e := by
 have h1 : i < es.length := by rw [h.len]; exact hi
 exact ⟨es[i], List.getElem?_eq_getElem h1, h.wide _ (List.getElem_mem h1), h.each i _ _ (List.getElem?_eq_getElem h1) (List.getElem?_eq_getElem hi)⟩
theorem EO.nil (S : Nat -> Prop) (w : World) (k : Nat) (E : α -> List Value -> Prop) : EO S w k E (.slice none 0 0) [] := ⟨[], Els.nil k E, SO.nil S w⟩
theorem EO.mono (h : EO S w k E v l) (hE : ∀ x e, x ∈ l -> E x e -> F x e) : EO S w k F v l := by
 obtain ⟨es, h1, h2⟩ := h; exact ⟨es, h1.mono hE, h2⟩
theorem EO.chg' (h : EO S w k E v l) (hc : Chg S w w') : EO S w' k E v l := by
 obtain ⟨es, h1, h2⟩ := h; exact ⟨es, h1, h2.chg hc⟩
theorem EO.chg (h : EO S w k E v l) (hc : Chg S w w') (hE : ∀ x e, x ∈ l -> E x e -> F x e) : EO S w' k F v l := (h.chg' hc).mono hE
theorem EO.below (h : EO S w k E v l) (hb : Below w.heap.size w w') : EO S w' k E v l := EO.chg' h (Chg.grow9 hb)
theorem EO.weak' (h : EO S w k E v l) (hs : ∀ k, T k -> S k) : EO T w k E v l := by
 obtain ⟨es, h1, h2⟩ := h; exact ⟨es, h1, h2.weak hs⟩
theorem EO.form (h : EO S w k E v l) : ∃ A c, v = .slice A l.length c /\ l.length <= c /\ c <= maxLen /\ EO S w k E (.slice A l.length c) l := by
 obtain ⟨es, h1, A, c, rfl, h2, h3, h4⟩ := h; exact ⟨A, c, rfl, h2, h3, es, h1, A, c, rfl, h2, h3, h4⟩
theorem EO.get {A : Option Addr} {n c : Nat} (h : EO S w k E (.slice A n c) l) (hk : 0 < k) {i : Nat} (hi : i < l.length) :
  ∃ b off e, A = some ⟨b, off, none⟩ /\ ¬ S b /\ e.length = k /\ E l[i] e /\ ∀ j u, e[j]? = some u -> w.cell? ⟨b, off + i * k + j, none⟩ = some u := by
 obtain ⟨es, h1, A', c', he, h2, h3, h4⟩ := h
 injection he with e1 e2 e3
 subst e1 e2 e3; obtain ⟨e, g1, g2, g3⟩ := h1.get hi; obtain ⟨u0, hu0⟩ : ∃ u, e[0]? = some u := ⟨_, List.getElem?_eq_getElem (by omega)⟩; obtain ⟨b, off, rfl, hn, -⟩ := h4 _ u0 (flat_get h1.wide i e 0 u0 g1 hu0); refine ⟨b, off, e, rfl, hn, g2, g3, fun j u hu => ?_⟩; obtain ⟨b', off', ee, -, hc⟩ := h4 _ u (flat_get h1.wide i e j u g1 hu)
 injection ee with ee
 injection ee with ee1 ee2
 subst ee1 ee2; rw [Nat.add_assoc]; exact hc
theorem EO.len {A : Option Addr} {n c : Nat} (h : EO S w k E (.slice A n c) l) : n = l.length /\ n <= c /\ c <= maxLen := by
 obtain ⟨es, h1, A', c', he, h2, h3, h4⟩ := h
 injection he with e1 e2 e3
 subst e1 e2 e3; exact ⟨rfl, h2, h3⟩
end

def I64 (x : Int) : Prop := -9223372036854775808 <= x /\ x <= 9223372036854775807
def EStr (s : ByteArray) (e : List Value) : Prop := e = [.string s] /\ s.size <= maxLen
def EInt (x : Int) (e : List Value) : Prop := e = [.int .i64 x] /\ I64 x
def EPair (p : ByteArray × ByteArray) (e : List Value) : Prop := e = [.string p.1, .string p.2] /\ p.1.size <= maxLen /\ p.2.size <= maxLen
def EAttr (p : ByteArray × Bool) (e : List Value) : Prop := e = [.string p.1, .bool p.2] /\ p.1.size <= maxLen
def ENode (p : ByteArray × Int × Int × Int) (e : List Value) : Prop := e = [.string p.1, .int .i64 p.2.1, .int .i64 p.2.2.1, .int .i64 p.2.2.2] /\ p.1.size <= maxLen /\ I64 p.2.1 /\ I64 p.2.2.1 /\ I64 p.2.2.2
section
variable (S : Nat -> Prop) (w : World)
abbrev StrsO (v : Value) (l : List ByteArray) : Prop := EO S w 1 EStr v l
abbrev IntsO (v : Value) (l : List Int) : Prop := EO S w 1 EInt v l
abbrev PairsO (v : Value) (l : List (ByteArray × ByteArray)) : Prop := EO S w 2 EPair v l
abbrev AttrsO (v : Value) (l : List (ByteArray × Bool)) : Prop := EO S w 2 EAttr v l
abbrev NodesO (v : Value) (l : List (ByteArray × Int × Int × Int)) : Prop := EO S w 4 ENode v l
def ERow (r : List ByteArray) (e : List Value) : Prop := ∃ v, e = [v] /\ StrsO S w v r
abbrev RowsO (v : Value) (l : List (List ByteArray)) : Prop := EO S w 1 (ERow S w) v l
structure Spn where
 name : ByteArray
 lo : Int
 hi : Int
 keys : List (ByteArray × ByteArray)
def ESpn (t : Spn) (e : List Value) : Prop := ∃ m, e = [.string t.name, .int .i64 t.lo, .int .i64 t.hi, m] /\ t.name.size <= maxLen /\ I64 t.lo /\ I64 t.hi /\ PairsO S w m t.keys
abbrev SpnsO (v : Value) (l : List Spn) : Prop := EO S w 4 (ESpn S w) v l
end
section
variable {S T : Nat -> Prop} {w w' : World} {v : Value}
theorem ERow.chg {r : List ByteArray} {e : List Value} (h : ERow S w r e) (hc : Chg S w w') : ERow S w' r e := by
 obtain ⟨v, rfl, hv⟩ := h; exact ⟨v, rfl, hv.chg' hc⟩
theorem ERow.weak {r : List ByteArray} {e : List Value} (h : ERow S w r e) (hs : ∀ k, T k -> S k) : ERow T w r e := by
 obtain ⟨v, rfl, hv⟩ := h; exact ⟨v, rfl, hv.weak' hs⟩
theorem RowsO.chg {l : List (List ByteArray)} (h : RowsO S w v l) (hc : Chg S w w') : RowsO S w' v l := EO.chg h hc fun _ _ _ h => h.chg hc
theorem RowsO.weak {l : List (List ByteArray)} (h : RowsO S w v l) (hs : ∀ k, T k -> S k) : RowsO T w v l := (EO.weak' h hs).mono fun _ _ _ h => h.weak hs
theorem ESpn.chg {t : Spn} {e : List Value} (h : ESpn S w t e) (hc : Chg S w w') : ESpn S w' t e := by
 obtain ⟨m, rfl, h1, h2, h3, h4⟩ := h; exact ⟨m, rfl, h1, h2, h3, h4.chg' hc⟩
theorem ESpn.weak {t : Spn} {e : List Value} (h : ESpn S w t e) (hs : ∀ k, T k -> S k) : ESpn T w t e := by
 obtain ⟨m, rfl, h1, h2, h3, h4⟩ := h; exact ⟨m, rfl, h1, h2, h3, h4.weak' hs⟩
theorem SpnsO.chg {l : List Spn} (h : SpnsO S w v l) (hc : Chg S w w') : SpnsO S w' v l := EO.chg h hc fun _ _ _ h => h.chg hc
theorem SpnsO.weak {l : List Spn} (h : SpnsO S w v l) (hs : ∀ k, T k -> S k) : SpnsO T w v l := (EO.weak' h hs).mono fun _ _ _ h => h.weak hs
end
structure Cor where
 attrs : List (ByteArray × Bool)
 toks : List (List ByteArray)
 texts : List Spn
 regs : List Spn
 nodes : List (ByteArray × Int × Int × Int)
 heads : List Int
 rels : List ByteArray
structure CorC (S : Nat -> Prop) (w : World) (a t x r n h s : Value) (C : Cor) : Prop where
 a : AttrsO S w a C.attrs
 t : RowsO S w t C.toks
 x : SpnsO S w x C.texts
 r : SpnsO S w r C.regs
 n : NodesO S w n C.nodes
 h : IntsO S w h C.heads
 s : StrsO S w s C.rels
def CorV (S : Nat -> Prop) (w : World) (v : Value) (C : Cor) : Prop := ∃ a t x r n h s, v = .agg #[a, t, x, r, n, h, s] /\ CorC S w a t x r n h s C
theorem CorC.chg {S : Nat -> Prop} {w w' : World} {a t x r n h s : Value} {C : Cor} (q : CorC S w a t x r n h s C) (hc : Chg S w w') : CorC S w' a t x r n h s C :=
 ⟨q.a.chg' hc, RowsO.chg q.t hc, SpnsO.chg q.x hc, SpnsO.chg q.r hc, q.n.chg' hc, q.h.chg' hc, q.s.chg' hc⟩
theorem CorC.below {S : Nat -> Prop} {w w' : World} {a t x r n h s : Value} {C : Cor} (q : CorC S w a t x r n h s C) (hb : Below w.heap.size w w') : CorC S w' a t x r n h s C := q.chg (Chg.grow9 hb)
theorem CorC.weak {S T : Nat -> Prop} {w : World} {a t x r n h s : Value} {C : Cor} (q : CorC S w a t x r n h s C) (hs : ∀ k, T k -> S k) : CorC T w a t x r n h s C :=
 ⟨q.a.weak' hs, RowsO.weak q.t hs, SpnsO.weak q.x hs, SpnsO.weak q.r hs, q.n.weak' hs, q.h.weak' hs, q.s.weak' hs⟩
theorem CorV.chg {S : Nat -> Prop} {w w' : World} {v : Value} {C : Cor} (q : CorV S w v C) (hc : Chg S w w') : CorV S w' v C := by
 obtain ⟨a, t, x, r, n, h, s, rfl, q⟩ := q; exact ⟨a, t, x, r, n, h, s, rfl, q.chg hc⟩
theorem CorV.below {S : Nat -> Prop} {w w' : World} {v : Value} {C : Cor} (q : CorV S w v C) (hb : Below w.heap.size w w') : CorV S w' v C := q.chg (Chg.grow9 hb)
theorem SpnsO.get {S : Nat -> Prop} {w : World} {A : Option Addr} {n c : Nat} {l : List Spn} (h : SpnsO S w (.slice A n c) l) {i : Nat} (hi : i < l.length) :
  ∃ b off m, A = some ⟨b, off, none⟩ /\ ¬ S b /\ w.cell? ⟨b, off + i * 4, none⟩ = some (.string l[i].name) /\ w.cell? ⟨b, off + i * 4 + 1, none⟩ = some (.int .i64 l[i].lo) /\ w.cell? ⟨b, off + i * 4 + 2, none⟩ = some (.int .i64 l[i].hi) /\ w.cell? ⟨b, off + i * 4 + 3, none⟩ = some m /\ PairsO S w m l[i].keys /\ l[i].name.size <= maxLen /\ I64 l[i].lo /\ I64 l[i].hi := by
 obtain ⟨b, off, e, rfl, hn, -, ⟨m, rfl, h1, h2, h3, h4⟩, hc⟩ := EO.get h (by decide) hi; exact ⟨b, off, m, rfl, hn, hc 0 _ rfl, hc 1 _ rfl, hc 2 _ rfl, hc 3 _ rfl, h4, h1, h2, h3⟩
theorem RowsO.get {S : Nat -> Prop} {w : World} {A : Option Addr} {n c : Nat} {l : List (List ByteArray)} (h : RowsO S w (.slice A n c) l) {i : Nat} (hi : i < l.length) :
  ∃ b off v, A = some ⟨b, off, none⟩ /\ ¬ S b /\ w.cell? ⟨b, off + i, none⟩ = some v /\ StrsO S w v l[i] := by
 obtain ⟨b, off, e, rfl, hn, -, ⟨v, rfl, hv⟩, hc⟩ := EO.get h (by decide) hi; have := hc 0 _ rfl; rw [Nat.mul_one, Nat.add_zero] at this; exact ⟨b, off, v, rfl, hn, this, hv⟩
theorem StrsO.get {S : Nat -> Prop} {w : World} {A : Option Addr} {n c : Nat} {l : List ByteArray} (h : StrsO S w (.slice A n c) l) {i : Nat} (hi : i < l.length) :
  ∃ b off, A = some ⟨b, off, none⟩ /\ ¬ S b /\ w.cell? ⟨b, off + i, none⟩ = some (.string l[i]) /\ l[i].size <= maxLen := by
 obtain ⟨b, off, e, rfl, hn, -, ⟨rfl, hv⟩, hc⟩ := EO.get h (by decide) hi; have := hc 0 _ rfl; rw [Nat.mul_one, Nat.add_zero] at this; exact ⟨b, off, rfl, hn, this, hv⟩
theorem IntsO.get {S : Nat -> Prop} {w : World} {A : Option Addr} {n c : Nat} {l : List Int} (h : IntsO S w (.slice A n c) l) {i : Nat} (hi : i < l.length) :
  ∃ b off, A = some ⟨b, off, none⟩ /\ ¬ S b /\ w.cell? ⟨b, off + i, none⟩ = some (.int .i64 l[i]) /\ I64 l[i] := by
 obtain ⟨b, off, e, rfl, hn, -, ⟨rfl, hv⟩, hc⟩ := EO.get h (by decide) hi; have := hc 0 _ rfl; rw [Nat.mul_one, Nat.add_zero] at this; exact ⟨b, off, rfl, hn, this, hv⟩
theorem PairsO.get {S : Nat -> Prop} {w : World} {A : Option Addr} {n c : Nat} {l : List (ByteArray × ByteArray)} (h : PairsO S w (.slice A n c) l) {i : Nat} (hi : i < l.length) :
  ∃ b off, A = some ⟨b, off, none⟩ /\ ¬ S b /\ w.cell? ⟨b, off + i * 2, none⟩ = some (.string l[i].1) /\ w.cell? ⟨b, off + i * 2 + 1, none⟩ = some (.string l[i].2) /\ l[i].1.size <= maxLen /\ l[i].2.size <= maxLen := by
 obtain ⟨b, off, e, rfl, hn, -, ⟨rfl, h1, h2⟩, hc⟩ := EO.get h (by decide) hi; exact ⟨b, off, rfl, hn, hc 0 _ rfl, hc 1 _ rfl, h1, h2⟩
theorem AttrsO.get {S : Nat -> Prop} {w : World} {A : Option Addr} {n c : Nat} {l : List (ByteArray × Bool)} (h : AttrsO S w (.slice A n c) l) {i : Nat} (hi : i < l.length) :
  ∃ b off, A = some ⟨b, off, none⟩ /\ ¬ S b /\ w.cell? ⟨b, off + i * 2, none⟩ = some (.string l[i].1) /\ w.cell? ⟨b, off + i * 2 + 1, none⟩ = some (.bool l[i].2) /\ l[i].1.size <= maxLen := by
 obtain ⟨b, off, e, rfl, hn, -, ⟨rfl, h1⟩, hc⟩ := EO.get h (by decide) hi; exact ⟨b, off, rfl, hn, hc 0 _ rfl, hc 1 _ rfl, h1⟩
theorem NodesO.get {S : Nat -> Prop} {w : World} {A : Option Addr} {n c : Nat} {l : List (ByteArray × Int × Int × Int)} (h : NodesO S w (.slice A n c) l) {i : Nat} (hi : i < l.length) :
  ∃ b off, A = some ⟨b, off, none⟩ /\ ¬ S b /\ w.cell? ⟨b, off + i * 4, none⟩ = some (.string l[i].1) /\ w.cell? ⟨b, off + i * 4 + 1, none⟩ = some (.int .i64 l[i].2.1) /\ w.cell? ⟨b, off + i * 4 + 2, none⟩ = some (.int .i64 l[i].2.2.1) /\ w.cell? ⟨b, off + i * 4 + 3, none⟩ = some (.int .i64 l[i].2.2.2) /\ l[i].1.size <= maxLen /\ I64 l[i].2.1 /\ I64 l[i].2.2.1 /\ I64 l[i].2.2.2 := by
 obtain ⟨b, off, e, rfl, hn, -, ⟨rfl, h1, h2, h3, h4⟩, hc⟩ := EO.get h (by decide) hi; exact ⟨b, off, rfl, hn, hc 0 _ rfl, hc 1 _ rfl, hc 2 _ rfl, hc 3 _ rfl, h1, h2, h3, h4⟩
open Go.RowKit

theorem belowB {B : Nat} {w w' w'' : World} (h : Below B w w') (hB : B <= w'.heap.size) (h2 : Below w'.heap.size w' w'') : Below B w w'' := h.trans (h2.mono hB)
theorem value_any {S : Nat -> Prop} {a t x r n h s : Value} {C : Cor} (w : World) (q : CorC S w a t x r n h s C) (i k : Nat) (hi : i < C.toks.length) (hk : k < C.toks[i].length) :
  Calls Tryz.prog 53 #[.agg #[a, t, x, r, n, h, s], .int .i64 (i : Int), .int .i64 (k : Int)] w fun e w' => e = .returned (.string (C.toks[i][k])) /\ Below w.heap.size w w' := by
 obtain ⟨A, c, rfl, h1, h2, -⟩ := EO.form q.t; obtain ⟨o_c, hbw⟩ := new1 w [a, .slice A C.toks.length c, x, r, n, h, s] 30; have q' := q.below hbw
 go_enter Tryz.func53, Tryz.ntmps53
 go_upto_region 1 with (fail)
 generalize (w.alloc (.cells #[a, .slice A C.toks.length c, x, r, n, h, s] 30)) = wb at o_c hbw q' |-; obtain ⟨b, off, v, rfl, -, cr, hv⟩ := RowsO.get q'.t hi; obtain ⟨A2, c2, rfl, h3, h4, hv⟩ := EO.form hv; obtain ⟨b2, off2, rfl, -, cs, -⟩ := StrsO.get hv hk; have qc := o_c.c1; unfold maxLen at h2 h4; clear q q' hv o_c; have d1 : decide (C.toks.length <= i) = false := decide_eq_false (by omega); have d2 : decide (C.toks[i].length <= k) = false := decide_eq_false (by omega); obtain ⟨res, hres⟩ : ∃ r, r = C.toks[i][k] := ⟨_, rfl⟩; rw [<- hres] at cs; have HR := Z' hres; clear hres
 go_wp2
 go_ret
 exact ⟨by rw [<- HR.out]; rfl, hbw⟩

def inP (a b : Int) (t : Spn) : Bool := decide (0 <= t.lo) && (decide (t.lo <= a) && (decide (a < b) && decide (b <= t.hi)))
def atP (a : Int) (t : Spn) : Bool := decide (t.lo <= a) && decide (a < t.hi)
def FoundT (o : Option Spn) (e : Ending) : Prop := match o with
 | some t => ∃ A k c, e = .returned (.tuple #[.agg #[.string t.name, .int .i64 t.lo, .int .i64 t.hi, .slice A k c], .bool true])
 | none => e = .returned (.tuple #[.agg #[.string ⟨#[]⟩, .int .i64 0, .int .i64 0, .slice none 0 0], .bool false])
theorem find_next {l : List Spn} {p : Spn -> Bool} {j : Nat} (hj : j < l.length) (h : l.find? p = (l.drop j).find? p) (hp : p l[j] = false) : l.find? p = (l.drop (j + 1)).find? p := by
 rw [h, List.drop_eq_getElem_cons hj, List.find?_cons, hp]
theorem find_here {l : List Spn} {p : Spn -> Bool} {j : Nat} (hj : j < l.length) (h : l.find? p = (l.drop j).find? p) (hp : p l[j] = true) : l.find? p = some l[j] := by
 rw [h, List.drop_eq_getElem_cons hj, List.find?_cons, hp]
theorem find_end {l : List Spn} {p : Spn -> Bool} {j : Nat} (hj : l.length <= j) (h : l.find? p = (l.drop j).find? p) : l.find? p = none := by
 rw [h, List.drop_eq_nil_of_le hj]; rfl
theorem Own.set4' {w : World} {g : Nat} {t : TypeId} {a b c d : Value} (h : Own w g t [a, b, c, d]) (u v x y : Value) :
  Own ((((w.setCell ⟨g, 0, none⟩ u).setCell ⟨g, 1, none⟩ v).setCell ⟨g, 2, none⟩ x).setCell ⟨g, 3, none⟩ y) g t [u, v, x, y] := (((h.set_ 0 u).set_ 1 v).set_ 2 x).set_ 3 y
theorem Below.set4' {B : Nat} {w w' : World} (h : Below B w w') {g : Nat} (hg : B <= g) (u v x y : Value) :
  Below B w ((((w'.setCell ⟨g, 0, none⟩ u).setCell ⟨g, 1, none⟩ v).setCell ⟨g, 2, none⟩ x).setCell ⟨g, 3, none⟩ y) := (((h.setCell hg u).setCell hg v).setCell hg x).setCell hg y
theorem textOf_any {S : Nat -> Prop} {a t x r n h s : Value} {C : Cor} (w : World) (q : CorC S w a t x r n h s C) (lo hi : Int) :
  Calls Tryz.prog 36 #[.agg #[a, t, x, r, n, h, s], .agg #[.int .i64 lo, .int .i64 hi]] w fun e w' => FoundT (C.texts.find? (inP lo hi)) e /\ Below w.heap.size w w' := by
 obtain ⟨A, c, rfl, h1, h2, -⟩ := EO.form q.x; obtain ⟨o_c, o_s, o_r, hbw⟩ := new3 w [a, t, .slice A C.texts.length c, r, n, h, s] [.int .i64 lo, .int .i64 hi] [.string ⟨#[]⟩, .int .i64 0, .int .i64 0, .slice none 0 0] 30 85 89; have q' := q.below hbw; have hw := hbw.size; have hs3 : (((w.alloc (.cells #[a, t, .slice A C.texts.length c, r, n, h, s] 30)).alloc (.cells #[.int .i64 lo, .int .i64 hi] 85)).alloc (.cells #[.string ⟨#[]⟩, .int .i64 0, .int .i64 0, .slice none 0 0] 89)).heap.size = w.heap.size + 1 + 1 + 1 := by simp
 go_enter Tryz.func36, Tryz.ntmps36
 go_upto_region 1 with (fail)
 generalize (((w.alloc (.cells #[a, t, .slice A C.texts.length c, r, n, h, s] 30)).alloc (.cells #[.int .i64 lo, .int .i64 hi] 85)).alloc (.cells #[.string ⟨#[]⟩, .int .i64 0, .int .i64 0, .slice none 0 0] 89)) = wb at o_c o_s o_r hbw q' hw hs3 |-; obtain ⟨B, hB⟩ : ∃ B, B = w.heap.size := ⟨_, rfl⟩; rw [<- hB] at o_c o_s o_r hs3 hw hbw |-; have HB := Z' hB; clear hB; have qc := o_c.c2; unfold maxLen at h2; clear q o_c
 go_wp2_with fail
 clear qc
 go_loopg [11] (C.texts.length + 1) (fun q v wr => ∃ j : Nat, q = C.texts.length + 1 - j /\ j <= C.texts.length /\ v = .int .i64 (j : Int) /\ Hid (C.texts.find? (inP lo hi) = (C.texts.drop j).find? (inP lo hi)) /\ Below wb.heap.size wb wr)
 case atStart => exact ⟨0, rfl, Nat.zero_le _, rfl, rfl, Below.refl _ _⟩
 case round =>
  obtain ⟨j, rfl, hj, rfl, HF, hbr⟩ := hrel; have o_s' := o_s.below hbr (by omega); have o_r' := o_r.below hbr (by omega); have hbB : Below B w wr := hbw.trans (hbr.mono hw); have hwr := hbr.size
  by_cases hlt : j < C.texts.length
  ·have q9 := q'.below hbr; obtain ⟨b, off, m, rfl, -, c0, c1, c2, c3, hm, -, z1, z2⟩ := SpnsO.get q9.x hlt; obtain ⟨Am, cm, rfl, -, -, -⟩ := EO.form hm; generalize C.texts[j].keys.length = nm9 at c3; clear hm; obtain ⟨tx, htx⟩ : ∃ tx, tx = C.texts[j] := ⟨_, rfl⟩; rw [<- htx] at c0 c1 c2 z1 z2; have HT := Z' htx; obtain ⟨nm, l0, h0, ks⟩ := tx; clear htx q9
   dsimp only at c0 c1 c2 z1 z2
   unfold I64 at z1 z2; obtain ⟨o_t, hbt⟩ := new1 wr [.string nm, .int .i64 l0, .int .i64 h0, .slice Am nm9 cm] 89; have hbB2 := belowB hbB (by omega) hbt; have o_s2 := o_s'.below hbt (by omega); have o_r2 := o_r'.below hbt (by omega); have hbr2 := belowB hbr (by omega) hbt; have hgt := o_t.lt
   go_upto_region 4 with (fail)
   generalize (wr.alloc (.cells #[.string nm, .int .i64 l0, .int .i64 h0, .slice Am nm9 cm] 89)) = wt at o_t hbB2 o_s2 o_r2 hbr2 hgt |-; clear c0 c1 c2 c3 o_s' o_r' hbB hbr hbt; generalize wr.heap.size = g at o_t hgt hwr |-; obtain ⟨t0, t1, t2, t3⟩ := o_t.cells4; have s0 := o_s2.c0; have s1 := o_s2.c1
   rcases (show (0 <= l0 /\ l0 <= lo /\ lo < hi /\ hi <= h0) \/ l0 < 0 \/ (0 <= l0 /\ lo < l0) \/ (0 <= l0 /\ l0 <= lo /\ hi <= lo) \/ (0 <= l0 /\ l0 <= lo /\ lo < hi /\ h0 < hi) by omega) with hc | hc | hc | hc | hc
   ·have HQ : Hid (inP lo hi ⟨nm, l0, h0, ks⟩ = true) := by show _ = true; simp [inP]; omega
    have d1 : decide (0 <= l0) = true := decide_eq_true hc.1; have d2 : decide (l0 <= lo) = true := decide_eq_true hc.2.1; have d3 : decide (lo < hi) = true := decide_eq_true hc.2.2.1; have d4 : decide (hi <= h0) = true := decide_eq_true hc.2.2.2; clear hc; obtain ⟨r0, r1, r2, r3⟩ := o_r2.cells4; obtain ⟨f0, f1, f2, f3⟩ := o_r2.frozens4; have oz := o_r2.set4' (.string nm) (.int .i64 l0) (.int .i64 h0) (.slice Am nm9 cm); have hbz := Below.set4' hbB2 (g := B + 1 + 1) (by omega) (.string nm) (.int .i64 l0) (.int .i64 h0) (.slice Am nm9 cm); clear o_s2 o_t o_r2
    go_wp2_with fail
    clear r0 r1 r2 r3 f0 f1 f2 f3 s0 s1 t0 t1 t2 t3; generalize ((((wt.setCell ⟨B + 1 + 1, 0, none⟩ (.string nm)).setCell ⟨B + 1 + 1, 1, none⟩ (.int .i64 l0)).setCell ⟨B + 1 + 1, 2, none⟩ (.int .i64 h0)).setCell ⟨B + 1 + 1, 3, none⟩ (.slice Am nm9 cm)) = wz at oz hbz |-; obtain ⟨z0, z1, z2, z3⟩ := oz.cells4; exact bodyPost_ret (v := .tuple #[.agg #[.string nm, .int .i64 l0, .int .i64 h0, .slice Am nm9 cm], .bool true]) (by simp [results, Tryz.results36, go_sem, z0, z1, z2, z3]) rfl ⟨by rw [find_here hlt HF.out (by rw [<- HT.out]; exact HQ.out), <- HT.out]; exact ⟨_, _, _, rfl⟩, HB.out ▸ hbz⟩
   all_goals
    have HQ : Hid (inP lo hi ⟨nm, l0, h0, ks⟩ = false) := by show _ = false; simp [inP]; omega
    clear o_s2 o_t
    go_wp2
    go_roundg (C.texts.length + 1 - (j + 1))
    case measure => omega
    case rel => exact ⟨j + 1, rfl, by omega, by go_num, find_next hlt HF.out (by rw [<- HT.out]; exact HQ.out), hbr2⟩
  ·have r0 : wr.cell? ⟨B + 1 + 1, 0, none⟩ = some (.string ⟨#[]⟩) := o_r'.cell 0; have r1 : wr.cell? ⟨B + 1 + 1, 1, none⟩ = some (.int .i64 0) := o_r'.cell 1; have r2 : wr.cell? ⟨B + 1 + 1, 2, none⟩ = some (.int .i64 0) := o_r'.cell 2; have r3 : wr.cell? ⟨B + 1 + 1, 3, none⟩ = some (.slice none 0 0) := o_r'.cell 3; have f0 := o_r'.frozen 0; have f1 := o_r'.frozen 1; have f2 := o_r'.frozen 2; have f3 := o_r'.frozen 3; have oz := o_r'.set4' (.string ⟨#[]⟩) (.int .i64 0) (.int .i64 0) (.slice none 0 0); have hbz := Below.set4' hbB (g := B + 1 + 1) (by omega) (.string ⟨#[]⟩) (.int .i64 0) (.int .i64 0) (.slice none 0 0); clear o_s' o_r'
   go_wp2_with fail
   clear r0 r1 r2 r3 f0 f1 f2 f3; generalize ((((wr.setCell ⟨B + 1 + 1, 0, none⟩ (.string ⟨#[]⟩)).setCell ⟨B + 1 + 1, 1, none⟩ (.int .i64 0)).setCell ⟨B + 1 + 1, 2, none⟩ (.int .i64 0)).setCell ⟨B + 1 + 1, 3, none⟩ (.slice none 0 0)) = wz at oz hbz |-; obtain ⟨z0, z1, z2, z3⟩ := oz.cells4; exact bodyPost_ret (v := .tuple #[.agg #[.string ⟨#[]⟩, .int .i64 0, .int .i64 0, .slice none 0 0], .bool false]) (by simp [results, Tryz.results36, go_sem, z0, z1, z2, z3]) rfl ⟨by rw [find_end (by omega) HF.out]; rfl, HB.out ▸ hbz⟩
end Go.Proofs.YtjimfbmegmnocaaGreatDoor
