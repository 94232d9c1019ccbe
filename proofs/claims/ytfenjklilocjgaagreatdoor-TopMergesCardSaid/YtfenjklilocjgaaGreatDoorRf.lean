/- Parts of the proof: Nw, Na, Nb, Nd0, Ns, Np, Nt, Nu, Nv, Nk, Nm, Rw, Rd, Rf. No condition of its own. -/
import Derived.Test.YtfenjklilocjgaaGreatDoorProg
import Derived.Test.YtfenjklilocjgaaGreatDoorReg
import Derived.Test.YtfenjklilocjgaaGreatDoorDg
import Derived.IntWalk
import Derived.Deep.LoopGhost
import Derived.Deep.DeepCutAuto
import Derived.Deep.CutBlock
import Derived.Maps.AppendAt
import Derived.Test.YtfenjklilocjgaaGreatDoorShelf
import Derived.Laws.BitsAllLaws
import Derived.Laws.ShiftsVarLaws
import Derived.Laws.CopyOwn
import Derived.Deep.AppendLies
import Derived.Laws.OwnMore
import Derived.Laws.IdiomStrings
set_option linter.unusedSimpArgs false
set_option linter.unusedVariables false
set_option linter.unusedSectionVars false
namespace Go.Proofs.YtfenjklilocjgaaGreatDoor
set_option linter.unusedSimpArgs false
set_option linter.unusedVariables false
set_option linter.unusedSectionVars false
open Go.RowKit

/-- Words as cells. -/
abbrev cw (l : List Nat) : List Value := l.map fun (x : Nat) => Value.int .u32 (x : Int)
def Wds (w : World) (A : Option Addr) (l : List Nat) : Prop := Rd w A (cw l)
theorem Wds.get {w : World} {A : Option Addr} {l : List Nat} (h : Wds w A l) {k : Nat} (hk : k < l.length) :
    ∃ b off, A = some ⟨b, off, none⟩ ∧ w.cell? ⟨b, off + k, none⟩ = some (.int .u32 (l[k] : Int)) := by
  obtain ⟨b, off, e, hc⟩ := Rd.get h (k := k) (by simpa using hk)
  exact ⟨b, off, e, by simpa using hc⟩
theorem Wds.below {w w' : World} {A : Option Addr} {l : List Nat} (h : Wds w A l) (hb : Below w.heap.size w w') : Wds w' A l := Rd.below h hb
theorem Wds.take {w : World} {A : Option Addr} {l : List Nat} (h : Wds w A l) (n : Nat) : Wds w A (l.take n) := by
  have := Rd.take h n
  unfold Wds cw
  rw [List.map_take]; exact this
/-- The words of a number. -/
def dw (n : Nat) : List Nat := Dg.dg 4294967296 n
theorem b32 : 2 ≤ 4294967296 := by decide
/-- A slice value that reads as a number. -/
def NatV (w : World) (v : Value) (n : Nat) : Prop := ∃ A c, v = .slice A (dw n).length c ∧ (dw n).length ≤ c ∧ c ≤ maxLen ∧ Wds w A (dw n)
theorem NatV.below {w w' : World} {v : Value} {n : Nat} (h : NatV w v n) (hb : Below w.heap.size w w') : NatV w' v n := by
  obtain ⟨A, c, rfl, h1, h2, h3⟩ := h
  exact ⟨A, c, rfl, h1, h2, h3.below hb⟩
theorem NatV.zero (w : World) : NatV w (.slice none 0 0) 0 := ⟨none, 0, rfl, Nat.le_refl _, by unfold maxLen; omega, Rd.nil _ _⟩
set_option linter.unusedSimpArgs false
set_option linter.unusedVariables false
set_option linter.unusedSectionVars false
open Go.RowKit

/-- The words from j on are zeros. -/
def Zer (O : List Nat) (j : Nat) : Prop := ∀ i (h : i < O.length), j ≤ i → O[i] = 0
theorem Zer.set {O : List Nat} {j i x : Nat} (h : Zer O j) (hi : i < j) : Zer (O.set i x) j := by
  intro k hk hjk
  rw [List.getElem_set_ne (by omega)]
  exact h k (by simpa using hk) hjk
theorem Zer.mono {O : List Nat} {i j : Nat} (h : Zer O i) (hij : i ≤ j) : Zer O j := fun k hk hjk => h k hk (by omega)

set_option linter.unusedSimpArgs false
set_option linter.unusedVariables false
set_option linter.unusedSectionVars false
open Go.RowKit

set_option linter.unusedSimpArgs false
set_option linter.unusedVariables false
set_option linter.unusedSectionVars false
open Go.RowKit

/-- Words in no block of S. -/
def WdsOut (S : Nat → Prop) (w : World) (A : Option Addr) (l : List Nat) : Prop := RdOut S w A (cw l)
theorem WdsOut.get {S : Nat → Prop} {w : World} {A : Option Addr} {l : List Nat} (h : WdsOut S w A l) {k : Nat} (hk : k < l.length) :
    ∃ b off, A = some ⟨b, off, none⟩ ∧ ¬ S b ∧ w.cell? ⟨b, off + k, none⟩ = some (.int .u32 (l[k] : Int)) := by
  obtain ⟨b, off, e, hs, hc⟩ := h k (.int .u32 (l[k] : Int)) (by simp [cw, hk])
  exact ⟨b, off, e, hs, hc⟩
theorem WdsOut.chg {S : Nat → Prop} {w w' : World} {A : Option Addr} {l : List Nat} (h : WdsOut S w A l) (hc : Chg S w w') : WdsOut S w' A l := RdOut.chg h hc
/-- The window's words have been changed up to i. -/
structure Win (O0 O : List Nat) (off i : Nat) : Prop where
  len : O.length = O0.length
  lo : O.take off = O0.take off
  hi : O.drop (off + i) = O0.drop (off + i)
theorem Win.refl (O : List Nat) (off i : Nat) : Win O O off i := ⟨rfl, rfl, rfl⟩
theorem Win.step {O0 O : List Nat} {off i x : Nat} (h : Win O0 O off i) : Win O0 (O.set (off + i) x) off (i + 1) := by
  refine ⟨by rw [List.length_set]; exact h.len, ?_, ?_⟩
  · rw [List.take_set_of_le (by omega)]; exact h.lo
  · rw [List.drop_set_of_lt (by omega)]
    have e : off + (i + 1) = 1 + (off + i) := by omega
    have h2 := congrArg (List.drop 1) h.hi
    rw [List.drop_drop, List.drop_drop] at h2
    rw [show off + (i + 1) = off + i + 1 by omega]
    exact h2
theorem Win.at_ {O0 O : List Nat} {off i : Nat} (h : Win O0 O off i) (hi : off + i < O.length) : O[off + i] = O0[off + i]'(by rw [← h.len]; exact hi) := by
  have h0 : off + i < O0.length := by rw [← h.len]; exact hi
  have := h.hi
  rw [List.drop_eq_getElem_cons hi, List.drop_eq_getElem_cons h0] at this
  exact (List.cons.inj this).1
set_option linter.unusedSimpArgs false
set_option linter.unusedVariables false
set_option linter.unusedSectionVars false
open Go.RowKit

set_option linter.unusedSimpArgs false
set_option linter.unusedVariables false
set_option linter.unusedSectionVars false
open Go.RowKit Dg

/-- What the main loop keeps in memory. -/
structure DivMem (w0 wr : World) (gu gq : Nat) (Av : Option Addr) (U Q V : List Nat) : Prop where
  u : Own wr gu 89 (cw U)
  q : Own wr gq 89 (cw Q)
  v : WdsOut (fun k => k = gu ∨ k = gq) wr Av V
  b : Below w0.heap.size w0 wr
  lu : w0.heap.size ≤ gu
  lq : w0.heap.size ≤ gq
  ne : gu ≠ gq
theorem DivMem.below {w0 wr w' : World} {gu gq : Nat} {Av : Option Addr} {U Q V : List Nat} (h : DivMem w0 wr gu gq Av U Q V) (hb : Below wr.heap.size wr w') : DivMem w0 w' gu gq Av U Q V :=
  ⟨h.u.below hb h.u.lt, h.q.below hb h.q.lt, h.v.chg (Chg.of_below hb fun k h1 h2 => by omega), h.b.trans (hb.mono h.b.size), h.lu, h.lq, h.ne⟩
theorem WdsOut.mono {S T : Nat → Prop} {w : World} {A : Option Addr} {l : List Nat} (h : WdsOut S w A l) (hST : ∀ k, T k → S k) : WdsOut T w A l := fun j u hu =>
  let ⟨b, off, e, hs, hc⟩ := h j u hu; ⟨b, off, e, fun ht => hs (hST b ht), hc⟩
theorem Wds.new {w : World} {A : Option Addr} {l : List Nat} (h : Wds w A l) : WdsOut (fun k => w.heap.size ≤ k) w A l := fun j u hu =>
  let ⟨b, off, e, hc⟩ := h j u hu; ⟨b, off, e, fun hle => absurd (World.block_lt_of_cell? w _ hc) (Nat.not_lt.2 hle), hc⟩
set_option linter.unusedSimpArgs false
set_option linter.unusedVariables false
set_option linter.unusedSectionVars false
open Go.RowKit Dg

/-- Digits as letters. -/
def asc (l : List Nat) : List UInt8 := l.map fun d => (48 + d).toUInt8
/-- A number's text. -/
def S (n : Nat) : ByteArray := ⟨(asc (dec n)).toArray⟩
theorem S_size (n : Nat) : (S n).size = (dec n).length := by
  show (asc (dec n)).toArray.size = _
  simp [asc]
set_option linter.unusedSimpArgs false
set_option linter.unusedVariables false
set_option linter.unusedSectionVars false
open Go.RowKit Dg

set_option linter.unusedSimpArgs false
set_option linter.unusedVariables false
set_option linter.unusedSectionVars false
open Go.RowKit Dg

/-- The letters after i exchanges. -/
def Rev (T O : List Nat) (i : Nat) : Prop := O.length = T.length ∧ ∀ j (h : j < T.length) (h2 : j < O.length), O[j] = if j < i ∨ T.length - 1 - i < j then T[T.length - 1 - j]'(by omega) else T[j]
theorem Rev.start (T : List Nat) : Rev T T 0 := ⟨rfl, fun j h h2 => by rw [if_neg (by omega)]⟩
theorem Rev.step {T O : List Nat} {i k : Nat} (h : Rev T O i) (hk : k = T.length - 1 - i) (hi : i < k) (h1 : i < O.length) (h2 : k < O.length) : Rev T ((O.set i O[k]).set k O[i]) (i + 1) := by
  obtain ⟨hl, hv⟩ := h
  refine ⟨by simp [hl], fun j hj hj2 => ?_⟩
  have hvi := hv i (by omega) h1
  have hvk := hv k (by omega) h2
  rw [if_neg (by omega)] at hvi hvk
  by_cases e1 : j = k
  · subst e1
    rw [List.getElem_set_self, hvi, if_pos (by omega)]
    congr 1; omega
  · rw [List.getElem_set_ne (by omega)]
    by_cases e2 : j = i
    · subst e2
      rw [List.getElem_set_self, hvk, if_pos (by omega)]
      congr 1
    · rw [List.getElem_set_ne (by omega), hv j hj (by omega)]
      by_cases e3 : j < i ∨ T.length - 1 - i < j
      · rw [if_pos e3, if_pos (by omega)]
      · rw [if_neg e3, if_neg (by omega)]
theorem Rev.done {T O : List Nat} {i : Nat} (h : Rev T O i) (hi : T.length ≤ 2 * i + 1) : O = T.reverse := by
  obtain ⟨hl, hv⟩ := h
  apply List.ext_getElem
  · simp [hl]
  · intro j h1 h2
    rw [hv j (by omega) h1, List.getElem_reverse]
    split
    · rfl
    · have : j = T.length - 1 - j := by omega
      congr 1
theorem own_below1 {w w' : World} {base size n : Nat} {e : TypeId} {v : Value} {xs : List Value} (h : w.ownsRow base e size v n xs) (hb : Below w.heap.size w w') : w'.ownsRow base e size v n xs :=
  h.kept (row := none) ⟨hb.os, hb.tape, hb.output, hb.size, fun i hi _ => hb.block i hi⟩ (by cases v.ownBlock <;> simp)
theorem byte_info : (Tryz.prog.info? 5).map (fun i => (i.zero, i.size, i.bytes)) = some (some (.int .u8 0), 1, 1) := by kernel_rfl

set_option linter.unusedSimpArgs false
set_option linter.unusedVariables false
set_option linter.unusedSectionVars false
open Go.RowKit Dg

/-- A number whose text is not too long. -/
def OkN (n : Nat) : Prop := (dec n).length ≤ 20000
theorem dw_dec (n : Nat) : (dw n).length ≤ (dec n).length := by
  refine dg_le b32 (Nat.lt_of_lt_of_le (dec_lt n) (Nat.pow_le_pow_left (by decide) _))
theorem OkN.dw {n : Nat} (h : OkN n) : (dw n).length ≤ 20000 := Nat.le_trans (dw_dec n) h
/-- What text returns. -/
def TextRes (n : Nat) (e : Ending) : Prop := (OkN n ∧ e = .returned (.tuple #[.string (S n), .int .i64 0])) ∨ (¬ OkN n ∧ e = .returned (.tuple #[.string ⟨#[]⟩, .int .i64 2]))
theorem TextRes.ok {n : Nat} {e : Ending} (h : TextRes n e) (hn : OkN n) : e = .returned (.tuple #[.string (S n), .int .i64 0]) := by
  rcases h with h | h
  · exact h.2
  · exact absurd hn h.1
set_option linter.unusedSimpArgs false
set_option linter.unusedVariables false
set_option linter.unusedSectionVars false
open Go.RowKit Dg

/-- A ratio as a value. -/
abbrev RatV (neg : Bool) (p q : Nat) : Value := .agg #[.bool neg, .string (S p), .string (S q)]
abbrev Rat0 : Value := .agg #[.bool false, .string ⟨#[]⟩, .string ⟨#[]⟩]
set_option linter.unusedSimpArgs false
set_option linter.unusedVariables false
set_option linter.unusedSectionVars false
open Go.RowKit Dg

set_option linter.unusedSimpArgs false
set_option linter.unusedVariables false
set_option linter.unusedSectionVars false
open Go.RowKit Dg

set_option linter.unusedSimpArgs false
set_option linter.unusedVariables false
set_option linter.unusedSectionVars false
open Go.RowKit

/-- Words as cells. -/
abbrev ck (l : List Nat) : List Value := l.map fun (x : Nat) => Value.int .i64 (x : Int)
def Kds (w : World) (A : Option Addr) (l : List Nat) : Prop := Rd w A (ck l)
theorem Kds.get {w : World} {A : Option Addr} {l : List Nat} (h : Kds w A l) {k : Nat} (hk : k < l.length) :
    ∃ b off, A = some ⟨b, off, none⟩ ∧ w.cell? ⟨b, off + k, none⟩ = some (.int .i64 (l[k] : Int)) := by
  obtain ⟨b, off, e, hc⟩ := Rd.get h (k := k) (by simpa using hk)
  exact ⟨b, off, e, by simpa using hc⟩
theorem Kds.below {w w' : World} {A : Option Addr} {l : List Nat} (h : Kds w A l) (hb : Below w.heap.size w w') : Kds w' A l := Rd.below h hb
theorem Kds.take {w : World} {A : Option Addr} {l : List Nat} (h : Kds w A l) (n : Nat) : Kds w A (l.take n) := by
  have := Rd.take h n
  unfold Kds ck
  rw [List.map_take]; exact this
/-- The words of a number. -/
def dk (n : Nat) : List Nat := Dg.dg 10000 n
theorem b10k : 2 ≤ 10000 := by decide
/-- A slice value that reads as a number. -/
def BigV (w : World) (v : Value) (n : Nat) : Prop := ∃ A c, v = .slice A (dk n).length c ∧ (dk n).length ≤ c ∧ c ≤ maxLen ∧ Kds w A (dk n)
theorem BigV.below {w w' : World} {v : Value} {n : Nat} (h : BigV w v n) (hb : Below w.heap.size w w') : BigV w' v n := by
  obtain ⟨A, c, rfl, h1, h2, h3⟩ := h
  exact ⟨A, c, rfl, h1, h2, h3.below hb⟩
theorem BigV.zero (w : World) : BigV w (.slice none 0 0) 0 := ⟨none, 0, rfl, Nat.le_refl _, by unfold maxLen; omega, Rd.nil _ _⟩
set_option linter.unusedSimpArgs false
set_option linter.unusedVariables false
set_option linter.unusedSectionVars false
open Go.RowKit

set_option linter.unusedSimpArgs false
set_option linter.unusedVariables false
set_option linter.unusedSectionVars false
open Go.RowKit

set_option linter.unusedSimpArgs false
set_option linter.unusedVariables false
set_option linter.unusedSectionVars false
open Go.RowKit Dg

set_option linter.unusedSimpArgs false
set_option linter.unusedVariables false
set_option linter.unusedSectionVars false
open Go.RowKit

theorem BigV.set {w : World} {v : Value} {n g i : Nat} {u : Value} (h : BigV w v n) (hn : v.ownBlock ≠ some g) : BigV (w.setCell ⟨g, i, none⟩ u) v n := by
  obtain ⟨A, c, rfl, h1, h2, h3⟩ := h
  refine ⟨A, c, rfl, h1, h2, ?_⟩
  intro j x hx
  obtain ⟨b, off, e, hc⟩ := h3 j x hx
  subst e
  refine ⟨b, off, rfl, ?_⟩
  have hbg : g ≠ b := fun e => hn (by subst e; rfl)
  unfold World.cell? at hc ⊢
  rw [Below.heap_setCell w ⟨g, i, none⟩ u b (fun e => hbg e.symm)]
  exact hc

set_option linter.unusedSimpArgs false
set_option linter.unusedVariables false
set_option linter.unusedSectionVars false
open Go.RowKit

set_option linter.unusedSimpArgs false
set_option linter.unusedVariables false
set_option linter.unusedSectionVars false
open Go.RowKit Dg

set_option linter.unusedSimpArgs false
set_option linter.unusedVariables false
set_option linter.unusedSectionVars false
open Go.RowKit Dg

set_option linter.unusedSimpArgs false
set_option linter.unusedVariables false
set_option linter.unusedSectionVars false
open Go.RowKit Dg

theorem dk_dec (n : Nat) : (dk n).length ≤ (dec n).length := by
  refine Dg.dg_le b10k (Nat.lt_of_lt_of_le (dec_lt n) (Nat.pow_le_pow_left (by decide) _))
theorem OkN.dk {n : Nat} (h : OkN n) : (dk n).length ≤ 20000 := Nat.le_trans (dk_dec n) h
end Go.Proofs.YtfenjklilocjgaaGreatDoor
