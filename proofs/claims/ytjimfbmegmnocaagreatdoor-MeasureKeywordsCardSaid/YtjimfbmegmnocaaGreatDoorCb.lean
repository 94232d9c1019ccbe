/- Parts of the proof: Ca, Cb. No condition of its own. -/
import Derived.Test.YtjimfbmegmnocaaGreatDoorCo
import Derived.Test.YtjimfbmegmnocaaGreatDoorShelf
import Derived.IntWalk
import Derived.Deep.LoopGhost
import Derived.Deep.DeepCutAuto
import Derived.Deep.CutBlock
import Derived.Deep.QuietTactic
import Derived.BigQuiet
import Derived.Maps.AppendAt
set_option linter.unusedSimpArgs false
set_option linter.unusedVariables false
set_option maxRecDepth 100000
set_option maxHeartbeats 4000000
namespace Go.Proofs.YtjimfbmegmnocaaGreatDoor
open Go.RowKit

theorem belowB {B : Nat} {w w' w'' : World} (h : Below B w w') (hB : B <= w'.heap.size) (h2 : Below w'.heap.size w' w'') : Below B w w'' := h.trans (h2.mono hB)
theorem value_any {S : Nat -> Prop} {a t x r n h s : Value} {C : Cor} (w : World) (q : CorC S w a t x r n h s C) (i k : Nat) (hi : i < C.toks.length) (hk : k < C.toks[i].length) :
  Calls Tryz.prog 53 #[.agg #[a, t, x, r, n, h, s], .int .i64 (i : Int), .int .i64 (k : Int)] w fun e w' => e = .returned (.string (C.toks[i][k])) /\ Below w.heap.size w w' := by
 obtain ⟨A, c, rfl, h1, h2, -⟩ := EO.form q.t; obtain ⟨o_c, hbw⟩ := new1 w [a, .slice A C.toks.length c, x, r, n, h, s] 30; have q' := q.below hbw
 go_enter Tryz.func53, Tryz.ntmps53
 go_upto_region 1 with (fail)
 generalize (w.alloc (.cells #[a, .slice A C.toks.length c, x, r, n, h, s] 30)) = wb at o_c hbw q' |-; obtain ⟨b, off, v, rfl, -, cr, hv⟩ := RowsO.get q'.t hi; obtain ⟨A2, c2, rfl, h3, h4, hv⟩ := EO.form hv; obtain ⟨b2, off2, rfl, -, cs, -⟩ := StrsO.get hv hk; have qc := o_c.c1; unfold maxLen at h2 h4; clear q q' hv o_c; have d1 : decide (C.toks.length <= i) = false := decide_eq_false (by omega); have d2 : decide (C.toks[i].length <= k) = false := decide_eq_false (by omega); obtain ⟨res, hres⟩ : ∃ r, r = C.toks[i][k] := ⟨_, rfl⟩; rw [<- hres] at cs; have HR := Lib.hid hres; clear hres
 go_wp2
 go_ret
 exact ⟨by rw [<- HR.out]; rfl, hbw⟩

def inP (a b : Int) (t : Spn) : Bool := decide (0 <= t.lo) && (decide (t.lo <= a) && (decide (a < b) && decide (b <= t.hi)))
def atP (a : Int) (t : Spn) : Bool := decide (t.lo <= a) && decide (a < t.hi)
open Go.RowKit

def placeI (o : Option Nat) : Int := match o with | some i => (i : Int) | none => -1
theorem fidx_next {α : Type} {l : List α} {p : α -> Bool} {j : Nat} (hj : j < l.length) (h : ∀ i (hi : i < l.length), i < j -> p l[i] = false) (hp : p l[j] = false) : ∀ i (hi : i < l.length), i < j + 1 -> p l[i] = false := by
 intro i hi h1
 by_cases e : i = j
 ·subst e; exact hp
 ·exact h i hi (by omega)
theorem fidx_here {α : Type} {l : List α} {p : α -> Bool} {j : Nat} (hj : j < l.length) (h : ∀ i (hi : i < l.length), i < j -> p l[i] = false) (hp : p l[j] = true) : l.findIdx? p = some j := by
 rw [List.findIdx?_eq_some_iff_getElem]; exact ⟨hj, hp, fun i hi => by rw [h i (by omega) hi]; decide⟩
theorem fidx_end {α : Type} {l : List α} {p : α -> Bool} {j : Nat} (hj : l.length <= j) (h : ∀ i (hi : i < l.length), i < j -> p l[i] = false) : l.findIdx? p = none := by
 rw [List.findIdx?_eq_none_iff]; intro x hx; obtain ⟨i, hi, rfl⟩ := List.mem_iff_getElem.1 hx; exact h i hi (by omega)
theorem textAt6_any {S : Nat -> Prop} {a t x r n h s : Value} {C : Cor} (w : World) (q : CorC S w a t x r n h s C) (k : Int) :
  Calls Tryz.prog 110 #[.agg #[a, t, x, r, n, h, s], .int .i64 k] w fun e w' => e = .returned (.int .i64 (placeI (C.texts.findIdx? (atP k)))) /\ Below w.heap.size w w' := by
 obtain ⟨A, c, rfl, h1, h2, -⟩ := EO.form q.x; obtain ⟨o_c, hbw⟩ := new1 w [a, t, .slice A C.texts.length c, r, n, h, s] 30; have q' := q.below hbw; have hsz : (w.alloc (.cells #[a, t, .slice A C.texts.length c, r, n, h, s] 30)).heap.size = w.heap.size + 1 := by simp
 go_enter Tryz.func110, Tryz.ntmps110
 go_upto_region 1 with (fail)
 generalize (w.alloc (.cells #[a, t, .slice A C.texts.length c, r, n, h, s] 30)) = wb at o_c hbw hsz q' |-; obtain ⟨B, hB⟩ : ∃ B, B = w.heap.size := ⟨_, rfl⟩; rw [<- hB] at o_c hsz hbw |-; have HB := Lib.hid hB; clear hB; have qc := o_c.c2; unfold maxLen at h2; clear q o_c
 go_wp2_with fail
 clear qc
 go_loopg [10] (C.texts.length + 1) (fun q v wr => ∃ j : Nat, q = C.texts.length + 1 - j /\ j <= C.texts.length /\ v = .int .i64 (j : Int) /\ Hid (∀ i (hi : i < C.texts.length), i < j -> atP k C.texts[i] = false) /\ Below wb.heap.size wb wr)
 case atStart => exact ⟨0, rfl, Nat.zero_le _, rfl, (fun _ _ h => absurd h (Nat.not_lt_zero _)), Below.refl _ _⟩
 case round =>
  obtain ⟨j, rfl, hj, rfl, HF, hbr⟩ := hrel; have hbB : Below B w wr := hbw.trans (hbr.mono (by omega)); have hwr := hbr.size
  by_cases hlt : j < C.texts.length
  ·have q9 := q'.below hbr; obtain ⟨b, off, m, rfl, -, c0, c1, c2, c3, hm, -, z1, z2⟩ := SpnsO.get q9.x hlt; obtain ⟨Am, cm, rfl, -, -, -⟩ := EO.form hm; generalize C.texts[j].keys.length = nm9 at c3; clear hm; obtain ⟨tx, htx⟩ : ∃ tx, tx = C.texts[j] := ⟨_, rfl⟩; rw [<- htx] at c0 c1 c2 z1 z2; have HT := Lib.hid htx; obtain ⟨nm, l0, h0, ks⟩ := tx; clear htx q9
   dsimp only at c0 c1 c2 z1 z2
   unfold I64 at z1 z2; obtain ⟨o_t, hbt⟩ := new1 wr [.string nm, .int .i64 l0, .int .i64 h0, .slice Am nm9 cm] 89; have hbB2 := belowB hbB (by omega) hbt; have hbr2 := belowB hbr (by omega) hbt; have hgt := o_t.lt
   go_upto_region 4 with (fail)
   generalize (wr.alloc (.cells #[.string nm, .int .i64 l0, .int .i64 h0, .slice Am nm9 cm] 89)) = wt at o_t hbB2  hbr2 hgt |-; clear c0 c1 c2 c3 hbB hbr hbt ; generalize wr.heap.size = g at o_t hgt hwr |-; obtain ⟨t0, t1, t2, t3⟩ := o_t.cells4
   rcases (show (l0 <= k /\ k < h0) \/ (k < l0) \/ (l0 <= k /\ h0 <= k) by omega) with hc | hc | hc
   ·skip
    have HQ : Hid (atP k ⟨nm, l0, h0, ks⟩ = true) := by show _ = true; simp [atP]; omega
    clear o_t 
    go_wp2
    go_ret
    exact ⟨by rw [fidx_here hlt HF.out (by rw [<- HT.out]; exact HQ.out)]; rfl, HB.out ▸ hbB2⟩
   ·skip
    have HQ : Hid (atP k ⟨nm, l0, h0, ks⟩ = false) := by show _ = false; simp [atP]; omega
    clear o_t 
    go_wp2
    go_roundg (C.texts.length + 1 - (j + 1))
    case measure => omega
    case rel => exact ⟨j + 1, rfl, by omega, by go_num, fidx_next hlt HF.out (by rw [<- HT.out]; exact HQ.out), hbr2⟩
   ·skip
    have HQ : Hid (atP k ⟨nm, l0, h0, ks⟩ = false) := by show _ = false; simp [atP]; omega
    clear o_t 
    go_wp2
    go_roundg (C.texts.length + 1 - (j + 1))
    case measure => omega
    case rel => exact ⟨j + 1, rfl, by omega, by go_num, fidx_next hlt HF.out (by rw [<- HT.out]; exact HQ.out), hbr2⟩
  ·skip
   go_wp2
   go_ret
   exact ⟨by rw [fidx_end (by omega) HF.out]; rfl, HB.out ▸ hbB⟩
def wiP (a b : Int) (t : Spn) : Bool := decide (t.lo <= a) && (decide (a < b) && decide (b <= t.hi))
theorem any_here {l : List Spn} {p : Spn -> Bool} {j : Nat} (hj : j < l.length) (hp : p l[j] = true) : l.any p = true := List.any_eq_true.2 ⟨_, List.getElem_mem hj, hp⟩
theorem any_end {l : List Spn} {p : Spn -> Bool} {j : Nat} (hj : l.length <= j) (h : ∀ i (hi : i < l.length), i < j -> p l[i] = false) : l.any p = false := by
 rw [List.any_eq_false]; intro x hx; obtain ⟨i, hi, rfl⟩ := List.mem_iff_getElem.1 hx; rw [h i hi (by omega)]; decide
theorem within_any {S : Nat -> Prop} {a t x r n h s : Value} {C : Cor} (w : World) (q : CorC S w a t x r n h s C) (k m : Int) :
  Calls Tryz.prog 108 #[.agg #[a, t, x, r, n, h, s], .int .i64 k, .int .i64 m] w fun e w' => e = .returned (.bool (C.texts.any (wiP k m))) /\ Below w.heap.size w w' := by
 obtain ⟨A, c, rfl, h1, h2, -⟩ := EO.form q.x; obtain ⟨o_c, hbw⟩ := new1 w [a, t, .slice A C.texts.length c, r, n, h, s] 30; have q' := q.below hbw; have hsz : (w.alloc (.cells #[a, t, .slice A C.texts.length c, r, n, h, s] 30)).heap.size = w.heap.size + 1 := by simp
 go_enter Tryz.func108, Tryz.ntmps108
 go_upto_region 1 with (fail)
 generalize (w.alloc (.cells #[a, t, .slice A C.texts.length c, r, n, h, s] 30)) = wb at o_c hbw hsz q' |-; obtain ⟨B, hB⟩ : ∃ B, B = w.heap.size := ⟨_, rfl⟩; rw [<- hB] at o_c hsz hbw |-; have HB := Lib.hid hB; clear hB; have qc := o_c.c2; unfold maxLen at h2; clear q o_c
 go_wp2_with fail
 clear qc
 go_loopg [12] (C.texts.length + 1) (fun q v wr => ∃ j : Nat, q = C.texts.length + 1 - j /\ j <= C.texts.length /\ v = .int .i64 (j : Int) /\ Hid (∀ i (hi : i < C.texts.length), i < j -> wiP k m C.texts[i] = false) /\ Below wb.heap.size wb wr)
 case atStart => exact ⟨0, rfl, Nat.zero_le _, rfl, (fun _ _ h => absurd h (Nat.not_lt_zero _)), Below.refl _ _⟩
 case round =>
  obtain ⟨j, rfl, hj, rfl, HF, hbr⟩ := hrel; have hbB : Below B w wr := hbw.trans (hbr.mono (by omega)); have hwr := hbr.size
  by_cases hlt : j < C.texts.length
  ·have q9 := q'.below hbr; obtain ⟨b, off, m, rfl, -, c0, c1, c2, c3, hm, -, z1, z2⟩ := SpnsO.get q9.x hlt; obtain ⟨Am, cm, rfl, -, -, -⟩ := EO.form hm; generalize C.texts[j].keys.length = nm9 at c3; clear hm; obtain ⟨tx, htx⟩ : ∃ tx, tx = C.texts[j] := ⟨_, rfl⟩; rw [<- htx] at c0 c1 c2 z1 z2; have HT := Lib.hid htx; obtain ⟨nm, l0, h0, ks⟩ := tx; clear htx q9
   dsimp only at c0 c1 c2 z1 z2
   unfold I64 at z1 z2; obtain ⟨o_t, hbt⟩ := new1 wr [.string nm, .int .i64 l0, .int .i64 h0, .slice Am nm9 cm] 89; have hbB2 := belowB hbB (by omega) hbt; have hbr2 := belowB hbr (by omega) hbt; have hgt := o_t.lt
   go_upto_region 4 with (fail)
   generalize (wr.alloc (.cells #[.string nm, .int .i64 l0, .int .i64 h0, .slice Am nm9 cm] 89)) = wt at o_t hbB2  hbr2 hgt |-; clear c0 c1 c2 c3 hbB hbr hbt ; generalize wr.heap.size = g at o_t hgt hwr |-; obtain ⟨t0, t1, t2, t3⟩ := o_t.cells4
   rcases (show (l0 <= k /\ k < m /\ m <= h0) \/ (k < l0) \/ (l0 <= k /\ m <= k) \/ (l0 <= k /\ k < m /\ h0 < m) by omega) with hc | hc | hc | hc
   ·skip
    have HQ : Hid (wiP k m ⟨nm, l0, h0, ks⟩ = true) := by show _ = true; simp [wiP]; omega
    clear o_t 
    go_wp2
    go_ret
    exact ⟨by rw [any_here hlt (by rw [<- HT.out]; exact HQ.out)]; rfl, HB.out ▸ hbB2⟩
   ·skip
    have HQ : Hid (wiP k m ⟨nm, l0, h0, ks⟩ = false) := by show _ = false; simp [wiP]; omega
    clear o_t 
    go_wp2
    go_roundg (C.texts.length + 1 - (j + 1))
    case measure => omega
    case rel => exact ⟨j + 1, rfl, by omega, by go_num, fidx_next hlt HF.out (by rw [<- HT.out]; exact HQ.out), hbr2⟩
   ·skip
    have HQ : Hid (wiP k m ⟨nm, l0, h0, ks⟩ = false) := by show _ = false; simp [wiP]; omega
    clear o_t 
    go_wp2
    go_roundg (C.texts.length + 1 - (j + 1))
    case measure => omega
    case rel => exact ⟨j + 1, rfl, by omega, by go_num, fidx_next hlt HF.out (by rw [<- HT.out]; exact HQ.out), hbr2⟩
   ·skip
    have HQ : Hid (wiP k m ⟨nm, l0, h0, ks⟩ = false) := by show _ = false; simp [wiP]; omega
    clear o_t 
    go_wp2
    go_roundg (C.texts.length + 1 - (j + 1))
    case measure => omega
    case rel => exact ⟨j + 1, rfl, by omega, by go_num, fidx_next hlt HF.out (by rw [<- HT.out]; exact HQ.out), hbr2⟩
  ·skip
   go_wp2
   go_ret
   exact ⟨by rw [any_end (by omega) HF.out]; rfl, HB.out ▸ hbB⟩
def nmP (s : ByteArray) (t : Spn) : Bool := decide (t.name = s)
theorem str_beq {s t : ByteArray} : (s.toList == t.toList) = decide (s = t) := by
 rw [ByteArray.toList_eq, ByteArray.toList_eq, Bool.eq_iff_iff, beq_iff_eq, decide_eq_true_iff]
 constructor
 ·intro h; obtain ⟨⟨l⟩⟩ := s; obtain ⟨⟨m⟩⟩ := t
  simp at h
  rw [h]
 ·intro h; rw [h]
theorem findText6_any {S : Nat -> Prop} {a t x r n h s : Value} {C : Cor} (w : World) (q : CorC S w a t x r n h s C) (z : ByteArray) :
  Calls Tryz.prog 51 #[.agg #[a, t, x, r, n, h, s], .string z] w fun e w' => e = .returned (.int .i64 (placeI (C.texts.findIdx? (nmP z)))) /\ Below w.heap.size w w' := by
 obtain ⟨A, c, rfl, h1, h2, -⟩ := EO.form q.x; obtain ⟨o_c, hbw⟩ := new1 w [a, t, .slice A C.texts.length c, r, n, h, s] 30; have q' := q.below hbw; have hsz : (w.alloc (.cells #[a, t, .slice A C.texts.length c, r, n, h, s] 30)).heap.size = w.heap.size + 1 := by simp
 go_enter Tryz.func51, Tryz.ntmps51
 go_upto_region 1 with (fail)
 generalize (w.alloc (.cells #[a, t, .slice A C.texts.length c, r, n, h, s] 30)) = wb at o_c hbw hsz q' |-; obtain ⟨B, hB⟩ : ∃ B, B = w.heap.size := ⟨_, rfl⟩; rw [<- hB] at o_c hsz hbw |-; have HB := Lib.hid hB; clear hB; have qc := o_c.c2; unfold maxLen at h2; clear q o_c
 go_wp2_with fail
 clear qc
 go_loopg [10] (C.texts.length + 1) (fun q v wr => ∃ j : Nat, q = C.texts.length + 1 - j /\ j <= C.texts.length /\ v = .int .i64 (j : Int) /\ Hid (∀ i (hi : i < C.texts.length), i < j -> nmP z C.texts[i] = false) /\ Below wb.heap.size wb wr)
 case atStart => exact ⟨0, rfl, Nat.zero_le _, rfl, (fun _ _ h => absurd h (Nat.not_lt_zero _)), Below.refl _ _⟩
 case round =>
  obtain ⟨j, rfl, hj, rfl, HF, hbr⟩ := hrel; have hbB : Below B w wr := hbw.trans (hbr.mono (by omega)); have hwr := hbr.size
  by_cases hlt : j < C.texts.length
  ·have q9 := q'.below hbr; obtain ⟨b, off, m, rfl, -, c0, c1, c2, c3, hm, -, z1, z2⟩ := SpnsO.get q9.x hlt; obtain ⟨Am, cm, rfl, -, -, -⟩ := EO.form hm; generalize C.texts[j].keys.length = nm9 at c3; clear hm; obtain ⟨tx, htx⟩ : ∃ tx, tx = C.texts[j] := ⟨_, rfl⟩; rw [<- htx] at c0 c1 c2 z1 z2; have HT := Lib.hid htx; obtain ⟨nm, l0, h0, ks⟩ := tx; clear htx q9
   dsimp only at c0 c1 c2 z1 z2
   unfold I64 at z1 z2; obtain ⟨o_t, hbt⟩ := new1 wr [.string nm, .int .i64 l0, .int .i64 h0, .slice Am nm9 cm] 89; have hbB2 := belowB hbB (by omega) hbt; have hbr2 := belowB hbr (by omega) hbt; have hgt := o_t.lt
   go_upto_region 4 with (fail)
   generalize (wr.alloc (.cells #[.string nm, .int .i64 l0, .int .i64 h0, .slice Am nm9 cm] 89)) = wt at o_t hbB2  hbr2 hgt |-; clear c0 c1 c2 c3 hbB hbr hbt ; generalize wr.heap.size = g at o_t hgt hwr |-; obtain ⟨t0, t1, t2, t3⟩ := o_t.cells4
   rcases Decidable.em (nm = z) with hc | hc
   ·skip
    have HQ : Hid (nmP z ⟨nm, l0, h0, ks⟩ = true) := by show _ = true; simp [nmP, hc]
    have d1 : (nm.toList == z.toList) = true := by rw [str_beq]; exact decide_eq_true hc
    clear hc; clear o_t 
    go_wp2
    go_ret
    exact ⟨by rw [fidx_here hlt HF.out (by rw [<- HT.out]; exact HQ.out)]; rfl, HB.out ▸ hbB2⟩
   ·skip
    have HQ : Hid (nmP z ⟨nm, l0, h0, ks⟩ = false) := by show _ = false; simp [nmP, hc]
    have d1 : (nm.toList == z.toList) = false := by rw [str_beq]; exact decide_eq_false hc
    clear hc; clear o_t 
    go_wp2
    go_roundg (C.texts.length + 1 - (j + 1))
    case measure => omega
    case rel => exact ⟨j + 1, rfl, by omega, by go_num, fidx_next hlt HF.out (by rw [<- HT.out]; exact HQ.out), hbr2⟩
  ·skip
   go_wp2
   go_ret
   exact ⟨by rw [fidx_end (by omega) HF.out]; rfl, HB.out ▸ hbB⟩
end Go.Proofs.YtjimfbmegmnocaaGreatDoor
