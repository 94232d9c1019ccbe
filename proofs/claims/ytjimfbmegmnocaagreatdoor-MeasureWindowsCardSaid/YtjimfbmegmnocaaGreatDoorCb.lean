/- Parts of the proof: Ca, Cb. No condition of its own. -/
import Derived.Test.YtjimfbmegmnocaaGreatDoorCo
import Derived.Test.YtjimfbmegmnocaaGreatDoorShelf
import Derived.IntWalk
import Derived.Deep.LoopGhost
import Derived.Deep.DeepCutAuto
import Derived.Deep.CutBlock
import Derived.Deep.QuietTactic
import Derived.BigQuiet
import Derived.Maps.AppendAt
set_option linter.unusedSimpArgs false
set_option linter.unusedVariables false
set_option maxRecDepth 100000
set_option maxHeartbeats 4000000
namespace Go.Proofs.YtjimfbmegmnocaaGreatDoor
open Go.RowKit

theorem belowB {B : Nat} {w w' w'' : World} (h : Below B w w') (hB : B <= w'.heap.size) (h2 : Below w'.heap.size w' w'') : Below B w w'' := h.trans (h2.mono hB)
theorem value_any {S : Nat -> Prop} {a t x r n h s : Value} {C : Cor} (w : World) (q : CorC S w a t x r n h s C) (i k : Nat) (hi : i < C.toks.length) (hk : k < C.toks[i].length) :
  Calls Tryz.prog 53 #[.agg #[a, t, x, r, n, h, s], .int .i64 (i : Int), .int .i64 (k : Int)] w fun e w' => e = .returned (.string (C.toks[i][k])) /\ Below w.heap.size w w' := by
 obtain ⟨A, c, rfl, h1, h2, -⟩ := EO.form q.t; obtain ⟨o_c, hbw⟩ := new1 w [a, .slice A C.toks.length c, x, r, n, h, s] 30; have q' := q.below hbw
 go_enter Tryz.func53, Tryz.ntmps53
 go_upto_region 1 with (fail)
 generalize (w.alloc (.cells #[a, .slice A C.toks.length c, x, r, n, h, s] 30)) = wb at o_c hbw q' |-; obtain ⟨b, off, v, rfl, -, cr, hv⟩ := RowsO.get q'.t hi; obtain ⟨A2, c2, rfl, h3, h4, hv⟩ := EO.form hv; obtain ⟨b2, off2, rfl, -, cs, -⟩ := StrsO.get hv hk; have qc := o_c.c1; unfold maxLen at h2 h4; clear q q' hv o_c; have d1 : decide (C.toks.length <= i) = false := decide_eq_false (by omega); have d2 : decide (C.toks[i].length <= k) = false := decide_eq_false (by omega); obtain ⟨res, hres⟩ : ∃ r, r = C.toks[i][k] := ⟨_, rfl⟩; rw [<- hres] at cs; have HR := Lib.hid hres; clear hres
 go_wp2
 go_ret
 exact ⟨by rw [<- HR.out]; rfl, hbw⟩

def inP (a b : Int) (t : Spn) : Bool := decide (0 <= t.lo) && (decide (t.lo <= a) && (decide (a < b) && decide (b <= t.hi)))
def atP (a : Int) (t : Spn) : Bool := decide (t.lo <= a) && decide (a < t.hi)
def FoundT (o : Option Spn) (e : Ending) : Prop := match o with
 | some t => ∃ A k c, e = .returned (.tuple #[.agg #[.string t.name, .int .i64 t.lo, .int .i64 t.hi, .slice A k c], .bool true])
 | none => e = .returned (.tuple #[.agg #[.string ⟨#[]⟩, .int .i64 0, .int .i64 0, .slice none 0 0], .bool false])
theorem find_next {l : List Spn} {p : Spn -> Bool} {j : Nat} (hj : j < l.length) (h : l.find? p = (l.drop j).find? p) (hp : p l[j] = false) : l.find? p = (l.drop (j + 1)).find? p := by
 rw [h, List.drop_eq_getElem_cons hj, List.find?_cons, hp]
theorem find_here {l : List Spn} {p : Spn -> Bool} {j : Nat} (hj : j < l.length) (h : l.find? p = (l.drop j).find? p) (hp : p l[j] = true) : l.find? p = some l[j] := by
 rw [h, List.drop_eq_getElem_cons hj, List.find?_cons, hp]
theorem find_end {l : List Spn} {p : Spn -> Bool} {j : Nat} (hj : l.length <= j) (h : l.find? p = (l.drop j).find? p) : l.find? p = none := by
 rw [h, List.drop_eq_nil_of_le hj]; rfl
theorem Own.set4' {w : World} {g : Nat} {t : TypeId} {a b c d : Value} (h : Own w g t [a, b, c, d]) (u v x y : Value) :
  Own ((((w.setCell ⟨g, 0, none⟩ u).setCell ⟨g, 1, none⟩ v).setCell ⟨g, 2, none⟩ x).setCell ⟨g, 3, none⟩ y) g t [u, v, x, y] := (((h.set_ 0 u).set_ 1 v).set_ 2 x).set_ 3 y
theorem Below.set4' {B : Nat} {w w' : World} (h : Below B w w') {g : Nat} (hg : B <= g) (u v x y : Value) :
  Below B w ((((w'.setCell ⟨g, 0, none⟩ u).setCell ⟨g, 1, none⟩ v).setCell ⟨g, 2, none⟩ x).setCell ⟨g, 3, none⟩ y) := (((h.setCell hg u).setCell hg v).setCell hg x).setCell hg y
theorem textOf_any {S : Nat -> Prop} {a t x r n h s : Value} {C : Cor} (w : World) (q : CorC S w a t x r n h s C) (lo hi : Int) :
  Calls Tryz.prog 36 #[.agg #[a, t, x, r, n, h, s], .agg #[.int .i64 lo, .int .i64 hi]] w fun e w' => FoundT (C.texts.find? (inP lo hi)) e /\ Below w.heap.size w w' := by
 obtain ⟨A, c, rfl, h1, h2, -⟩ := EO.form q.x; obtain ⟨o_c, o_s, o_r, hbw⟩ := new3 w [a, t, .slice A C.texts.length c, r, n, h, s] [.int .i64 lo, .int .i64 hi] [.string ⟨#[]⟩, .int .i64 0, .int .i64 0, .slice none 0 0] 30 85 89; have q' := q.below hbw; have hw := hbw.size; have hs3 : (((w.alloc (.cells #[a, t, .slice A C.texts.length c, r, n, h, s] 30)).alloc (.cells #[.int .i64 lo, .int .i64 hi] 85)).alloc (.cells #[.string ⟨#[]⟩, .int .i64 0, .int .i64 0, .slice none 0 0] 89)).heap.size = w.heap.size + 1 + 1 + 1 := by simp
 go_enter Tryz.func36, Tryz.ntmps36
 go_upto_region 1 with (fail)
 generalize (((w.alloc (.cells #[a, t, .slice A C.texts.length c, r, n, h, s] 30)).alloc (.cells #[.int .i64 lo, .int .i64 hi] 85)).alloc (.cells #[.string ⟨#[]⟩, .int .i64 0, .int .i64 0, .slice none 0 0] 89)) = wb at o_c o_s o_r hbw q' hw hs3 |-; obtain ⟨B, hB⟩ : ∃ B, B = w.heap.size := ⟨_, rfl⟩; rw [<- hB] at o_c o_s o_r hs3 hw hbw |-; have HB := Lib.hid hB; clear hB; have qc := o_c.c2; unfold maxLen at h2; clear q o_c
 go_wp2_with fail
 clear qc
 go_loopg [11] (C.texts.length + 1) (fun q v wr => ∃ j : Nat, q = C.texts.length + 1 - j /\ j <= C.texts.length /\ v = .int .i64 (j : Int) /\ Hid (C.texts.find? (inP lo hi) = (C.texts.drop j).find? (inP lo hi)) /\ Below wb.heap.size wb wr)
 case atStart => exact ⟨0, rfl, Nat.zero_le _, rfl, rfl, Below.refl _ _⟩
 case round =>
  obtain ⟨j, rfl, hj, rfl, HF, hbr⟩ := hrel; have o_s' := o_s.below hbr (by omega); have o_r' := o_r.below hbr (by omega); have hbB : Below B w wr := hbw.trans (hbr.mono hw); have hwr := hbr.size
  by_cases hlt : j < C.texts.length
  ·have q9 := q'.below hbr; obtain ⟨b, off, m, rfl, -, c0, c1, c2, c3, hm, -, z1, z2⟩ := SpnsO.get q9.x hlt; obtain ⟨Am, cm, rfl, -, -, -⟩ := EO.form hm; generalize C.texts[j].keys.length = nm9 at c3; clear hm; obtain ⟨tx, htx⟩ : ∃ tx, tx = C.texts[j] := ⟨_, rfl⟩; rw [<- htx] at c0 c1 c2 z1 z2; have HT := Lib.hid htx; obtain ⟨nm, l0, h0, ks⟩ := tx; clear htx q9
   dsimp only at c0 c1 c2 z1 z2
   unfold I64 at z1 z2; obtain ⟨o_t, hbt⟩ := new1 wr [.string nm, .int .i64 l0, .int .i64 h0, .slice Am nm9 cm] 89; have hbB2 := belowB hbB (by omega) hbt; have o_s2 := o_s'.below hbt (by omega); have o_r2 := o_r'.below hbt (by omega); have hbr2 := belowB hbr (by omega) hbt; have hgt := o_t.lt
   go_upto_region 4 with (fail)
   generalize (wr.alloc (.cells #[.string nm, .int .i64 l0, .int .i64 h0, .slice Am nm9 cm] 89)) = wt at o_t hbB2 o_s2 o_r2 hbr2 hgt |-; clear c0 c1 c2 c3 o_s' o_r' hbB hbr hbt; generalize wr.heap.size = g at o_t hgt hwr |-; obtain ⟨t0, t1, t2, t3⟩ := o_t.cells4; have s0 := o_s2.c0; have s1 := o_s2.c1
   rcases (show (0 <= l0 /\ l0 <= lo /\ lo < hi /\ hi <= h0) \/ l0 < 0 \/ (0 <= l0 /\ lo < l0) \/ (0 <= l0 /\ l0 <= lo /\ hi <= lo) \/ (0 <= l0 /\ l0 <= lo /\ lo < hi /\ h0 < hi) by omega) with hc | hc | hc | hc | hc
   ·have HQ : Hid (inP lo hi ⟨nm, l0, h0, ks⟩ = true) := by show _ = true; simp [inP]; omega
    have d1 : decide (0 <= l0) = true := decide_eq_true hc.1; have d2 : decide (l0 <= lo) = true := decide_eq_true hc.2.1; have d3 : decide (lo < hi) = true := decide_eq_true hc.2.2.1; have d4 : decide (hi <= h0) = true := decide_eq_true hc.2.2.2; clear hc; obtain ⟨r0, r1, r2, r3⟩ := o_r2.cells4; obtain ⟨f0, f1, f2, f3⟩ := o_r2.frozens4; have oz := o_r2.set4' (.string nm) (.int .i64 l0) (.int .i64 h0) (.slice Am nm9 cm); have hbz := Below.set4' hbB2 (g := B + 1 + 1) (by omega) (.string nm) (.int .i64 l0) (.int .i64 h0) (.slice Am nm9 cm); clear o_s2 o_t o_r2
    go_wp2_with fail
    clear r0 r1 r2 r3 f0 f1 f2 f3 s0 s1 t0 t1 t2 t3; generalize ((((wt.setCell ⟨B + 1 + 1, 0, none⟩ (.string nm)).setCell ⟨B + 1 + 1, 1, none⟩ (.int .i64 l0)).setCell ⟨B + 1 + 1, 2, none⟩ (.int .i64 h0)).setCell ⟨B + 1 + 1, 3, none⟩ (.slice Am nm9 cm)) = wz at oz hbz |-; obtain ⟨z0, z1, z2, z3⟩ := oz.cells4; exact bodyPost_ret (v := .tuple #[.agg #[.string nm, .int .i64 l0, .int .i64 h0, .slice Am nm9 cm], .bool true]) (by simp [results, Tryz.results36, go_sem, z0, z1, z2, z3]) rfl ⟨by rw [find_here hlt HF.out (by rw [<- HT.out]; exact HQ.out), <- HT.out]; exact ⟨_, _, _, rfl⟩, HB.out ▸ hbz⟩
   all_goals
    have HQ : Hid (inP lo hi ⟨nm, l0, h0, ks⟩ = false) := by show _ = false; simp [inP]; omega
    clear o_s2 o_t
    go_wp2
    go_roundg (C.texts.length + 1 - (j + 1))
    case measure => omega
    case rel => exact ⟨j + 1, rfl, by omega, by go_num, find_next hlt HF.out (by rw [<- HT.out]; exact HQ.out), hbr2⟩
  ·have r0 : wr.cell? ⟨B + 1 + 1, 0, none⟩ = some (.string ⟨#[]⟩) := o_r'.cell 0; have r1 : wr.cell? ⟨B + 1 + 1, 1, none⟩ = some (.int .i64 0) := o_r'.cell 1; have r2 : wr.cell? ⟨B + 1 + 1, 2, none⟩ = some (.int .i64 0) := o_r'.cell 2; have r3 : wr.cell? ⟨B + 1 + 1, 3, none⟩ = some (.slice none 0 0) := o_r'.cell 3; have f0 := o_r'.frozen 0; have f1 := o_r'.frozen 1; have f2 := o_r'.frozen 2; have f3 := o_r'.frozen 3; have oz := o_r'.set4' (.string ⟨#[]⟩) (.int .i64 0) (.int .i64 0) (.slice none 0 0); have hbz := Below.set4' hbB (g := B + 1 + 1) (by omega) (.string ⟨#[]⟩) (.int .i64 0) (.int .i64 0) (.slice none 0 0); clear o_s' o_r'
   go_wp2_with fail
   clear r0 r1 r2 r3 f0 f1 f2 f3; generalize ((((wr.setCell ⟨B + 1 + 1, 0, none⟩ (.string ⟨#[]⟩)).setCell ⟨B + 1 + 1, 1, none⟩ (.int .i64 0)).setCell ⟨B + 1 + 1, 2, none⟩ (.int .i64 0)).setCell ⟨B + 1 + 1, 3, none⟩ (.slice none 0 0)) = wz at oz hbz |-; obtain ⟨z0, z1, z2, z3⟩ := oz.cells4; exact bodyPost_ret (v := .tuple #[.agg #[.string ⟨#[]⟩, .int .i64 0, .int .i64 0, .slice none 0 0], .bool false]) (by simp [results, Tryz.results36, go_sem, z0, z1, z2, z3]) rfl ⟨by rw [find_end (by omega) HF.out]; rfl, HB.out ▸ hbz⟩
open Go.RowKit

def placeI (o : Option Nat) : Int := match o with | some i => (i : Int) | none => -1
theorem fidx_next {α : Type} {l : List α} {p : α -> Bool} {j : Nat} (hj : j < l.length) (h : ∀ i (hi : i < l.length), i < j -> p l[i] = false) (hp : p l[j] = false) : ∀ i (hi : i < l.length), i < j + 1 -> p l[i] = false := by
 intro i hi h1
 by_cases e : i = j
 ·subst e; exact hp
 ·exact h i hi (by omega)
theorem fidx_here {α : Type} {l : List α} {p : α -> Bool} {j : Nat} (hj : j < l.length) (h : ∀ i (hi : i < l.length), i < j -> p l[i] = false) (hp : p l[j] = true) : l.findIdx? p = some j := by
 rw [List.findIdx?_eq_some_iff_getElem]; exact ⟨hj, hp, fun i hi => by rw [h i (by omega) hi]; decide⟩
theorem fidx_end {α : Type} {l : List α} {p : α -> Bool} {j : Nat} (hj : l.length <= j) (h : ∀ i (hi : i < l.length), i < j -> p l[i] = false) : l.findIdx? p = none := by
 rw [List.findIdx?_eq_none_iff]; intro x hx; obtain ⟨i, hi, rfl⟩ := List.mem_iff_getElem.1 hx; exact h i hi (by omega)
theorem textAt6_any {S : Nat -> Prop} {a t x r n h s : Value} {C : Cor} (w : World) (q : CorC S w a t x r n h s C) (k : Int) :
  Calls Tryz.prog 110 #[.agg #[a, t, x, r, n, h, s], .int .i64 k] w fun e w' => e = .returned (.int .i64 (placeI (C.texts.findIdx? (atP k)))) /\ Below w.heap.size w w' := by
 obtain ⟨A, c, rfl, h1, h2, -⟩ := EO.form q.x; obtain ⟨o_c, hbw⟩ := new1 w [a, t, .slice A C.texts.length c, r, n, h, s] 30; have q' := q.below hbw; have hsz : (w.alloc (.cells #[a, t, .slice A C.texts.length c, r, n, h, s] 30)).heap.size = w.heap.size + 1 := by simp
 go_enter Tryz.func110, Tryz.ntmps110
 go_upto_region 1 with (fail)
 generalize (w.alloc (.cells #[a, t, .slice A C.texts.length c, r, n, h, s] 30)) = wb at o_c hbw hsz q' |-; obtain ⟨B, hB⟩ : ∃ B, B = w.heap.size := ⟨_, rfl⟩; rw [<- hB] at o_c hsz hbw |-; have HB := Lib.hid hB; clear hB; have qc := o_c.c2; unfold maxLen at h2; clear q o_c
 go_wp2_with fail
 clear qc
 go_loopg [10] (C.texts.length + 1) (fun q v wr => ∃ j : Nat, q = C.texts.length + 1 - j /\ j <= C.texts.length /\ v = .int .i64 (j : Int) /\ Hid (∀ i (hi : i < C.texts.length), i < j -> atP k C.texts[i] = false) /\ Below wb.heap.size wb wr)
 case atStart => exact ⟨0, rfl, Nat.zero_le _, rfl, (fun _ _ h => absurd h (Nat.not_lt_zero _)), Below.refl _ _⟩
 case round =>
  obtain ⟨j, rfl, hj, rfl, HF, hbr⟩ := hrel; have hbB : Below B w wr := hbw.trans (hbr.mono (by omega)); have hwr := hbr.size
  by_cases hlt : j < C.texts.length
  ·have q9 := q'.below hbr; obtain ⟨b, off, m, rfl, -, c0, c1, c2, c3, hm, -, z1, z2⟩ := SpnsO.get q9.x hlt; obtain ⟨Am, cm, rfl, -, -, -⟩ := EO.form hm; generalize C.texts[j].keys.length = nm9 at c3; clear hm; obtain ⟨tx, htx⟩ : ∃ tx, tx = C.texts[j] := ⟨_, rfl⟩; rw [<- htx] at c0 c1 c2 z1 z2; have HT := Lib.hid htx; obtain ⟨nm, l0, h0, ks⟩ := tx; clear htx q9
   dsimp only at c0 c1 c2 z1 z2
   unfold I64 at z1 z2; obtain ⟨o_t, hbt⟩ := new1 wr [.string nm, .int .i64 l0, .int .i64 h0, .slice Am nm9 cm] 89; have hbB2 := belowB hbB (by omega) hbt; have hbr2 := belowB hbr (by omega) hbt; have hgt := o_t.lt
   go_upto_region 4 with (fail)
   generalize (wr.alloc (.cells #[.string nm, .int .i64 l0, .int .i64 h0, .slice Am nm9 cm] 89)) = wt at o_t hbB2  hbr2 hgt |-; clear c0 c1 c2 c3 hbB hbr hbt ; generalize wr.heap.size = g at o_t hgt hwr |-; obtain ⟨t0, t1, t2, t3⟩ := o_t.cells4
   rcases (show (l0 <= k /\ k < h0) \/ (k < l0) \/ (l0 <= k /\ h0 <= k) by omega) with hc | hc | hc
   ·skip
    have HQ : Hid (atP k ⟨nm, l0, h0, ks⟩ = true) := by show _ = true; simp [atP]; omega
    clear o_t 
    go_wp2
    go_ret
    exact ⟨by rw [fidx_here hlt HF.out (by rw [<- HT.out]; exact HQ.out)]; rfl, HB.out ▸ hbB2⟩
   ·skip
    have HQ : Hid (atP k ⟨nm, l0, h0, ks⟩ = false) := by show _ = false; simp [atP]; omega
    clear o_t 
    go_wp2
    go_roundg (C.texts.length + 1 - (j + 1))
    case measure => omega
    case rel => exact ⟨j + 1, rfl, by omega, by go_num, fidx_next hlt HF.out (by rw [<- HT.out]; exact HQ.out), hbr2⟩
   ·skip
    have HQ : Hid (atP k ⟨nm, l0, h0, ks⟩ = false) := by show _ = false; simp [atP]; omega
    clear o_t 
    go_wp2
    go_roundg (C.texts.length + 1 - (j + 1))
    case measure => omega
    case rel => exact ⟨j + 1, rfl, by omega, by go_num, fidx_next hlt HF.out (by rw [<- HT.out]; exact HQ.out), hbr2⟩
  ·skip
   go_wp2
   go_ret
   exact ⟨by rw [fidx_end (by omega) HF.out]; rfl, HB.out ▸ hbB⟩
def wiP (a b : Int) (t : Spn) : Bool := decide (t.lo <= a) && (decide (a < b) && decide (b <= t.hi))
theorem any_here {l : List Spn} {p : Spn -> Bool} {j : Nat} (hj : j < l.length) (hp : p l[j] = true) : l.any p = true := List.any_eq_true.2 ⟨_, List.getElem_mem hj, hp⟩
theorem any_end {l : List Spn} {p : Spn -> Bool} {j : Nat} (hj : l.length <= j) (h : ∀ i (hi : i < l.length), i < j -> p l[i] = false) : l.any p = false := by
 rw [List.any_eq_false]; intro x hx; obtain ⟨i, hi, rfl⟩ := List.mem_iff_getElem.1 hx; rw [h i hi (by omega)]; decide
theorem within_any {S : Nat -> Prop} {a t x r n h s : Value} {C : Cor} (w : World) (q : CorC S w a t x r n h s C) (k m : Int) :
  Calls Tryz.prog 108 #[.agg #[a, t, x, r, n, h, s], .int .i64 k, .int .i64 m] w fun e w' => e = .returned (.bool (C.texts.any (wiP k m))) /\ Below w.heap.size w w' := by
 obtain ⟨A, c, rfl, h1, h2, -⟩ := EO.form q.x; obtain ⟨o_c, hbw⟩ := new1 w [a, t, .slice A C.texts.length c, r, n, h, s] 30; have q' := q.below hbw; have hsz : (w.alloc (.cells #[a, t, .slice A C.texts.length c, r, n, h, s] 30)).heap.size = w.heap.size + 1 := by simp
 go_enter Tryz.func108, Tryz.ntmps108
 go_upto_region 1 with (fail)
 generalize (w.alloc (.cells #[a, t, .slice A C.texts.length c, r, n, h, s] 30)) = wb at o_c hbw hsz q' |-; obtain ⟨B, hB⟩ : ∃ B, B = w.heap.size := ⟨_, rfl⟩; rw [<- hB] at o_c hsz hbw |-; have HB := Lib.hid hB; clear hB; have qc := o_c.c2; unfold maxLen at h2; clear q o_c
 go_wp2_with fail
 clear qc
 go_loopg [12] (C.texts.length + 1) (fun q v wr => ∃ j : Nat, q = C.texts.length + 1 - j /\ j <= C.texts.length /\ v = .int .i64 (j : Int) /\ Hid (∀ i (hi : i < C.texts.length), i < j -> wiP k m C.texts[i] = false) /\ Below wb.heap.size wb wr)
 case atStart => exact ⟨0, rfl, Nat.zero_le _, rfl, (fun _ _ h => absurd h (Nat.not_lt_zero _)), Below.refl _ _⟩
 case round =>
  obtain ⟨j, rfl, hj, rfl, HF, hbr⟩ := hrel; have hbB : Below B w wr := hbw.trans (hbr.mono (by omega)); have hwr := hbr.size
  by_cases hlt : j < C.texts.length
  ·have q9 := q'.below hbr; obtain ⟨b, off, m, rfl, -, c0, c1, c2, c3, hm, -, z1, z2⟩ := SpnsO.get q9.x hlt; obtain ⟨Am, cm, rfl, -, -, -⟩ := EO.form hm; generalize C.texts[j].keys.length = nm9 at c3; clear hm; obtain ⟨tx, htx⟩ : ∃ tx, tx = C.texts[j] := ⟨_, rfl⟩; rw [<- htx] at c0 c1 c2 z1 z2; have HT := Lib.hid htx; obtain ⟨nm, l0, h0, ks⟩ := tx; clear htx q9
   dsimp only at c0 c1 c2 z1 z2
   unfold I64 at z1 z2; obtain ⟨o_t, hbt⟩ := new1 wr [.string nm, .int .i64 l0, .int .i64 h0, .slice Am nm9 cm] 89; have hbB2 := belowB hbB (by omega) hbt; have hbr2 := belowB hbr (by omega) hbt; have hgt := o_t.lt
   go_upto_region 4 with (fail)
   generalize (wr.alloc (.cells #[.string nm, .int .i64 l0, .int .i64 h0, .slice Am nm9 cm] 89)) = wt at o_t hbB2  hbr2 hgt |-; clear c0 c1 c2 c3 hbB hbr hbt ; generalize wr.heap.size = g at o_t hgt hwr |-; obtain ⟨t0, t1, t2, t3⟩ := o_t.cells4
   rcases (show (l0 <= k /\ k < m /\ m <= h0) \/ (k < l0) \/ (l0 <= k /\ m <= k) \/ (l0 <= k /\ k < m /\ h0 < m) by omega) with hc | hc | hc | hc
   ·skip
    have HQ : Hid (wiP k m ⟨nm, l0, h0, ks⟩ = true) := by show _ = true; simp [wiP]; omega
    clear o_t 
    go_wp2
    go_ret
    exact ⟨by rw [any_here hlt (by rw [<- HT.out]; exact HQ.out)]; rfl, HB.out ▸ hbB2⟩
   ·skip
    have HQ : Hid (wiP k m ⟨nm, l0, h0, ks⟩ = false) := by show _ = false; simp [wiP]; omega
    clear o_t 
    go_wp2
    go_roundg (C.texts.length + 1 - (j + 1))
    case measure => omega
    case rel => exact ⟨j + 1, rfl, by omega, by go_num, fidx_next hlt HF.out (by rw [<- HT.out]; exact HQ.out), hbr2⟩
   ·skip
    have HQ : Hid (wiP k m ⟨nm, l0, h0, ks⟩ = false) := by show _ = false; simp [wiP]; omega
    clear o_t 
    go_wp2
    go_roundg (C.texts.length + 1 - (j + 1))
    case measure => omega
    case rel => exact ⟨j + 1, rfl, by omega, by go_num, fidx_next hlt HF.out (by rw [<- HT.out]; exact HQ.out), hbr2⟩
   ·skip
    have HQ : Hid (wiP k m ⟨nm, l0, h0, ks⟩ = false) := by show _ = false; simp [wiP]; omega
    clear o_t 
    go_wp2
    go_roundg (C.texts.length + 1 - (j + 1))
    case measure => omega
    case rel => exact ⟨j + 1, rfl, by omega, by go_num, fidx_next hlt HF.out (by rw [<- HT.out]; exact HQ.out), hbr2⟩
  ·skip
   go_wp2
   go_ret
   exact ⟨by rw [any_end (by omega) HF.out]; rfl, HB.out ▸ hbB⟩
def nmP (s : ByteArray) (t : Spn) : Bool := decide (t.name = s)
theorem str_beq {s t : ByteArray} : (s.toList == t.toList) = decide (s = t) := by
 rw [ByteArray.toList_eq, ByteArray.toList_eq, Bool.eq_iff_iff, beq_iff_eq, decide_eq_true_iff]
 constructor
 ·intro h; obtain ⟨⟨l⟩⟩ := s; obtain ⟨⟨m⟩⟩ := t
  simp at h
  rw [h]
 ·intro h; rw [h]
theorem findText6_any {S : Nat -> Prop} {a t x r n h s : Value} {C : Cor} (w : World) (q : CorC S w a t x r n h s C) (z : ByteArray) :
  Calls Tryz.prog 51 #[.agg #[a, t, x, r, n, h, s], .string z] w fun e w' => e = .returned (.int .i64 (placeI (C.texts.findIdx? (nmP z)))) /\ Below w.heap.size w w' := by
 obtain ⟨A, c, rfl, h1, h2, -⟩ := EO.form q.x; obtain ⟨o_c, hbw⟩ := new1 w [a, t, .slice A C.texts.length c, r, n, h, s] 30; have q' := q.below hbw; have hsz : (w.alloc (.cells #[a, t, .slice A C.texts.length c, r, n, h, s] 30)).heap.size = w.heap.size + 1 := by simp
 go_enter Tryz.func51, Tryz.ntmps51
 go_upto_region 1 with (fail)
 generalize (w.alloc (.cells #[a, t, .slice A C.texts.length c, r, n, h, s] 30)) = wb at o_c hbw hsz q' |-; obtain ⟨B, hB⟩ : ∃ B, B = w.heap.size := ⟨_, rfl⟩; rw [<- hB] at o_c hsz hbw |-; have HB := Lib.hid hB; clear hB; have qc := o_c.c2; unfold maxLen at h2; clear q o_c
 go_wp2_with fail
 clear qc
 go_loopg [10] (C.texts.length + 1) (fun q v wr => ∃ j : Nat, q = C.texts.length + 1 - j /\ j <= C.texts.length /\ v = .int .i64 (j : Int) /\ Hid (∀ i (hi : i < C.texts.length), i < j -> nmP z C.texts[i] = false) /\ Below wb.heap.size wb wr)
 case atStart => exact ⟨0, rfl, Nat.zero_le _, rfl, (fun _ _ h => absurd h (Nat.not_lt_zero _)), Below.refl _ _⟩
 case round =>
  obtain ⟨j, rfl, hj, rfl, HF, hbr⟩ := hrel; have hbB : Below B w wr := hbw.trans (hbr.mono (by omega)); have hwr := hbr.size
  by_cases hlt : j < C.texts.length
  ·have q9 := q'.below hbr; obtain ⟨b, off, m, rfl, -, c0, c1, c2, c3, hm, -, z1, z2⟩ := SpnsO.get q9.x hlt; obtain ⟨Am, cm, rfl, -, -, -⟩ := EO.form hm; generalize C.texts[j].keys.length = nm9 at c3; clear hm; obtain ⟨tx, htx⟩ : ∃ tx, tx = C.texts[j] := ⟨_, rfl⟩; rw [<- htx] at c0 c1 c2 z1 z2; have HT := Lib.hid htx; obtain ⟨nm, l0, h0, ks⟩ := tx; clear htx q9
   dsimp only at c0 c1 c2 z1 z2
   unfold I64 at z1 z2; obtain ⟨o_t, hbt⟩ := new1 wr [.string nm, .int .i64 l0, .int .i64 h0, .slice Am nm9 cm] 89; have hbB2 := belowB hbB (by omega) hbt; have hbr2 := belowB hbr (by omega) hbt; have hgt := o_t.lt
   go_upto_region 4 with (fail)
   generalize (wr.alloc (.cells #[.string nm, .int .i64 l0, .int .i64 h0, .slice Am nm9 cm] 89)) = wt at o_t hbB2  hbr2 hgt |-; clear c0 c1 c2 c3 hbB hbr hbt ; generalize wr.heap.size = g at o_t hgt hwr |-; obtain ⟨t0, t1, t2, t3⟩ := o_t.cells4
   rcases Decidable.em (nm = z) with hc | hc
   ·skip
    have HQ : Hid (nmP z ⟨nm, l0, h0, ks⟩ = true) := by show _ = true; simp [nmP, hc]
    have d1 : (nm.toList == z.toList) = true := by rw [str_beq]; exact decide_eq_true hc
    clear hc; clear o_t 
    go_wp2
    go_ret
    exact ⟨by rw [fidx_here hlt HF.out (by rw [<- HT.out]; exact HQ.out)]; rfl, HB.out ▸ hbB2⟩
   ·skip
    have HQ : Hid (nmP z ⟨nm, l0, h0, ks⟩ = false) := by show _ = false; simp [nmP, hc]
    have d1 : (nm.toList == z.toList) = false := by rw [str_beq]; exact decide_eq_false hc
    clear hc; clear o_t 
    go_wp2
    go_roundg (C.texts.length + 1 - (j + 1))
    case measure => omega
    case rel => exact ⟨j + 1, rfl, by omega, by go_num, fidx_next hlt HF.out (by rw [<- HT.out]; exact HQ.out), hbr2⟩
  ·skip
   go_wp2
   go_ret
   exact ⟨by rw [fidx_end (by omega) HF.out]; rfl, HB.out ▸ hbB⟩
end Go.Proofs.YtjimfbmegmnocaaGreatDoor
