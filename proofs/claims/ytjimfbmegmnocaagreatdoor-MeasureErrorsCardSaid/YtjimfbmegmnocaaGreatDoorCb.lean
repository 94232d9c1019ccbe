/- Parts of the proof: Cb. No condition of its own. -/
import Derived.Test.YtjimfbmegmnocaaGreatDoorCa
set_option linter.unusedSimpArgs false
set_option linter.unusedVariables false
set_option maxRecDepth 100000
set_option maxHeartbeats 4000000
namespace Go.Proofs.YtjimfbmegmnocaaGreatDoor
open Go.RowKit

def placeI (o : Option Nat) : Int := match o with | some i => (i : Int) | none => -1
theorem fidx_next {α : Type} {l : List α} {p : α -> Bool} {j : Nat} (hj : j < l.length) (h : ∀ i (hi : i < l.length), i < j -> p l[i] = false) (hp : p l[j] = false) : ∀ i (hi : i < l.length), i < j + 1 -> p l[i] = false := by
 intro i hi h1
 by_cases e : i = j
 ·subst e; exact hp
 ·exact h i hi (by omega)
theorem fidx_here {α : Type} {l : List α} {p : α -> Bool} {j : Nat} (hj : j < l.length) (h : ∀ i (hi : i < l.length), i < j -> p l[i] = false) (hp : p l[j] = true) : l.findIdx? p = some j := by
 rw [List.findIdx?_eq_some_iff_getElem]; exact ⟨hj, hp, fun i hi => by rw [h i (by omega) hi]; decide⟩
theorem fidx_end {α : Type} {l : List α} {p : α -> Bool} {j : Nat} (hj : l.length <= j) (h : ∀ i (hi : i < l.length), i < j -> p l[i] = false) : l.findIdx? p = none := by
 rw [List.findIdx?_eq_none_iff]; intro x hx; obtain ⟨i, hi, rfl⟩ := List.mem_iff_getElem.1 hx; exact h i hi (by omega)
theorem textAt24_any {S : Nat -> Prop} {a t x r n h s : Value} {C : Cor} (w : World) (q : CorC S w a t x r n h s C) (k : Int) :
  Calls Tryz.prog 40 #[.agg #[a, t, x, r, n, h, s], .int .i64 k] w fun e w' => FoundT (C.texts.find? (atP k)) e /\ Below w.heap.size w w' := by
 obtain ⟨A, c, rfl, h1, h2, -⟩ := EO.form q.x; obtain ⟨o_c, o_r, hbw⟩ := new2 w [a, t, .slice A C.texts.length c, r, n, h, s] [.string ⟨#[]⟩, .int .i64 0, .int .i64 0, .slice none 0 0] 30 89; have q' := q.below hbw; have hsz : ((w.alloc (.cells #[a, t, .slice A C.texts.length c, r, n, h, s] 30)).alloc (.cells #[.string ⟨#[]⟩, .int .i64 0, .int .i64 0, .slice none 0 0] 89)).heap.size = w.heap.size + 1 + 1 := by simp
 go_enter Tryz.func40, Tryz.ntmps40
 go_upto_region 1 with (fail)
 generalize ((w.alloc (.cells #[a, t, .slice A C.texts.length c, r, n, h, s] 30)).alloc (.cells #[.string ⟨#[]⟩, .int .i64 0, .int .i64 0, .slice none 0 0] 89)) = wb at o_c o_r hbw hsz q' |-; obtain ⟨B, hB⟩ : ∃ B, B = w.heap.size := ⟨_, rfl⟩; rw [<- hB] at o_c o_r hsz hbw |-; have HB := Z' hB; clear hB; have qc := o_c.c2; unfold maxLen at h2; clear q o_c
 go_wp2_with fail
 clear qc
 go_loopg [11] (C.texts.length + 1) (fun q v wr => ∃ j : Nat, q = C.texts.length + 1 - j /\ j <= C.texts.length /\ v = .int .i64 (j : Int) /\ Hid (C.texts.find? (atP k) = (C.texts.drop j).find? (atP k)) /\ Below wb.heap.size wb wr)
 case atStart => exact ⟨0, rfl, Nat.zero_le _, rfl, rfl, Below.refl _ _⟩
 case round =>
  obtain ⟨j, rfl, hj, rfl, HF, hbr⟩ := hrel; have hbB : Below B w wr := hbw.trans (hbr.mono (by omega)); have hwr := hbr.size; have o_r' := o_r.below hbr (by omega)
  by_cases hlt : j < C.texts.length
  ·have q9 := q'.below hbr; obtain ⟨b, off, m, rfl, -, c0, c1, c2, c3, hm, -, z1, z2⟩ := SpnsO.get q9.x hlt; obtain ⟨Am, cm, rfl, -, -, -⟩ := EO.form hm; generalize C.texts[j].keys.length = nm9 at c3; clear hm; obtain ⟨tx, htx⟩ : ∃ tx, tx = C.texts[j] := ⟨_, rfl⟩; rw [<- htx] at c0 c1 c2 z1 z2; have HT := Z' htx; obtain ⟨nm, l0, h0, ks⟩ := tx; clear htx q9
   dsimp only at c0 c1 c2 z1 z2
   unfold I64 at z1 z2; obtain ⟨o_t, hbt⟩ := new1 wr [.string nm, .int .i64 l0, .int .i64 h0, .slice Am nm9 cm] 89; have hbB2 := belowB hbB (by omega) hbt; have o_r2 := o_r'.below hbt (by omega); have hbr2 := belowB hbr (by omega) hbt; have hgt := o_t.lt
   go_upto_region 4 with (fail)
   generalize (wr.alloc (.cells #[.string nm, .int .i64 l0, .int .i64 h0, .slice Am nm9 cm] 89)) = wt at o_t hbB2 o_r2 hbr2 hgt |-; clear c0 c1 c2 c3 hbB hbr hbt o_r'; generalize wr.heap.size = g at o_t hgt hwr |-; obtain ⟨t0, t1, t2, t3⟩ := o_t.cells4
   rcases (show (l0 <= k /\ k < h0) \/ (k < l0) \/ (l0 <= k /\ h0 <= k) by omega) with hc | hc | hc
   ·skip
    have HQ : Hid (atP k ⟨nm, l0, h0, ks⟩ = true) := by show _ = true; simp [atP]; omega
    have d1 : decide (l0 <= k) = true := decide_eq_true hc.1; have d2 : decide (k < h0) = true := decide_eq_true hc.2; clear hc; clear o_t; obtain ⟨r9_0, r9_1, r9_2, r9_3⟩ := o_r2.cells4; obtain ⟨fr9_0, fr9_1, fr9_2, fr9_3⟩ := o_r2.frozens4; have oz := o_r2.set4' (.string nm) (.int .i64 l0) (.int .i64 h0) (.slice Am nm9 cm); have hbz := Below.set4' hbB2 (g := B + 1) (by omega) (.string nm) (.int .i64 l0) (.int .i64 h0) (.slice Am nm9 cm)
    go_wp2_with fail
    clear r9_0 r9_1 r9_2 r9_3 fr9_0 fr9_1 fr9_2 fr9_3; generalize ((((wt.setCell ⟨B + 1, 0, none⟩ (.string nm)).setCell ⟨B + 1, 1, none⟩ (.int .i64 l0)).setCell ⟨B + 1, 2, none⟩ (.int .i64 h0)).setCell ⟨B + 1, 3, none⟩ (.slice Am nm9 cm)) = wz at oz hbz |-; obtain ⟨z90, z91, z92, z93⟩ := oz.cells4; exact bodyPost_ret (v := .tuple #[.agg #[.string nm, .int .i64 l0, .int .i64 h0, .slice Am nm9 cm], .bool true]) (by simp [results, Tryz.results40, go_sem, z90, z91, z92, z93]) rfl ⟨by rw [find_here hlt HF.out (by rw [<- HT.out]; exact HQ.out), <- HT.out]; exact ⟨_, _, _, rfl⟩, HB.out ▸ hbz⟩
   ·skip
    have HQ : Hid (atP k ⟨nm, l0, h0, ks⟩ = false) := by show _ = false; simp [atP]; omega
    clear o_t o_r2
    go_wp2
    go_roundg (C.texts.length + 1 - (j + 1))
    case measure => omega
    case rel => exact ⟨j + 1, rfl, by omega, by go_num, find_next hlt HF.out (by rw [<- HT.out]; exact HQ.out), hbr2⟩
   ·skip
    have HQ : Hid (atP k ⟨nm, l0, h0, ks⟩ = false) := by show _ = false; simp [atP]; omega
    clear o_t o_r2
    go_wp2
    go_roundg (C.texts.length + 1 - (j + 1))
    case measure => omega
    case rel => exact ⟨j + 1, rfl, by omega, by go_num, find_next hlt HF.out (by rw [<- HT.out]; exact HQ.out), hbr2⟩
  ·skip
   have r9_0 : wr.cell? ⟨B + 1, 0, none⟩ = some (.string ⟨#[]⟩) := o_r'.cell 0; have r9_1 : wr.cell? ⟨B + 1, 1, none⟩ = some (.int .i64 0) := o_r'.cell 1; have r9_2 : wr.cell? ⟨B + 1, 2, none⟩ = some (.int .i64 0) := o_r'.cell 2; have r9_3 : wr.cell? ⟨B + 1, 3, none⟩ = some (.slice none 0 0) := o_r'.cell 3; have fr9_0 := o_r'.frozen 0; have fr9_1 := o_r'.frozen 1; have fr9_2 := o_r'.frozen 2; have fr9_3 := o_r'.frozen 3; have oz := o_r'.set4' (.string ⟨#[]⟩) (.int .i64 0) (.int .i64 0) (.slice none 0 0); have hbz := Below.set4' hbB (g := B + 1) (by omega) (.string ⟨#[]⟩) (.int .i64 0) (.int .i64 0) (.slice none 0 0)
   go_wp2_with fail
   clear r9_0 r9_1 r9_2 r9_3 fr9_0 fr9_1 fr9_2 fr9_3; generalize ((((wr.setCell ⟨B + 1, 0, none⟩ (.string ⟨#[]⟩)).setCell ⟨B + 1, 1, none⟩ (.int .i64 0)).setCell ⟨B + 1, 2, none⟩ (.int .i64 0)).setCell ⟨B + 1, 3, none⟩ (.slice none 0 0)) = wz at oz hbz |-; obtain ⟨z90, z91, z92, z93⟩ := oz.cells4; exact bodyPost_ret (v := .tuple #[.agg #[.string ⟨#[]⟩, .int .i64 0, .int .i64 0, .slice none 0 0], .bool false]) (by simp [results, Tryz.results40, go_sem, z90, z91, z92, z93]) rfl ⟨by rw [find_end (by omega) HF.out]; rfl, HB.out ▸ hbz⟩
theorem textAt6_any {S : Nat -> Prop} {a t x r n h s : Value} {C : Cor} (w : World) (q : CorC S w a t x r n h s C) (k : Int) :
  Calls Tryz.prog 110 #[.agg #[a, t, x, r, n, h, s], .int .i64 k] w fun e w' => e = .returned (.int .i64 (placeI (C.texts.findIdx? (atP k)))) /\ Below w.heap.size w w' := by
 obtain ⟨A, c, rfl, h1, h2, -⟩ := EO.form q.x; obtain ⟨o_c, hbw⟩ := new1 w [a, t, .slice A C.texts.length c, r, n, h, s] 30; have q' := q.below hbw; have hsz : (w.alloc (.cells #[a, t, .slice A C.texts.length c, r, n, h, s] 30)).heap.size = w.heap.size + 1 := by simp
 go_enter Tryz.func110, Tryz.ntmps110
 go_upto_region 1 with (fail)
 generalize (w.alloc (.cells #[a, t, .slice A C.texts.length c, r, n, h, s] 30)) = wb at o_c hbw hsz q' |-; obtain ⟨B, hB⟩ : ∃ B, B = w.heap.size := ⟨_, rfl⟩; rw [<- hB] at o_c hsz hbw |-; have HB := Z' hB; clear hB; have qc := o_c.c2; unfold maxLen at h2; clear q o_c
 go_wp2_with fail
 clear qc
 go_loopg [10] (C.texts.length + 1) (fun q v wr => ∃ j : Nat, q = C.texts.length + 1 - j /\ j <= C.texts.length /\ v = .int .i64 (j : Int) /\ Hid (∀ i (hi : i < C.texts.length), i < j -> atP k C.texts[i] = false) /\ Below wb.heap.size wb wr)
 case atStart => exact ⟨0, rfl, Nat.zero_le _, rfl, (fun _ _ h => absurd h (Nat.not_lt_zero _)), Below.refl _ _⟩
 case round =>
  obtain ⟨j, rfl, hj, rfl, HF, hbr⟩ := hrel; have hbB : Below B w wr := hbw.trans (hbr.mono (by omega)); have hwr := hbr.size
  by_cases hlt : j < C.texts.length
  ·have q9 := q'.below hbr; obtain ⟨b, off, m, rfl, -, c0, c1, c2, c3, hm, -, z1, z2⟩ := SpnsO.get q9.x hlt; obtain ⟨Am, cm, rfl, -, -, -⟩ := EO.form hm; generalize C.texts[j].keys.length = nm9 at c3; clear hm; obtain ⟨tx, htx⟩ : ∃ tx, tx = C.texts[j] := ⟨_, rfl⟩; rw [<- htx] at c0 c1 c2 z1 z2; have HT := Z' htx; obtain ⟨nm, l0, h0, ks⟩ := tx; clear htx q9
   dsimp only at c0 c1 c2 z1 z2
   unfold I64 at z1 z2; obtain ⟨o_t, hbt⟩ := new1 wr [.string nm, .int .i64 l0, .int .i64 h0, .slice Am nm9 cm] 89; have hbB2 := belowB hbB (by omega) hbt; have hbr2 := belowB hbr (by omega) hbt; have hgt := o_t.lt
   go_upto_region 4 with (fail)
   generalize (wr.alloc (.cells #[.string nm, .int .i64 l0, .int .i64 h0, .slice Am nm9 cm] 89)) = wt at o_t hbB2  hbr2 hgt |-; clear c0 c1 c2 c3 hbB hbr hbt ; generalize wr.heap.size = g at o_t hgt hwr |-; obtain ⟨t0, t1, t2, t3⟩ := o_t.cells4
   rcases (show (l0 <= k /\ k < h0) \/ (k < l0) \/ (l0 <= k /\ h0 <= k) by omega) with hc | hc | hc
   ·skip
    have HQ : Hid (atP k ⟨nm, l0, h0, ks⟩ = true) := by show _ = true; simp [atP]; omega
    clear o_t 
    go_wp2
    go_ret
    exact ⟨by rw [fidx_here hlt HF.out (by rw [<- HT.out]; exact HQ.out)]; rfl, HB.out ▸ hbB2⟩
   ·skip
    have HQ : Hid (atP k ⟨nm, l0, h0, ks⟩ = false) := by show _ = false; simp [atP]; omega
    clear o_t 
    go_wp2
    go_roundg (C.texts.length + 1 - (j + 1))
    case measure => omega
    case rel => exact ⟨j + 1, rfl, by omega, by go_num, fidx_next hlt HF.out (by rw [<- HT.out]; exact HQ.out), hbr2⟩
   ·skip
    have HQ : Hid (atP k ⟨nm, l0, h0, ks⟩ = false) := by show _ = false; simp [atP]; omega
    clear o_t 
    go_wp2
    go_roundg (C.texts.length + 1 - (j + 1))
    case measure => omega
    case rel => exact ⟨j + 1, rfl, by omega, by go_num, fidx_next hlt HF.out (by rw [<- HT.out]; exact HQ.out), hbr2⟩
  ·skip
   go_wp2
   go_ret
   exact ⟨by rw [fidx_end (by omega) HF.out]; rfl, HB.out ▸ hbB⟩
def wiP (a b : Int) (t : Spn) : Bool := decide (t.lo <= a) && (decide (a < b) && decide (b <= t.hi))
theorem any_here {l : List Spn} {p : Spn -> Bool} {j : Nat} (hj : j < l.length) (hp : p l[j] = true) : l.any p = true := List.any_eq_true.2 ⟨_, List.getElem_mem hj, hp⟩
theorem any_end {l : List Spn} {p : Spn -> Bool} {j : Nat} (hj : l.length <= j) (h : ∀ i (hi : i < l.length), i < j -> p l[i] = false) : l.any p = false := by
 rw [List.any_eq_false]; intro x hx; obtain ⟨i, hi, rfl⟩ := List.mem_iff_getElem.1 hx; rw [h i hi (by omega)]; decide
theorem within_any {S : Nat -> Prop} {a t x r n h s : Value} {C : Cor} (w : World) (q : CorC S w a t x r n h s C) (k m : Int) :
  Calls Tryz.prog 108 #[.agg #[a, t, x, r, n, h, s], .int .i64 k, .int .i64 m] w fun e w' => e = .returned (.bool (C.texts.any (wiP k m))) /\ Below w.heap.size w w' := by
 obtain ⟨A, c, rfl, h1, h2, -⟩ := EO.form q.x; obtain ⟨o_c, hbw⟩ := new1 w [a, t, .slice A C.texts.length c, r, n, h, s] 30; have q' := q.below hbw; have hsz : (w.alloc (.cells #[a, t, .slice A C.texts.length c, r, n, h, s] 30)).heap.size = w.heap.size + 1 := by simp
 go_enter Tryz.func108, Tryz.ntmps108
 go_upto_region 1 with (fail)
 generalize (w.alloc (.cells #[a, t, .slice A C.texts.length c, r, n, h, s] 30)) = wb at o_c hbw hsz q' |-; obtain ⟨B, hB⟩ : ∃ B, B = w.heap.size := ⟨_, rfl⟩; rw [<- hB] at o_c hsz hbw |-; have HB := Z' hB; clear hB; have qc := o_c.c2; unfold maxLen at h2; clear q o_c
 go_wp2_with fail
 clear qc
 go_loopg [12] (C.texts.length + 1) (fun q v wr => ∃ j : Nat, q = C.texts.length + 1 - j /\ j <= C.texts.length /\ v = .int .i64 (j : Int) /\ Hid (∀ i (hi : i < C.texts.length), i < j -> wiP k m C.texts[i] = false) /\ Below wb.heap.size wb wr)
 case atStart => exact ⟨0, rfl, Nat.zero_le _, rfl, (fun _ _ h => absurd h (Nat.not_lt_zero _)), Below.refl _ _⟩
 case round =>
  obtain ⟨j, rfl, hj, rfl, HF, hbr⟩ := hrel; have hbB : Below B w wr := hbw.trans (hbr.mono (by omega)); have hwr := hbr.size
  by_cases hlt : j < C.texts.length
  ·have q9 := q'.below hbr; obtain ⟨b, off, m, rfl, -, c0, c1, c2, c3, hm, -, z1, z2⟩ := SpnsO.get q9.x hlt; obtain ⟨Am, cm, rfl, -, -, -⟩ := EO.form hm; generalize C.texts[j].keys.length = nm9 at c3; clear hm; obtain ⟨tx, htx⟩ : ∃ tx, tx = C.texts[j] := ⟨_, rfl⟩; rw [<- htx] at c0 c1 c2 z1 z2; have HT := Z' htx; obtain ⟨nm, l0, h0, ks⟩ := tx; clear htx q9
   dsimp only at c0 c1 c2 z1 z2
   unfold I64 at z1 z2; obtain ⟨o_t, hbt⟩ := new1 wr [.string nm, .int .i64 l0, .int .i64 h0, .slice Am nm9 cm] 89; have hbB2 := belowB hbB (by omega) hbt; have hbr2 := belowB hbr (by omega) hbt; have hgt := o_t.lt
   go_upto_region 4 with (fail)
   generalize (wr.alloc (.cells #[.string nm, .int .i64 l0, .int .i64 h0, .slice Am nm9 cm] 89)) = wt at o_t hbB2  hbr2 hgt |-; clear c0 c1 c2 c3 hbB hbr hbt ; generalize wr.heap.size = g at o_t hgt hwr |-; obtain ⟨t0, t1, t2, t3⟩ := o_t.cells4
   rcases (show (l0 <= k /\ k < m /\ m <= h0) \/ (k < l0) \/ (l0 <= k /\ m <= k) \/ (l0 <= k /\ k < m /\ h0 < m) by omega) with hc | hc | hc | hc
   ·skip
    have HQ : Hid (wiP k m ⟨nm, l0, h0, ks⟩ = true) := by show _ = true; simp [wiP]; omega
    clear o_t 
    go_wp2
    go_ret
    exact ⟨by rw [any_here hlt (by rw [<- HT.out]; exact HQ.out)]; rfl, HB.out ▸ hbB2⟩
   ·skip
    have HQ : Hid (wiP k m ⟨nm, l0, h0, ks⟩ = false) := by show _ = false; simp [wiP]; omega
    clear o_t 
    go_wp2
    go_roundg (C.texts.length + 1 - (j + 1))
    case measure => omega
    case rel => exact ⟨j + 1, rfl, by omega, by go_num, fidx_next hlt HF.out (by rw [<- HT.out]; exact HQ.out), hbr2⟩
   ·skip
    have HQ : Hid (wiP k m ⟨nm, l0, h0, ks⟩ = false) := by show _ = false; simp [wiP]; omega
    clear o_t 
    go_wp2
    go_roundg (C.texts.length + 1 - (j + 1))
    case measure => omega
    case rel => exact ⟨j + 1, rfl, by omega, by go_num, fidx_next hlt HF.out (by rw [<- HT.out]; exact HQ.out), hbr2⟩
   ·skip
    have HQ : Hid (wiP k m ⟨nm, l0, h0, ks⟩ = false) := by show _ = false; simp [wiP]; omega
    clear o_t 
    go_wp2
    go_roundg (C.texts.length + 1 - (j + 1))
    case measure => omega
    case rel => exact ⟨j + 1, rfl, by omega, by go_num, fidx_next hlt HF.out (by rw [<- HT.out]; exact HQ.out), hbr2⟩
  ·skip
   go_wp2
   go_ret
   exact ⟨by rw [any_end (by omega) HF.out]; rfl, HB.out ▸ hbB⟩
def nmP (s : ByteArray) (t : Spn) : Bool := decide (t.name = s)
theorem str_beq {s t : ByteArray} : (s.toList == t.toList) = decide (s = t) := by
 rw [ByteArray.toList_eq, ByteArray.toList_eq, Bool.eq_iff_iff, beq_iff_eq, decide_eq_true_iff]
 constructor
 ·intro h; obtain ⟨⟨l⟩⟩ := s; obtain ⟨⟨m⟩⟩ := t
  simp at h
  rw [h]
 ·intro h; rw [h]
theorem findText6_any {S : Nat -> Prop} {a t x r n h s : Value} {C : Cor} (w : World) (q : CorC S w a t x r n h s C) (z : ByteArray) :
  Calls Tryz.prog 51 #[.agg #[a, t, x, r, n, h, s], .string z] w fun e w' => e = .returned (.int .i64 (placeI (C.texts.findIdx? (nmP z)))) /\ Below w.heap.size w w' := by
 obtain ⟨A, c, rfl, h1, h2, -⟩ := EO.form q.x; obtain ⟨o_c, hbw⟩ := new1 w [a, t, .slice A C.texts.length c, r, n, h, s] 30; have q' := q.below hbw; have hsz : (w.alloc (.cells #[a, t, .slice A C.texts.length c, r, n, h, s] 30)).heap.size = w.heap.size + 1 := by simp
 go_enter Tryz.func51, Tryz.ntmps51
 go_upto_region 1 with (fail)
 generalize (w.alloc (.cells #[a, t, .slice A C.texts.length c, r, n, h, s] 30)) = wb at o_c hbw hsz q' |-; obtain ⟨B, hB⟩ : ∃ B, B = w.heap.size := ⟨_, rfl⟩; rw [<- hB] at o_c hsz hbw |-; have HB := Z' hB; clear hB; have qc := o_c.c2; unfold maxLen at h2; clear q o_c
 go_wp2_with fail
 clear qc
 go_loopg [10] (C.texts.length + 1) (fun q v wr => ∃ j : Nat, q = C.texts.length + 1 - j /\ j <= C.texts.length /\ v = .int .i64 (j : Int) /\ Hid (∀ i (hi : i < C.texts.length), i < j -> nmP z C.texts[i] = false) /\ Below wb.heap.size wb wr)
 case atStart => exact ⟨0, rfl, Nat.zero_le _, rfl, (fun _ _ h => absurd h (Nat.not_lt_zero _)), Below.refl _ _⟩
 case round =>
  obtain ⟨j, rfl, hj, rfl, HF, hbr⟩ := hrel; have hbB : Below B w wr := hbw.trans (hbr.mono (by omega)); have hwr := hbr.size
  by_cases hlt : j < C.texts.length
  ·have q9 := q'.below hbr; obtain ⟨b, off, m, rfl, -, c0, c1, c2, c3, hm, -, z1, z2⟩ := SpnsO.get q9.x hlt; obtain ⟨Am, cm, rfl, -, -, -⟩ := EO.form hm; generalize C.texts[j].keys.length = nm9 at c3; clear hm; obtain ⟨tx, htx⟩ : ∃ tx, tx = C.texts[j] := ⟨_, rfl⟩; rw [<- htx] at c0 c1 c2 z1 z2; have HT := Z' htx; obtain ⟨nm, l0, h0, ks⟩ := tx; clear htx q9
   dsimp only at c0 c1 c2 z1 z2
   unfold I64 at z1 z2; obtain ⟨o_t, hbt⟩ := new1 wr [.string nm, .int .i64 l0, .int .i64 h0, .slice Am nm9 cm] 89; have hbB2 := belowB hbB (by omega) hbt; have hbr2 := belowB hbr (by omega) hbt; have hgt := o_t.lt
   go_upto_region 4 with (fail)
   generalize (wr.alloc (.cells #[.string nm, .int .i64 l0, .int .i64 h0, .slice Am nm9 cm] 89)) = wt at o_t hbB2  hbr2 hgt |-; clear c0 c1 c2 c3 hbB hbr hbt ; generalize wr.heap.size = g at o_t hgt hwr |-; obtain ⟨t0, t1, t2, t3⟩ := o_t.cells4
   rcases Decidable.em (nm = z) with hc | hc
   ·skip
    have HQ : Hid (nmP z ⟨nm, l0, h0, ks⟩ = true) := by show _ = true; simp [nmP, hc]
    have d1 : (nm.toList == z.toList) = true := by rw [str_beq]; exact decide_eq_true hc
    clear hc; clear o_t 
    go_wp2
    go_ret
    exact ⟨by rw [fidx_here hlt HF.out (by rw [<- HT.out]; exact HQ.out)]; rfl, HB.out ▸ hbB2⟩
   ·skip
    have HQ : Hid (nmP z ⟨nm, l0, h0, ks⟩ = false) := by show _ = false; simp [nmP, hc]
    have d1 : (nm.toList == z.toList) = false := by rw [str_beq]; exact decide_eq_false hc
    clear hc; clear o_t 
    go_wp2
    go_roundg (C.texts.length + 1 - (j + 1))
    case measure => omega
    case rel => exact ⟨j + 1, rfl, by omega, by go_num, fidx_next hlt HF.out (by rw [<- HT.out]; exact HQ.out), hbr2⟩
  ·skip
   go_wp2
   go_ret
   exact ⟨by rw [fidx_end (by omega) HF.out]; rfl, HB.out ▸ hbB⟩
end Go.Proofs.YtjimfbmegmnocaaGreatDoor
