/- Parts of the proof: Ca, Cb. No condition of its own. -/
import Derived.Test.YtfenjklilocjgaaGreatDoorCo
import Derived.Test.YtfenjklilocjgaaGreatDoorShelf
import Derived.IntWalk
import Derived.Deep.LoopGhost
import Derived.Deep.DeepCutAuto
import Derived.Deep.CutBlock
import Derived.Deep.QuietTactic
import Derived.BigQuiet
import Derived.Maps.AppendAt
set_option linter.unusedSimpArgs false
set_option linter.unusedVariables false
set_option linter.unusedSectionVars false
namespace Go.Proofs.YtfenjklilocjgaaGreatDoor
set_option linter.unusedSimpArgs false
set_option linter.unusedVariables false
set_option linter.unusedSectionVars false
open Go.RowKit

theorem belowB {B : Nat} {w w' w'' : World} (h : Below B w w') (hB : B ≤ w'.heap.size) (h2 : Below w'.heap.size w' w'') : Below B w w'' := h.trans (h2.mono hB)
/-- The token lies in the text. -/
def atP (a : Int) (t : Spn) : Bool := decide (t.lo ≤ a) && decide (a < t.hi)
set_option linter.unusedSimpArgs false
set_option linter.unusedVariables false
set_option linter.unusedSectionVars false
open Go.RowKit

/-- The place of the first element. -/
def placeI (o : Option Nat) : Int := match o with | some i => (i : Int) | none => -1
theorem fidx_next {α : Type} {l : List α} {p : α → Bool} {j : Nat} (hj : j < l.length) (h : ∀ i (hi : i < l.length), i < j → p l[i] = false) (hp : p l[j] = false) : ∀ i (hi : i < l.length), i < j + 1 → p l[i] = false := by
  intro i hi h1
  by_cases e : i = j
  · subst e; exact hp
  · exact h i hi (by omega)
theorem fidx_here {α : Type} {l : List α} {p : α → Bool} {j : Nat} (hj : j < l.length) (h : ∀ i (hi : i < l.length), i < j → p l[i] = false) (hp : p l[j] = true) : l.findIdx? p = some j := by
  rw [List.findIdx?_eq_some_iff_getElem]
  exact ⟨hj, hp, fun i hi => by rw [h i (by omega) hi]; decide⟩
theorem fidx_end {α : Type} {l : List α} {p : α → Bool} {j : Nat} (hj : l.length ≤ j) (h : ∀ i (hi : i < l.length), i < j → p l[i] = false) : l.findIdx? p = none := by
  rw [List.findIdx?_eq_none_iff]
  intro x hx
  obtain ⟨i, hi, rfl⟩ := List.mem_iff_getElem.1 hx
  exact h i hi (by omega)
set_option maxRecDepth 100000 in
set_option maxHeartbeats 4000000 in
theorem textAt6_any {S : Nat → Prop} {a t x r n h s : Value} {C : Cor} (w : World) (q : CorC S w a t x r n h s C) (k : Int) :
    Calls Tryz.prog 97 #[.agg #[a, t, x, r, n, h, s], .int .i64 k] w fun e w' => e = .returned (.int .i64 (placeI (C.texts.findIdx? (atP k)))) ∧ Below w.heap.size w w' := by
  obtain ⟨A, c, rfl, h1, h2, -⟩ := EO.form q.x
  obtain ⟨o_c, hbw⟩ := new1 w [a, t, .slice A C.texts.length c, r, n, h, s] 30
  have q' := q.below hbw
  have hsz : (w.alloc (.cells #[a, t, .slice A C.texts.length c, r, n, h, s] 30)).heap.size = w.heap.size + 1 := by simp
  go_enter Tryz.func97, Tryz.ntmps97
  go_upto_region 1 with (fail)
  generalize (w.alloc (.cells #[a, t, .slice A C.texts.length c, r, n, h, s] 30)) = wb at o_c hbw hsz q' ⊢
  obtain ⟨B, hB⟩ : ∃ B, B = w.heap.size := ⟨_, rfl⟩
  rw [← hB] at o_c hsz hbw ⊢
  have HB := Lib.hid hB
  clear hB
  have qc : wb.cell? ⟨B, 2, none⟩ = some (.slice A C.texts.length c) := o_c.cell 2
  unfold maxLen at h2
  clear q o_c
  go_wp2_with fail
  clear qc
  go_loopg [10] (C.texts.length + 1) (fun q v wr => ∃ j : Nat, q = C.texts.length + 1 - j ∧ j ≤ C.texts.length ∧ v = .int .i64 (j : Int) ∧ Hid (∀ i (hi : i < C.texts.length), i < j → atP k C.texts[i] = false) ∧ Below wb.heap.size wb wr)
  case atStart => exact ⟨0, rfl, Nat.zero_le _, rfl, (fun _ _ h => absurd h (Nat.not_lt_zero _)), Below.refl _ _⟩
  case round =>
    obtain ⟨j, rfl, hj, rfl, HF, hbr⟩ := hrel
    have hbB : Below B w wr := hbw.trans (hbr.mono (by omega))
    have hwr := hbr.size
    by_cases hlt : j < C.texts.length
    · have q9 := q'.below hbr
      obtain ⟨b, off, m, rfl, -, c0, c1, c2, c3, hm, -, z1, z2⟩ := SpnsO.get q9.x hlt
      obtain ⟨Am, cm, rfl, -, -, -⟩ := EO.form hm
      generalize C.texts[j].keys.length = nm9 at c3
      clear hm
      obtain ⟨tx, htx⟩ : ∃ tx, tx = C.texts[j] := ⟨_, rfl⟩
      rw [← htx] at c0 c1 c2 z1 z2
      have HT := Lib.hid htx
      obtain ⟨nm, l0, h0, ks⟩ := tx
      clear htx q9
      dsimp only at c0 c1 c2 z1 z2
      unfold I64 at z1 z2
      obtain ⟨o_t, hbt⟩ := new1 wr [.string nm, .int .i64 l0, .int .i64 h0, .slice Am nm9 cm] 71
      have hbB2 := belowB hbB (by omega) hbt
      have hbr2 := belowB hbr (by omega) hbt
      have hgt := o_t.lt
      go_upto_region 4 with (fail)
      generalize (wr.alloc (.cells #[.string nm, .int .i64 l0, .int .i64 h0, .slice Am nm9 cm] 71)) = wt at o_t hbB2  hbr2 hgt ⊢
      clear c0 c1 c2 c3 hbB hbr hbt 
      generalize wr.heap.size = g at o_t hgt hwr ⊢
      have t0 : wt.cell? ⟨g, 0, none⟩ = some (.string nm) := o_t.cell 0
      have t1 : wt.cell? ⟨g, 1, none⟩ = some (.int .i64 l0) := o_t.cell 1
      have t2 : wt.cell? ⟨g, 2, none⟩ = some (.int .i64 h0) := o_t.cell 2
      have t3 : wt.cell? ⟨g, 3, none⟩ = some (.slice Am nm9 cm) := o_t.cell 3
      rcases (show (l0 ≤ k ∧ k < h0) ∨ (k < l0) ∨ (l0 ≤ k ∧ h0 ≤ k) by omega) with hc | hc | hc
      · skip
        have HQ : Hid (atP k ⟨nm, l0, h0, ks⟩ = true) := by show _ = true; simp [atP]; omega
        clear o_t 
        go_wp2
        go_ret
        exact ⟨by rw [fidx_here hlt HF.out (by rw [← HT.out]; exact HQ.out)]; rfl, HB.out ▸ hbB2⟩
      · skip
        have HQ : Hid (atP k ⟨nm, l0, h0, ks⟩ = false) := by show _ = false; simp [atP]; omega
        clear o_t 
        go_wp2
        go_roundg (C.texts.length + 1 - (j + 1))
        case measure => omega
        case rel => exact ⟨j + 1, rfl, by omega, by go_num, fidx_next hlt HF.out (by rw [← HT.out]; exact HQ.out), hbr2⟩
      · skip
        have HQ : Hid (atP k ⟨nm, l0, h0, ks⟩ = false) := by show _ = false; simp [atP]; omega
        clear o_t 
        go_wp2
        go_roundg (C.texts.length + 1 - (j + 1))
        case measure => omega
        case rel => exact ⟨j + 1, rfl, by omega, by go_num, fidx_next hlt HF.out (by rw [← HT.out]; exact HQ.out), hbr2⟩
    · skip
      go_wp2
      go_ret
      exact ⟨by rw [fidx_end (by omega) HF.out]; rfl, HB.out ▸ hbB⟩
/-- The interval lies in the text and is not empty. -/
def wiP (a b : Int) (t : Spn) : Bool := decide (t.lo ≤ a) && (decide (a < b) && decide (b ≤ t.hi))
theorem any_here {l : List Spn} {p : Spn → Bool} {j : Nat} (hj : j < l.length) (hp : p l[j] = true) : l.any p = true := List.any_eq_true.2 ⟨_, List.getElem_mem hj, hp⟩
theorem any_end {l : List Spn} {p : Spn → Bool} {j : Nat} (hj : l.length ≤ j) (h : ∀ i (hi : i < l.length), i < j → p l[i] = false) : l.any p = false := by
  rw [List.any_eq_false]
  intro x hx
  obtain ⟨i, hi, rfl⟩ := List.mem_iff_getElem.1 hx
  rw [h i hi (by omega)]; decide
set_option maxRecDepth 100000 in
set_option maxHeartbeats 4000000 in
theorem within_any {S : Nat → Prop} {a t x r n h s : Value} {C : Cor} (w : World) (q : CorC S w a t x r n h s C) (k m : Int) :
    Calls Tryz.prog 94 #[.agg #[a, t, x, r, n, h, s], .int .i64 k, .int .i64 m] w fun e w' => e = .returned (.bool (C.texts.any (wiP k m))) ∧ Below w.heap.size w w' := by
  obtain ⟨A, c, rfl, h1, h2, -⟩ := EO.form q.x
  obtain ⟨o_c, hbw⟩ := new1 w [a, t, .slice A C.texts.length c, r, n, h, s] 30
  have q' := q.below hbw
  have hsz : (w.alloc (.cells #[a, t, .slice A C.texts.length c, r, n, h, s] 30)).heap.size = w.heap.size + 1 := by simp
  go_enter Tryz.func94, Tryz.ntmps94
  go_upto_region 1 with (fail)
  generalize (w.alloc (.cells #[a, t, .slice A C.texts.length c, r, n, h, s] 30)) = wb at o_c hbw hsz q' ⊢
  obtain ⟨B, hB⟩ : ∃ B, B = w.heap.size := ⟨_, rfl⟩
  rw [← hB] at o_c hsz hbw ⊢
  have HB := Lib.hid hB
  clear hB
  have qc : wb.cell? ⟨B, 2, none⟩ = some (.slice A C.texts.length c) := o_c.cell 2
  unfold maxLen at h2
  clear q o_c
  go_wp2_with fail
  clear qc
  go_loopg [12] (C.texts.length + 1) (fun q v wr => ∃ j : Nat, q = C.texts.length + 1 - j ∧ j ≤ C.texts.length ∧ v = .int .i64 (j : Int) ∧ Hid (∀ i (hi : i < C.texts.length), i < j → wiP k m C.texts[i] = false) ∧ Below wb.heap.size wb wr)
  case atStart => exact ⟨0, rfl, Nat.zero_le _, rfl, (fun _ _ h => absurd h (Nat.not_lt_zero _)), Below.refl _ _⟩
  case round =>
    obtain ⟨j, rfl, hj, rfl, HF, hbr⟩ := hrel
    have hbB : Below B w wr := hbw.trans (hbr.mono (by omega))
    have hwr := hbr.size
    by_cases hlt : j < C.texts.length
    · have q9 := q'.below hbr
      obtain ⟨b, off, m, rfl, -, c0, c1, c2, c3, hm, -, z1, z2⟩ := SpnsO.get q9.x hlt
      obtain ⟨Am, cm, rfl, -, -, -⟩ := EO.form hm
      generalize C.texts[j].keys.length = nm9 at c3
      clear hm
      obtain ⟨tx, htx⟩ : ∃ tx, tx = C.texts[j] := ⟨_, rfl⟩
      rw [← htx] at c0 c1 c2 z1 z2
      have HT := Lib.hid htx
      obtain ⟨nm, l0, h0, ks⟩ := tx
      clear htx q9
      dsimp only at c0 c1 c2 z1 z2
      unfold I64 at z1 z2
      obtain ⟨o_t, hbt⟩ := new1 wr [.string nm, .int .i64 l0, .int .i64 h0, .slice Am nm9 cm] 71
      have hbB2 := belowB hbB (by omega) hbt
      have hbr2 := belowB hbr (by omega) hbt
      have hgt := o_t.lt
      go_upto_region 4 with (fail)
      generalize (wr.alloc (.cells #[.string nm, .int .i64 l0, .int .i64 h0, .slice Am nm9 cm] 71)) = wt at o_t hbB2  hbr2 hgt ⊢
      clear c0 c1 c2 c3 hbB hbr hbt 
      generalize wr.heap.size = g at o_t hgt hwr ⊢
      have t0 : wt.cell? ⟨g, 0, none⟩ = some (.string nm) := o_t.cell 0
      have t1 : wt.cell? ⟨g, 1, none⟩ = some (.int .i64 l0) := o_t.cell 1
      have t2 : wt.cell? ⟨g, 2, none⟩ = some (.int .i64 h0) := o_t.cell 2
      have t3 : wt.cell? ⟨g, 3, none⟩ = some (.slice Am nm9 cm) := o_t.cell 3
      rcases (show (l0 ≤ k ∧ k < m ∧ m ≤ h0) ∨ (k < l0) ∨ (l0 ≤ k ∧ m ≤ k) ∨ (l0 ≤ k ∧ k < m ∧ h0 < m) by omega) with hc | hc | hc | hc
      · skip
        have HQ : Hid (wiP k m ⟨nm, l0, h0, ks⟩ = true) := by show _ = true; simp [wiP]; omega
        clear o_t 
        go_wp2
        go_ret
        exact ⟨by rw [any_here hlt (by rw [← HT.out]; exact HQ.out)]; rfl, HB.out ▸ hbB2⟩
      · skip
        have HQ : Hid (wiP k m ⟨nm, l0, h0, ks⟩ = false) := by show _ = false; simp [wiP]; omega
        clear o_t 
        go_wp2
        go_roundg (C.texts.length + 1 - (j + 1))
        case measure => omega
        case rel => exact ⟨j + 1, rfl, by omega, by go_num, fidx_next hlt HF.out (by rw [← HT.out]; exact HQ.out), hbr2⟩
      · skip
        have HQ : Hid (wiP k m ⟨nm, l0, h0, ks⟩ = false) := by show _ = false; simp [wiP]; omega
        clear o_t 
        go_wp2
        go_roundg (C.texts.length + 1 - (j + 1))
        case measure => omega
        case rel => exact ⟨j + 1, rfl, by omega, by go_num, fidx_next hlt HF.out (by rw [← HT.out]; exact HQ.out), hbr2⟩
      · skip
        have HQ : Hid (wiP k m ⟨nm, l0, h0, ks⟩ = false) := by show _ = false; simp [wiP]; omega
        clear o_t 
        go_wp2
        go_roundg (C.texts.length + 1 - (j + 1))
        case measure => omega
        case rel => exact ⟨j + 1, rfl, by omega, by go_num, fidx_next hlt HF.out (by rw [← HT.out]; exact HQ.out), hbr2⟩
    · skip
      go_wp2
      go_ret
      exact ⟨by rw [any_end (by omega) HF.out]; rfl, HB.out ▸ hbB⟩
theorem str_beq {s t : ByteArray} : (s.toList == t.toList) = decide (s = t) := by
  rw [ByteArray.toList_eq, ByteArray.toList_eq, Bool.eq_iff_iff, beq_iff_eq, decide_eq_true_iff]
  constructor
  · intro h
    obtain ⟨⟨l⟩⟩ := s
    obtain ⟨⟨m⟩⟩ := t
    simp at h
    rw [h]
  · intro h
    rw [h]
end Go.Proofs.YtfenjklilocjgaaGreatDoor
