/- Parts of the proof: Cf, Cg. No condition of its own. -/
import Derived.Test.YtfenjklilocjgaaGreatDoorCe
import Derived.Lib.ConvBytes
set_option linter.unusedSimpArgs false
set_option linter.unusedVariables false
set_option linter.unusedSectionVars false
namespace Go.Proofs.YtfenjklilocjgaaGreatDoor
set_option linter.unusedSimpArgs false
set_option linter.unusedVariables false
set_option linter.unusedSectionVars false
open Go.RowKit

/-- Returns whether P holds; an error, none just where P holds. -/
def RetB (P : Prop) (e : Ending) : Prop := ∃ b : Bool, e = .returned (.bool b) ∧ (b = true ↔ P)
def RetE (P : Prop) (e : Ending) : Prop := ∃ k : Int, e = .returned (.int .i64 k) ∧ (k = 0 ↔ P)
theorem RetB.no {P : Prop} (h : ¬ P) : RetB P (.returned (.bool false)) := ⟨false, rfl, (fun h => nomatch h), fun h9 => absurd h9 h⟩
theorem RetB.yes {P : Prop} (h : P) : RetB P (.returned (.bool true)) := ⟨true, rfl, fun _ => h, fun _ => rfl⟩
theorem RetE.no {P : Prop} {k : Int} (h : ¬ P) (hk : k ≠ 0) : RetE P (.returned (.int .i64 k)) := ⟨k, rfl, fun h9 => absurd h9 hk, fun h9 => absurd h9 h⟩
theorem RetE.yes {P : Prop} (h : P) : RetE P (.returned (.int .i64 0)) := ⟨0, rfl, fun _ => h, fun _ => rfl⟩
/-- A name. -/
structure NameOK (s : ByteArray) : Prop where
  one : 1 ≤ s.size
  few : s.size ≤ 32
  head : ∀ h : 0 < s.size, fstB ((s[0]'h).toNat : Int) = true
  rest : ∀ i (h : i < s.size), 1 ≤ i → nxtB ((s[i]'h).toNat : Int) = true
set_option maxHeartbeats 1000000 in
theorem validName4_any (s : ByteArray) (hs : s.size ≤ maxLen) (w : World) :
    Calls Tryz.prog 91 #[.string s] w fun e w' => RetB (NameOK s) e ∧ w' = w := by
  unfold maxLen at hs
  rcases (show s.size < 1 ∨ 32 < s.size ∨ (1 ≤ s.size ∧ s.size ≤ 32) by omega) with hc | hc | ⟨hc1, hc2⟩
  · have d1 : decide (s.size < 1) = true := decide_eq_true hc
    have d2 : decide ((s.size : Int) < 1) = true := decide_eq_true (by omega)
    have H : Hid (¬ NameOK s) := fun h => by have := h.one; omega
    clear hs hc
    go_enter Tryz.func91, Tryz.ntmps91
    go_wp2
    all_goals
      go_ret
      exact ⟨RetB.no H.out, rfl⟩
  · have d1 : decide (s.size < 1) = false := decide_eq_false (by omega)
    have d2 : decide ((s.size : Int) < 1) = false := decide_eq_false (by omega)
    have d3 : decide (32 < s.size) = true := decide_eq_true hc
    have d4 : decide ((32 : Int) < (s.size : Int)) = true := decide_eq_true (by omega)
    have H : Hid (¬ NameOK s) := fun h => by have := h.few; omega
    go_enter Tryz.func91, Tryz.ntmps91
    go_wp2
    go_ret
    exact ⟨RetB.no H.out, rfl⟩
  · have d1 : decide (s.size < 1) = false := decide_eq_false (by omega)
    have d2 : decide ((s.size : Int) < 1) = false := decide_eq_false (by omega)
    have d3 : decide (32 < s.size) = false := decide_eq_false (by omega)
    have d4 : decide ((32 : Int) < (s.size : Int)) = false := decide_eq_false (by omega)
    have h0 : 0 < s.size := hc1
    have HF := Lib.hid (first4_any ((s[0]'h0).toNat : Int) (by omega) (by have := (s[0]'h0).toNat_lt; omega) w)
    go_enter Tryz.func91, Tryz.ntmps91
    go_wp2_with fail
    refine HF.out.mono ?_
    rintro e w1 ⟨rfl, rfl⟩
    rcases hf : fstB ((s[0]'h0).toNat : Int) with _ | _
    · have H : Hid (¬ NameOK s) := fun h => by have := h.head h0; rw [hf] at this; cases this
      clear HF hf
      go_wp2
      go_ret
      exact ⟨RetB.no H.out, rfl⟩
    · have HH : Hid (fstB ((s[0]'h0).toNat : Int) = true) := hf
      clear HF hf
      go_wp2_with fail
      go_loop [3] (fun v => ∃ j : Nat, 1 ≤ j ∧ j ≤ s.size ∧ v = .int .i64 (j : Int) ∧ Hid (∀ i (h : i < s.size), 1 ≤ i → i < j → nxtB ((s[i]'h).toNat : Int) = true)) (fun v => s.size - (intOf v).toNat)
      case atStart => exact ⟨1, Nat.le_refl _, by omega, rfl, fun i h h1 h2 => by omega⟩
      case round =>
        obtain ⟨j, hj1, hj, rfl, HR⟩ := hrel
        by_cases hlt : j < s.size
        · have HN := Lib.hid (next4_any ((s[j]'hlt).toNat : Int) (by omega) (by have := (s[j]'hlt).toNat_lt; omega) w1)
          go_wp2_with fail
          refine HN.out.mono ?_
          rintro e w2 ⟨rfl, rfl⟩
          rcases hf : nxtB ((s[j]'hlt).toNat : Int) with _ | _
          · have H : Hid (¬ NameOK s) := fun h => by have := h.rest j hlt hj1; rw [hf] at this; cases this
            clear HN hf
            go_wp2
            go_ret
            exact ⟨RetB.no H.out, rfl⟩
          · have HJ : Hid (nxtB ((s[j]'hlt).toNat : Int) = true) := hf
            clear HN hf
            go_wp2
            go_round
            case rel => exact ⟨j + 1, by omega, by omega, by go_num, fun i h h1 h2 => if e : i = j then by subst e; exact HJ.out else HR.out i h h1 (by omega)⟩
            case measure => simp [intOf]; omega
        · go_wp2
          go_ret
          exact ⟨RetB.yes ⟨hc1, hc2, fun _ => HH.out, fun i h h1 => HR.out i h h1 (by omega)⟩, rfl⟩
theorem below_bytesWorld (w : World) (e : TypeId) (s : ByteArray) : Below w.heap.size w (Lib.bytesWorld w e s) :=
  ⟨by simp [Lib.bytesWorld, World.freeze, World.alloc, World.drew, -World.alloc_eq, -World.drew_eq], by simp [Lib.bytesWorld, World.freeze, World.alloc, World.drew, -World.alloc_eq, -World.drew_eq], by simp [Lib.bytesWorld, World.freeze, World.alloc, World.drew, -World.alloc_eq, -World.drew_eq], by rw [Lib.bytesWorld_size]; omega, fun k hk => Lib.bytesWorld_at_old w e s k hk⟩
theorem getD_at9 {α : Type} {l : List α} {i : Nat} {d : α} (h : i < l.length) : l.getD i d = l[i] := by simp [List.getD, h]
/-- A value. -/
structure ValueOK (s : ByteArray) : Prop where
  few : s.size ≤ 120
  utf : VU s
  each : ∀ x ∈ s.data.toList, 32 ≤ x.toNat ∧ x.toNat ≠ 127
set_option maxRecDepth 100000 in
set_option maxHeartbeats 1000000 in
theorem validValue4_any (s : ByteArray) (hs : s.size ≤ maxLen) (w : World) :
    Calls Tryz.prog 132 #[.string s] w fun e w' => RetE (ValueOK s) e ∧ Below w.heap.size w w' := by
  unfold maxLen at hs
  rcases (show 120 < s.size ∨ s.size ≤ 120 by omega) with hc | hc
  · have d1 : decide (120 < s.size) = true := decide_eq_true hc
    have d2 : decide ((120 : Int) < (s.size : Int)) = true := decide_eq_true (by omega)
    have H : Hid (¬ ValueOK s) := fun h => by have := h.few; omega
    go_enter Tryz.func132, Tryz.ntmps132
    go_wp2
    go_ret
    exact ⟨RetE.no H.out (by decide), Below.refl _ _⟩
  · have d1 : decide (120 < s.size) = false := decide_eq_false (by omega)
    have d2 : decide ((120 : Int) < (s.size : Int)) = false := decide_eq_false (by omega)
    go_enter Tryz.func132, Tryz.ntmps132
    go_wp2_with fail
    refine (valid01_any s w (by omega)).mono ?_
    rintro e w1 ⟨b, rfl, hv, hb1⟩
    have HV := Lib.hid hv
    clear hv
    cases b
    · go_wp2
      go_ret
      exact ⟨RetE.no (fun h => absurd (HV.out.2 h.utf) (by decide)) (by decide), hb1⟩
    · have hrun := fun W => Lib.run_convert_string_bytes (P := Tryz.prog) W 9 39 5 s Tryz.underlying9 Tryz.underlying39 Tryz.underlying5
      have hb2 := belowB hb1 hb1.size (below_bytesWorld w1 5 s)
      have hcell := Lib.bytesWorld_cell w1 5 s
      have hsz := Lib.bytesWorld_size w1 5 s
      have hw1 := hb1.size
      go_upto_block 6 with (fail)
      generalize Lib.bytesWorld w1 5 s = wb at hb2 hcell hsz ⊢
      generalize grownCap w1 s.size 0 5 = cap
      clear hrun
      go_loop [14] (fun v => ∃ j : Nat, j ≤ s.size ∧ v = .int .i64 (j : Int) ∧ Hid (∀ i, i < j → 32 ≤ (s.data.toList.getD i 0).toNat ∧ (s.data.toList.getD i 0).toNat ≠ 127)) (fun v => s.size - (intOf v).toNat)
      case atStart => exact ⟨0, Nat.zero_le _, rfl, fun i h => absurd h (Nat.not_lt_zero _)⟩
      case round =>
        obtain ⟨j, hj, rfl, HR⟩ := hrel
        by_cases hlt : j < s.size
        · have hc0 := hcell j hlt
          have hmem : s.data.toList.getD j 0 ∈ s.data.toList := by
            have hl : j < s.data.toList.length := by simpa using hlt
            rw [getD_at9 hl]
            exact List.getElem_mem hl
          have HM := Lib.hid hmem
          have HB9 := HR
          obtain ⟨x, hx⟩ : ∃ x, x = s.data.toList.getD j 0 := ⟨_, rfl⟩
          rw [← hx] at hc0 HM
          have HX := Lib.hid hx
          clear hx hmem hcell
          have hxl := x.toNat_lt
          rcases (show x.toNat < 32 ∨ (32 ≤ x.toNat ∧ x.toNat = 127) ∨ (32 ≤ x.toNat ∧ x.toNat ≠ 127) by omega) with h | h | h
          · have H : Hid (¬ ValueOK s) := fun hv => by have := hv.each x HM.out; omega
            have e1 : decide ((x.toNat : Int) < 32) = true := decide_eq_true (by omega)
            have e2 : decide (x.toNat < 32) = true := decide_eq_true (by omega)
            clear h
            go_wp2
            go_ret
            exact ⟨RetE.no H.out (by decide), hb2⟩
          · have H : Hid (¬ ValueOK s) := fun hv => by have := hv.each x HM.out; omega
            have e1 : decide ((x.toNat : Int) < 32) = false := decide_eq_false (by omega)
            have e2 : decide (x.toNat < 32) = false := decide_eq_false (by omega)
            have e3 : ((x.toNat : Int) == 127) = true := beq_iff_eq.2 (by omega)
            have e4 : (x.toNat == 127) = true := beq_iff_eq.2 (by omega)
            clear h
            go_wp2
            go_ret
            exact ⟨RetE.no H.out (by decide), hb2⟩
          · have HG := Lib.hid h
            have e1 : decide ((x.toNat : Int) < 32) = false := decide_eq_false (by omega)
            have e2 : decide (x.toNat < 32) = false := decide_eq_false (by omega)
            have e3 : ((x.toNat : Int) == 127) = false := beq_eq_false_iff_ne.2 (by omega)
            have e4 : (x.toNat == 127) = false := beq_eq_false_iff_ne.2 (by omega)
            clear h
            go_wp2
            go_round
            case rel => exact ⟨j + 1, by omega, by go_num, fun i h => if e : i = j then by subst e; rw [← HX.out]; exact HG.out else HB9.out i (by omega)⟩
            case measure => simp [intOf]; omega
        · go_wp2
          go_ret
          refine ⟨RetE.yes ⟨hc, HV.out.1 trivial, fun x hx => ?_⟩, hb2⟩
          obtain ⟨i, hi, rfl⟩ := List.mem_iff_getElem.1 hx
          have := HR.out i (by simp at hi; omega)
          rw [getD_at9 hi] at this
          exact this
set_option linter.unusedSimpArgs false
set_option linter.unusedVariables false
set_option linter.unusedSectionVars false
open Go.RowKit

/-- An error; none only where P holds. -/
def RetI (P : Prop) (e : Ending) : Prop := ∃ k : Int, e = .returned (.int .i64 k) ∧ (k = 0 → P)
def RetVI (P : Prop) (e : Ending) : Prop := ∃ (v : Value) (k : Int), e = .returned (.tuple #[v, .int .i64 k]) ∧ (k = 0 → P)
theorem RetVI.no {P : Prop} {k : Int} (v : Value) (hk : k ≠ 0) : RetVI P (.returned (.tuple #[v, .int .i64 k])) := ⟨v, k, rfl, fun h => absurd h hk⟩
theorem RetVI.yes {P : Prop} (v : Value) (h : P) : RetVI P (.returned (.tuple #[v, .int .i64 0])) := ⟨v, 0, rfl, fun _ => h⟩
abbrev csS (l : List ByteArray) : List Value := l.map Value.string
theorem strg_info : (Tryz.prog.info? 9).map (fun i => (i.zero, i.size, i.bytes)) = some (some (.string ⟨#[]⟩), 1, 16) := by kernel_rfl
set_option maxRecDepth 100000 in
set_option maxHeartbeats 4000000 in
theorem parse05_any (s : ByteArray) (hs : s.size ≤ maxLen) (w : World) :
    Calls Tryz.prog 131 #[.string s] w fun e w' => RetVI (ValueOK s) e ∧ Below w.heap.size w w' := by
  obtain ⟨i0, hi0, hz0, hz1, hz2⟩ := info_parts strg_info
  have HP := Lib.hid (validValue4_any s hs w)
  unfold maxLen at hs
  go_enter Tryz.func131, Tryz.ntmps131
  go_wp2_with fail
  refine HP.out.mono ?_
  rintro e w1 ⟨⟨k, rfl, hk⟩, hb1⟩
  clear HP
  by_cases hk0 : k = 0
  · subst hk0
    have hok : ValueOK s := hk.1 rfl
    have HOK := Lib.hid hok
    have h120 := hok.few
    clear hk hok hs
    rcases (show s.size = 0 ∨ 0 < s.size by omega) with h0 | h0
    · have d1 : ((s.size : Int) == 0) = true := beq_iff_eq.2 (by omega)
      have d2 : (s.size == 0) = true := beq_iff_eq.2 (by omega)
      clear h0
      go_wp2
      all_goals
        go_ret2
        exact ⟨RetVI.no _ (by decide), hb1⟩
    · have d1 : ((s.size : Int) == 0) = false := beq_eq_false_iff_ne.2 (by omega)
      have d2 : (s.size == 0) = false := beq_eq_false_iff_ne.2 (by omega)
      have hn1 : s.size - 1 < s.size := by omega
      have z1 : IntKind.i64.wrap ((s.size : Int) - 1) = ((s.size - 1 : Nat) : Int) := (IntWalk.i64_in ((s.size : Int) - 1) (by omega)).trans (by omega)
      rcases hf : (((s[0]'h0).toNat : Int) != 124) with _ | _
      · rcases hl : (((s[s.size - 1]'hn1).toNat : Int) != 124) with _ | _
        · go_upto_block 10 with (fail)
          have hw1 := hb1.size
          clear hf hl z1
          go_loopg [6, 7, 8] s.size (fun q v6 v7 v8 wr => ∃ (i fr : Nat) (L : List ByteArray), q = s.size + 1 - i ∧ 1 ≤ i ∧ i ≤ s.size ∧ 1 ≤ fr ∧ fr ≤ i ∧ L.length ≤ i ∧ v7 = .int .i64 (fr : Int) ∧ v8 = .int .i64 (i : Int) ∧ Hid (wr.ownsRow w1.heap.size 9 1 v6 L.length (csS L)) ∧ Below w1.heap.size w1 wr)
          case atStart => exact ⟨1, 1, [], by omega, Nat.le_refl _, by omega, Nat.le_refl _, Nat.le_refl _, Nat.zero_le _, rfl, rfl, World.ownsRow_nil _ _ _ _, Below.refl _ _⟩
          case round =>
            obtain ⟨i, fr, L, rfl, hi1, hi, hf1, hf, hL, rfl, rfl, HO, hbr⟩ := hrel
            have hwr := hbr.size
            by_cases hlt : i < s.size
            · rcases hx : (((s[i]'hlt).toNat : Int) != 124) with _ | _
              · by_cases hfi : i = fr
                · have d3 : ((i : Int) == (fr : Int)) = true := beq_iff_eq.2 (by omega)
                  have d4 : (i == fr) = true := beq_iff_eq.2 hfi
                  clear hfi
                  go_wp2
                  go_ret2
                  exact ⟨RetVI.no _ (by decide), hb1.trans (hbr.mono hw1)⟩
                · have d3 : ((i : Int) == (fr : Int)) = false := beq_eq_false_iff_ne.2 (by omega)
                  have d4 : (i == fr) = false := beq_eq_false_iff_ne.2 hfi
                  have hfi' : fr < i := by omega
                  clear hfi
                  have h63 : L.length + 1 ≤ maxLen := by unfold maxLen; omega
                  have z2 : IntKind.i64.wrap ((i : Int) + 1) = (i : Int) + 1 := IntWalk.i64_in _ (by omega)
                  go_wp2_with (at_builtin; refine wpList_append_own_at _ rfl (.tmp 43) (.tmp 48) 28 rfl w1.heap.size 9 i0 _ 1 16 Tryz.underlying28 hi0 hz0 hz1 hz2 rfl (by decide) _ L.length (csS L) rfl (HO.out.alloc _) ⟨wr.heap.size, 0, none⟩ 1 1 [.string (s.extract fr i)] rfl rfl (new_cells _ _ _ _ rfl) (by simp [Value.oneCell']) h63 (by omega) (by rw [size1]; omega) ?_)
                  intro v' wx hown' hgrow' hnil' hat'
                  have hbz := (hbr.alloc (by omega) (.cells #[.string (s.extract fr i)] 9)).grown hgrow' (by rw [size1]; omega) (fun j hj => own_lt HO.out j hj)
                  have HO' : Hid (wx.ownsRow w1.heap.size 9 1 v' (L ++ [s.extract fr i]).length (csS (L ++ [s.extract fr i]))) := by
                    show World.ownsRow _ _ _ _ _ _ _
                    rw [List.length_append, csS, List.map_append]; exact hown'
                  clear hown' hgrow' hnil' hat' h63
                  go_wp2
                  go_roundg (s.size + 1 - (i + 1))
                  case measure => omega
                  case rel => exact ⟨i + 1, i + 1, L ++ [s.extract fr i], rfl, by omega, by omega, by omega, by omega, by simp; omega, by go_num, by go_num, HO', hbz⟩
              · have z2 : IntKind.i64.wrap ((i : Int) + 1) = (i : Int) + 1 := IntWalk.i64_in _ (by omega)
                go_wp2
                go_roundg (s.size + 1 - (i + 1))
                case measure => omega
                case rel => exact ⟨i + 1, fr, L, rfl, by omega, by omega, by omega, by omega, by omega, rfl, by go_num, HO, hbr⟩
            · obtain ⟨A, c, rfl, hc1, hc2⟩ := own_form HO.out
              have hrd := Rd.of_own HO.out
              unfold maxLen at hc2
              clear HO
              go_wp2_with fail
              go_loopg [9] (L.length + 1) (fun q v9 wx => ∃ j : Nat, q = L.length + 2 - j ∧ 1 ≤ j ∧ j ≤ L.length + 1 ∧ v9 = .int .i64 (j : Int) ∧ Below wr.heap.size wr wx)
              case atStart => exact ⟨1, by omega, Nat.le_refl _, by omega, rfl, Below.refl _ _⟩
              case round =>
                obtain ⟨j, rfl, hj1, hj, rfl, hbx⟩ := hrel
                have hwx := hbx.size
                by_cases hjl : j < L.length
                · have hr := hrd.below hbx
                  have hjl' : j - 1 < L.length := by omega
                  obtain ⟨b, off, rfl, cj⟩ := hr j (.string L[j]) (by simp [csS, hjl])
                  obtain ⟨b', off', ee, ci⟩ := hr (j - 1) (.string L[j - 1]) (by simp [csS, hjl'])
                  injection ee with ee
                  injection ee with e1 e2
                  subst e1 e2
                  have z3 : IntKind.i64.wrap ((j : Int) - 1) = ((j - 1 : Nat) : Int) := (IntWalk.i64_in ((j : Int) - 1) (by omega)).trans (by omega)
                  have z4 : IntKind.i64.wrap ((j : Int) + 1) = (j : Int) + 1 := IntWalk.i64_in _ (by omega)
                  have d6 : decide (j < L.length) = true := decide_eq_true hjl
                  generalize L[j] = sj at cj
                  generalize L[j - 1] = si at ci
                  clear hr hrd hlt
                  rcases hb : Op.bytesLess si.toList sj.toList with _ | _
                  · go_upto_region 20 with (fail)
                    refine wp_reg_f [some 58, some 59, some 60, some 61, some 62, some 63, some 64, some 65, some 66, some 67] [?v1_0, ?v1_1, ?v1_2, ?v1_3, ?v1_4, ?v1_5, ?v1_6, ?v1_7, ?v1_8, ?v1_9] [[], [], [1], [0, 2], [3], [], [], [5, 6], [7], [4, 8]] [(6, _), (9, _)] ⟨rfl, rfl, trivial⟩ rfl (by kernel_rfl) rfl rfl (by kernel_rfl) (by kernel_rfl) ⟨?s1_0, ?s1_1, ?s1_2, ?s1_3, ?s1_4, ?s1_5, ?s1_6, ?s1_7, ?s1_8, ?s1_9, trivial⟩ ?p1
                    all_goals try (intro t9 w9 hT9 K9 hK9; simp only [OV, FV, List.getD_cons_succ, List.getD_cons_zero, Option.getD_some]; intros)
                    case s1_0 | s1_1 | s1_2 | s1_3 | s1_4 | s1_5 | s1_6 | s1_7 | s1_8 | s1_9 =>
                      have d9_0 := grow_cell hT9 cj; have d9_1 := grow_cell hT9 ci
                      go_simp
                      exact hK9 _ (Grow.refl _)
                    intro w9 hb9
                    simp only [putL, Act.put, List.setIfInBounds_toArray, List.set_cons_succ, List.set_cons_zero]
                    go_wp2
                    go_ret2
                    exact ⟨RetVI.no _ (by decide), ((hb1.trans (hbr.mono hw1)).trans (hbx.mono (by omega))).trans (hb9.mono (by omega))⟩
                  · go_upto_region 20 with (fail)
                    refine wp_reg_f [some 58, some 59, some 60, some 61, some 62, some 63, some 64, some 65, some 66, some 67] [?v2_0, ?v2_1, ?v2_2, ?v2_3, ?v2_4, ?v2_5, ?v2_6, ?v2_7, ?v2_8, ?v2_9] [[], [], [1], [0, 2], [3], [], [], [5, 6], [7], [4, 8]] [(6, _), (9, _)] ⟨rfl, rfl, trivial⟩ rfl (by kernel_rfl) rfl rfl (by kernel_rfl) (by kernel_rfl) ⟨?s2_0, ?s2_1, ?s2_2, ?s2_3, ?s2_4, ?s2_5, ?s2_6, ?s2_7, ?s2_8, ?s2_9, trivial⟩ ?p2
                    all_goals try (intro t9 w9 hT9 K9 hK9; simp only [OV, FV, List.getD_cons_succ, List.getD_cons_zero, Option.getD_some]; intros)
                    case s2_0 | s2_1 | s2_2 | s2_3 | s2_4 | s2_5 | s2_6 | s2_7 | s2_8 | s2_9 =>
                      have d9_0 := grow_cell hT9 cj; have d9_1 := grow_cell hT9 ci
                      go_simp
                      exact hK9 _ (Grow.refl _)
                    intro w9 hb9
                    simp only [putL, Act.put, List.setIfInBounds_toArray, List.set_cons_succ, List.set_cons_zero]
                    go_wp2
                    go_roundg (L.length + 2 - (j + 1))
                    case measure => omega
                    case rel => exact ⟨j + 1, rfl, by omega, by omega, by go_num, belowB hbx (by omega) hb9⟩
                · go_wp2
                  go_ret2
                  exact ⟨RetVI.yes _ HOK.out, (hb1.trans (hbr.mono hw1)).trans (hbx.mono (by omega))⟩
        · go_wp2
          go_ret2
          exact ⟨RetVI.no _ (by decide), hb1⟩
      · go_wp2
        go_ret2
        exact ⟨RetVI.no _ (by decide), hb1⟩
  · have d1 : (k == 0) = false := beq_eq_false_iff_ne.2 hk0
    have d2 : (k != 0) = true := by rw [bne_iff_ne]; exact hk0
    have H := Lib.hid hk0
    clear hk hk0
    go_wp2
    go_ret2
    exact ⟨RetVI.no _ H.out, hb1⟩
end Go.Proofs.YtfenjklilocjgaaGreatDoor
