/- Parts of the proof: Ce. No condition of its own. -/
import Derived.Test.YtfenjklilocjgaaGreatDoorCd
set_option linter.unusedSimpArgs false
set_option linter.unusedVariables false
set_option linter.unusedSectionVars false
namespace Go.Proofs.YtfenjklilocjgaaGreatDoor
set_option linter.unusedSimpArgs false
set_option linter.unusedVariables false
set_option linter.unusedSectionVars false
open Go.RowKit

theorem cus2_all (L : List (Nat × Nat × Nat)) (k j : Nat) (hk : k < L.length) (u : Value) (hu : (cu L[k] (okU L[k]))[j]? = some u) : (cus2 L L.length)[k * 4 + j]? = some u := by
  have e : cus2 L L.length = (L.map fun u => cu u (okU u)).flatten := by
    unfold cus2
    rw [List.take_length, List.drop_length]
    simp
  rw [e]
  exact flat_get (k := 4) (wideM (f := fun u => cu u (okU u)) fun _ => rfl) k (cu L[k] (okU L[k])) j u (by rw [List.getElem?_map, List.getElem?_eq_getElem hk]; rfl) hu
set_option maxRecDepth 100000 in
set_option maxHeartbeats 2000000 in
theorem valid01_any (s : ByteArray) (w : World) (hs : s.size ≤ 1000000) :
    Calls Tryz.prog 150 #[.string s] w fun e w' => ∃ b : Bool, e = .returned (.bool b) ∧ (b = true ↔ VU s) ∧ Below w.heap.size w w' := by
  go_enter Tryz.func150, Tryz.ntmps150
  go_wp2_with fail
  refine (units_any s w hs).mono ?_
  rintro e w1 ⟨v, rfl, ⟨L, q, hc, hq, hown⟩, hb1⟩
  obtain ⟨A, c, rfl, h1, h2⟩ := own_form hown
  have hrd := Rd.of_own hown
  have HV := Lib.hid (vu_of hc hq)
  have hlen := chain_len hc
  have htop := chain_top hc (Nat.zero_le _)
  have HM := Lib.hid (chain_mem hc)
  have hw1 := hb1.size
  clear hown hc
  unfold maxLen at h2
  go_wp2_with fail
  go_loopg [8] (L.length + 1) (fun q v wr => ∃ k : Nat, q = L.length + 1 - k ∧ k ≤ L.length ∧ v = .int .i64 (k : Int) ∧ Hid (∀ i (hi : i < L.length), i < k → okU L[i] = true) ∧ Below w1.heap.size w1 wr)
  case atStart => exact ⟨0, rfl, Nat.zero_le _, rfl, (fun _ _ h => absurd h (Nat.not_lt_zero _)), Below.refl _ _⟩
  case round =>
    obtain ⟨k, rfl, hk, rfl, HF, hbr⟩ := hrel
    have hbB : Below w.heap.size w wr := hb1.trans (hbr.mono hw1)
    have hwr := hbr.size
    by_cases hkl : k < L.length
    · have hr := hrd.below hbr
      obtain ⟨b, off, rfl, c0⟩ := hr (k * 4 + 0) _ (cus2_all L k 0 hkl _ rfl)
      have cc : ∀ j u, (cu L[k] (okU L[k]))[j]? = some u → wr.cell? ⟨b, off + k * 4 + j, none⟩ = some u := by
        intro j u hu
        obtain ⟨b', off', e, hc'⟩ := hr (k * 4 + j) _ (cus2_all L k j hkl u hu)
        injection e with e
        injection e with e1 e2
        subst e1 e2
        rw [Nat.add_assoc]; exact hc'
      have c0 : wr.cell? ⟨b, off + k * 4, none⟩ = some (.int .i32 (L[k].1 : Int)) := cc 0 _ rfl
      have c1 : wr.cell? ⟨b, off + k * 4 + 1, none⟩ = some (.int .i64 (L[k].2.1 : Int)) := cc 1 _ rfl
      have c2 : wr.cell? ⟨b, off + k * 4 + 2, none⟩ = some (.int .i64 (L[k].2.2 : Int)) := cc 2 _ rfl
      have c3 : wr.cell? ⟨b, off + k * 4 + 3, none⟩ = some (.bool (okU L[k])) := cc 3 _ rfl
      obtain ⟨ok, hok⟩ : ∃ ok, ok = okU L[k] := ⟨_, rfl⟩
      rw [← hok] at c3
      have HOK := Lib.hid hok
      clear hok cc hr
      generalize (L[k].1 : Int) = x0 at c0
      generalize (L[k].2.1 : Int) = x1 at c1
      generalize (L[k].2.2 : Int) = x2 at c2
      obtain ⟨o_t, hbt⟩ := new1 wr [.int .i32 x0, .int .i64 x1, .int .i64 x2, .bool ok] 195
      have hbB2 := belowB hbB (by omega) hbt
      have hbr2 := belowB hbr (by omega) hbt
      go_upto_region 4 with (fail)
      generalize (wr.alloc (.cells #[.int .i32 x0, .int .i64 x1, .int .i64 x2, .bool ok] 195)) = wt at o_t hbB2 hbr2 ⊢
      have t3 : wt.cell? ⟨wr.heap.size, 3, none⟩ = some (.bool ok) := o_t.cell 3
      clear c0 c1 c2 c3 hbB hbr hbt o_t
      cases ok
      · go_wp2
        go_ret
        refine ⟨false, rfl, ?_, hbB2⟩
        constructor
        · intro h; cases h
        · intro h; have := HV.out.1 h _ (List.getElem_mem hkl); rw [← HOK.out] at this; cases this
      · go_wp2
        go_roundg (L.length + 1 - (k + 1))
        case measure => omega
        case rel => exact ⟨k + 1, rfl, by omega, by go_num, fun i hi hik => if e : i = k then by subst e; exact HOK.out.symm else HF.out i hi (by omega), hbr2⟩
    · obtain rfl : k = L.length := by omega
      go_wp2
      go_ret
      refine ⟨true, rfl, ⟨fun _ => HV.out.2 fun u hu => ?_, fun _ => rfl⟩, hbB⟩
      obtain ⟨i, hi, rfl⟩ := List.mem_iff_getElem.1 hu
      exact HF.out i hi hi
/-- A byte that begins a name; that goes on with one. -/
def fstB (c : Int) : Bool := decide (c = 95) || (decide (65 ≤ c ∧ c ≤ 90) || decide (97 ≤ c ∧ c ≤ 122))
def nxtB (c : Int) : Bool := fstB c || (decide (48 ≤ c ∧ c ≤ 57) || decide (c = 45))
theorem first4_any (c : Int) (h0 : 0 ≤ c) (h1 : c < 256) (w : World) : Calls Tryz.prog 129 #[.int .u8 c] w fun e w' => e = .returned (.bool (fstB c)) ∧ w' = w := by
  rcases (show (c < 65) ∨ (65 ≤ c ∧ c ≤ 90) ∨ (90 < c ∧ c < 95) ∨ (c = 95) ∨ (c = 96) ∨ (97 ≤ c ∧ c ≤ 122) ∨ (122 < c) by omega) with h | h | h | h | h | h | h
  · have H : Hid (fstB c = false) := by show _ = _; unfold fstB; simp; omega
    have b0 : (c == 95) = false := beq_eq_false_iff_ne.2 (by omega)
    have d0 : decide (65 ≤ c) = false := decide_eq_false (by omega)
    have d1 : decide (c ≤ 90) = true := decide_eq_true (by omega)
    have d2 : decide (97 ≤ c) = false := decide_eq_false (by omega)
    have d3 : decide (c ≤ 122) = true := decide_eq_true (by omega)
    clear h
    go_enter Tryz.func129, Tryz.ntmps129
    go_wp2
    go_ret
    exact ⟨by rw [H.out]; rfl, rfl⟩
  · have H : Hid (fstB c = true) := by show _ = _; unfold fstB; simp; omega
    have b0 : (c == 95) = false := beq_eq_false_iff_ne.2 (by omega)
    have b1 : (c == 45) = false := beq_eq_false_iff_ne.2 (by omega)
    have d0 : decide (65 ≤ c) = true := decide_eq_true (by omega)
    have d1 : decide (c ≤ 90) = true := decide_eq_true (by omega)
    have d2 : decide (97 ≤ c) = false := decide_eq_false (by omega)
    have d3 : decide (c ≤ 122) = true := decide_eq_true (by omega)
    have d4 : decide (48 ≤ c) = true := decide_eq_true (by omega)
    have d5 : decide (c ≤ 57) = false := decide_eq_false (by omega)
    clear h
    go_enter Tryz.func129, Tryz.ntmps129
    go_wp2
    go_ret
    exact ⟨by rw [H.out]; rfl, rfl⟩
  · have H : Hid (fstB c = false) := by show _ = _; unfold fstB; simp; omega
    have b0 : (c == 95) = false := beq_eq_false_iff_ne.2 (by omega)
    have b1 : (c == 45) = false := beq_eq_false_iff_ne.2 (by omega)
    have d0 : decide (65 ≤ c) = true := decide_eq_true (by omega)
    have d1 : decide (c ≤ 90) = false := decide_eq_false (by omega)
    have d2 : decide (97 ≤ c) = false := decide_eq_false (by omega)
    have d3 : decide (c ≤ 122) = true := decide_eq_true (by omega)
    have d4 : decide (48 ≤ c) = true := decide_eq_true (by omega)
    have d5 : decide (c ≤ 57) = false := decide_eq_false (by omega)
    clear h
    go_enter Tryz.func129, Tryz.ntmps129
    go_wp2
    go_ret
    exact ⟨by rw [H.out]; rfl, rfl⟩
  · have H : Hid (fstB c = true) := by show _ = _; unfold fstB; simp; omega
    have b0 : (c == 95) = true := beq_iff_eq.2 (by omega)
    have b1 : (c == 45) = false := beq_eq_false_iff_ne.2 (by omega)
    have d0 : decide (65 ≤ c) = true := decide_eq_true (by omega)
    have d1 : decide (c ≤ 90) = false := decide_eq_false (by omega)
    have d2 : decide (97 ≤ c) = false := decide_eq_false (by omega)
    have d3 : decide (c ≤ 122) = true := decide_eq_true (by omega)
    have d4 : decide (48 ≤ c) = true := decide_eq_true (by omega)
    have d5 : decide (c ≤ 57) = false := decide_eq_false (by omega)
    clear h
    go_enter Tryz.func129, Tryz.ntmps129
    go_wp2
    go_ret
    exact ⟨by rw [H.out]; rfl, rfl⟩
  · have H : Hid (fstB c = false) := by show _ = _; unfold fstB; simp; omega
    have b0 : (c == 95) = false := beq_eq_false_iff_ne.2 (by omega)
    have b1 : (c == 45) = false := beq_eq_false_iff_ne.2 (by omega)
    have d0 : decide (65 ≤ c) = true := decide_eq_true (by omega)
    have d1 : decide (c ≤ 90) = false := decide_eq_false (by omega)
    have d2 : decide (97 ≤ c) = false := decide_eq_false (by omega)
    have d3 : decide (c ≤ 122) = true := decide_eq_true (by omega)
    have d4 : decide (48 ≤ c) = true := decide_eq_true (by omega)
    have d5 : decide (c ≤ 57) = false := decide_eq_false (by omega)
    clear h
    go_enter Tryz.func129, Tryz.ntmps129
    go_wp2
    go_ret
    exact ⟨by rw [H.out]; rfl, rfl⟩
  · have H : Hid (fstB c = true) := by show _ = _; unfold fstB; simp; omega
    have b0 : (c == 95) = false := beq_eq_false_iff_ne.2 (by omega)
    have b1 : (c == 45) = false := beq_eq_false_iff_ne.2 (by omega)
    have d0 : decide (65 ≤ c) = true := decide_eq_true (by omega)
    have d1 : decide (c ≤ 90) = false := decide_eq_false (by omega)
    have d2 : decide (97 ≤ c) = true := decide_eq_true (by omega)
    have d3 : decide (c ≤ 122) = true := decide_eq_true (by omega)
    have d4 : decide (48 ≤ c) = true := decide_eq_true (by omega)
    have d5 : decide (c ≤ 57) = false := decide_eq_false (by omega)
    clear h
    go_enter Tryz.func129, Tryz.ntmps129
    go_wp2
    go_ret
    exact ⟨by rw [H.out]; rfl, rfl⟩
  · have H : Hid (fstB c = false) := by show _ = _; unfold fstB; simp; omega
    have b0 : (c == 95) = false := beq_eq_false_iff_ne.2 (by omega)
    have b1 : (c == 45) = false := beq_eq_false_iff_ne.2 (by omega)
    have d0 : decide (65 ≤ c) = true := decide_eq_true (by omega)
    have d1 : decide (c ≤ 90) = false := decide_eq_false (by omega)
    have d2 : decide (97 ≤ c) = true := decide_eq_true (by omega)
    have d3 : decide (c ≤ 122) = false := decide_eq_false (by omega)
    have d4 : decide (48 ≤ c) = true := decide_eq_true (by omega)
    have d5 : decide (c ≤ 57) = false := decide_eq_false (by omega)
    clear h
    go_enter Tryz.func129, Tryz.ntmps129
    go_wp2
    go_ret
    exact ⟨by rw [H.out]; rfl, rfl⟩
theorem next4_any (c : Int) (h0 : 0 ≤ c) (h1 : c < 256) (w : World) : Calls Tryz.prog 130 #[.int .u8 c] w fun e w' => e = .returned (.bool (nxtB c)) ∧ w' = w := by
  have HC := Lib.hid (fun w => first4_any c h0 h1 w)
  rcases (show (c < 45) ∨ (c = 45) ∨ (45 < c ∧ c < 48) ∨ (48 ≤ c ∧ c ≤ 57) ∨ (57 < c ∧ c < 65) ∨ (65 ≤ c ∧ c ≤ 90) ∨ (90 < c ∧ c < 95) ∨ (c = 95) ∨ (c = 96) ∨ (97 ≤ c ∧ c ≤ 122) ∨ (122 < c) by omega) with h | h | h | h | h | h | h | h | h | h | h
  · have H : Hid (nxtB c = false) := by show _ = _; unfold nxtB fstB; simp; omega
    have hf : fstB c = false := by unfold fstB; simp; omega
    rw [hf] at HC
    have b0 : (c == 45) = false := beq_eq_false_iff_ne.2 (by omega)
    have d0 : decide (48 ≤ c) = false := decide_eq_false (by omega)
    have d1 : decide (c ≤ 57) = true := decide_eq_true (by omega)
    clear h hf
    go_enter Tryz.func130, Tryz.ntmps130
    go_wp2_with (go_at_call 129; refine (HC.out _).mono ?_; rintro e w' ⟨rfl, rfl⟩)
    go_ret
    exact ⟨by rw [H.out]; rfl, rfl⟩
  · have H : Hid (nxtB c = true) := by show _ = _; unfold nxtB fstB; simp; omega
    have hf : fstB c = false := by unfold fstB; simp; omega
    rw [hf] at HC
    have b0 : (c == 45) = true := beq_iff_eq.2 (by omega)
    have d0 : decide (48 ≤ c) = false := decide_eq_false (by omega)
    have d1 : decide (c ≤ 57) = true := decide_eq_true (by omega)
    clear h hf
    go_enter Tryz.func130, Tryz.ntmps130
    go_wp2_with (go_at_call 129; refine (HC.out _).mono ?_; rintro e w' ⟨rfl, rfl⟩)
    go_ret
    exact ⟨by rw [H.out]; rfl, rfl⟩
  · have H : Hid (nxtB c = false) := by show _ = _; unfold nxtB fstB; simp; omega
    have hf : fstB c = false := by unfold fstB; simp; omega
    rw [hf] at HC
    have b0 : (c == 45) = false := beq_eq_false_iff_ne.2 (by omega)
    have d0 : decide (48 ≤ c) = false := decide_eq_false (by omega)
    have d1 : decide (c ≤ 57) = true := decide_eq_true (by omega)
    clear h hf
    go_enter Tryz.func130, Tryz.ntmps130
    go_wp2_with (go_at_call 129; refine (HC.out _).mono ?_; rintro e w' ⟨rfl, rfl⟩)
    go_ret
    exact ⟨by rw [H.out]; rfl, rfl⟩
  · have H : Hid (nxtB c = true) := by show _ = _; unfold nxtB fstB; simp; omega
    have hf : fstB c = false := by unfold fstB; simp; omega
    rw [hf] at HC
    have b0 : (c == 45) = false := beq_eq_false_iff_ne.2 (by omega)
    have d0 : decide (48 ≤ c) = true := decide_eq_true (by omega)
    have d1 : decide (c ≤ 57) = true := decide_eq_true (by omega)
    clear h hf
    go_enter Tryz.func130, Tryz.ntmps130
    go_wp2_with (go_at_call 129; refine (HC.out _).mono ?_; rintro e w' ⟨rfl, rfl⟩)
    go_ret
    exact ⟨by rw [H.out]; rfl, rfl⟩
  · have H : Hid (nxtB c = false) := by show _ = _; unfold nxtB fstB; simp; omega
    have hf : fstB c = false := by unfold fstB; simp; omega
    rw [hf] at HC
    have b0 : (c == 45) = false := beq_eq_false_iff_ne.2 (by omega)
    have d0 : decide (48 ≤ c) = true := decide_eq_true (by omega)
    have d1 : decide (c ≤ 57) = false := decide_eq_false (by omega)
    clear h hf
    go_enter Tryz.func130, Tryz.ntmps130
    go_wp2_with (go_at_call 129; refine (HC.out _).mono ?_; rintro e w' ⟨rfl, rfl⟩)
    go_ret
    exact ⟨by rw [H.out]; rfl, rfl⟩
  · have H : Hid (nxtB c = true) := by show _ = _; unfold nxtB fstB; simp; omega
    have hf : fstB c = true := by unfold fstB; simp; omega
    rw [hf] at HC
    have b0 : (c == 45) = false := beq_eq_false_iff_ne.2 (by omega)
    have d0 : decide (48 ≤ c) = true := decide_eq_true (by omega)
    have d1 : decide (c ≤ 57) = false := decide_eq_false (by omega)
    clear h hf
    go_enter Tryz.func130, Tryz.ntmps130
    go_wp2_with (go_at_call 129; refine (HC.out _).mono ?_; rintro e w' ⟨rfl, rfl⟩)
    go_ret
    exact ⟨by rw [H.out]; rfl, rfl⟩
  · have H : Hid (nxtB c = false) := by show _ = _; unfold nxtB fstB; simp; omega
    have hf : fstB c = false := by unfold fstB; simp; omega
    rw [hf] at HC
    have b0 : (c == 45) = false := beq_eq_false_iff_ne.2 (by omega)
    have d0 : decide (48 ≤ c) = true := decide_eq_true (by omega)
    have d1 : decide (c ≤ 57) = false := decide_eq_false (by omega)
    clear h hf
    go_enter Tryz.func130, Tryz.ntmps130
    go_wp2_with (go_at_call 129; refine (HC.out _).mono ?_; rintro e w' ⟨rfl, rfl⟩)
    go_ret
    exact ⟨by rw [H.out]; rfl, rfl⟩
  · have H : Hid (nxtB c = true) := by show _ = _; unfold nxtB fstB; simp; omega
    have hf : fstB c = true := by unfold fstB; simp; omega
    rw [hf] at HC
    have b0 : (c == 45) = false := beq_eq_false_iff_ne.2 (by omega)
    have d0 : decide (48 ≤ c) = true := decide_eq_true (by omega)
    have d1 : decide (c ≤ 57) = false := decide_eq_false (by omega)
    clear h hf
    go_enter Tryz.func130, Tryz.ntmps130
    go_wp2_with (go_at_call 129; refine (HC.out _).mono ?_; rintro e w' ⟨rfl, rfl⟩)
    go_ret
    exact ⟨by rw [H.out]; rfl, rfl⟩
  · have H : Hid (nxtB c = false) := by show _ = _; unfold nxtB fstB; simp; omega
    have hf : fstB c = false := by unfold fstB; simp; omega
    rw [hf] at HC
    have b0 : (c == 45) = false := beq_eq_false_iff_ne.2 (by omega)
    have d0 : decide (48 ≤ c) = true := decide_eq_true (by omega)
    have d1 : decide (c ≤ 57) = false := decide_eq_false (by omega)
    clear h hf
    go_enter Tryz.func130, Tryz.ntmps130
    go_wp2_with (go_at_call 129; refine (HC.out _).mono ?_; rintro e w' ⟨rfl, rfl⟩)
    go_ret
    exact ⟨by rw [H.out]; rfl, rfl⟩
  · have H : Hid (nxtB c = true) := by show _ = _; unfold nxtB fstB; simp; omega
    have hf : fstB c = true := by unfold fstB; simp; omega
    rw [hf] at HC
    have b0 : (c == 45) = false := beq_eq_false_iff_ne.2 (by omega)
    have d0 : decide (48 ≤ c) = true := decide_eq_true (by omega)
    have d1 : decide (c ≤ 57) = false := decide_eq_false (by omega)
    clear h hf
    go_enter Tryz.func130, Tryz.ntmps130
    go_wp2_with (go_at_call 129; refine (HC.out _).mono ?_; rintro e w' ⟨rfl, rfl⟩)
    go_ret
    exact ⟨by rw [H.out]; rfl, rfl⟩
  · have H : Hid (nxtB c = false) := by show _ = _; unfold nxtB fstB; simp; omega
    have hf : fstB c = false := by unfold fstB; simp; omega
    rw [hf] at HC
    have b0 : (c == 45) = false := beq_eq_false_iff_ne.2 (by omega)
    have d0 : decide (48 ≤ c) = true := decide_eq_true (by omega)
    have d1 : decide (c ≤ 57) = false := decide_eq_false (by omega)
    clear h hf
    go_enter Tryz.func130, Tryz.ntmps130
    go_wp2_with (go_at_call 129; refine (HC.out _).mono ?_; rintro e w' ⟨rfl, rfl⟩)
    go_ret
    exact ⟨by rw [H.out]; rfl, rfl⟩
end Go.Proofs.YtfenjklilocjgaaGreatDoor
