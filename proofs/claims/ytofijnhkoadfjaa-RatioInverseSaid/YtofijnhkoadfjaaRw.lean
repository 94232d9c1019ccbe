/- The reference's numbers: digits of four decimals in memory; trim, Less. -/
import Derived.Test.YtofijnhkoadfjaaNm
namespace Go.Proofs.Ytofijnhkoadfjaa
set_option linter.unusedSimpArgs false
set_option linter.unusedVariables false
set_option linter.unusedSectionVars false
open Go.RowKit

/-- Words as cells. -/
abbrev ck (l : List Nat) : List Value := l.map fun (x : Nat) => Value.int .i64 (x : Int)
def Kds (w : World) (A : Option Addr) (l : List Nat) : Prop := Rd w A (ck l)
theorem Kds.get {w : World} {A : Option Addr} {l : List Nat} (h : Kds w A l) {k : Nat} (hk : k < l.length) :
    ∃ b off, A = some ⟨b, off, none⟩ ∧ w.cell? ⟨b, off + k, none⟩ = some (.int .i64 (l[k] : Int)) := by
  obtain ⟨b, off, e, hc⟩ := Rd.get h (k := k) (by simpa using hk)
  exact ⟨b, off, e, by simpa using hc⟩
theorem Kds.below {w w' : World} {A : Option Addr} {l : List Nat} (h : Kds w A l) (hb : Below w.heap.size w w') : Kds w' A l := Rd.below h hb
theorem Kds.take {w : World} {A : Option Addr} {l : List Nat} (h : Kds w A l) (n : Nat) : Kds w A (l.take n) := by
  have := Rd.take h n
  unfold Kds ck
  rw [List.map_take]; exact this
/-- The words of a number. -/
def dk (n : Nat) : List Nat := Dg.dg 10000 n
theorem b10k : 2 ≤ 10000 := by decide
theorem dk_lt (n : Nat) : ∀ x ∈ dk n, x < 10000 := Dg.dig_dg b10k n
theorem dk_get_lt (n k : Nat) (h : k < (dk n).length) : (dk n)[k] < 10000 := dk_lt n _ (List.getElem_mem h)
/-- A slice value that reads as a number. -/
def BigV (w : World) (v : Value) (n : Nat) : Prop := ∃ A c, v = .slice A (dk n).length c ∧ (dk n).length ≤ c ∧ c ≤ maxLen ∧ Kds w A (dk n)
theorem BigV.below {w w' : World} {v : Value} {n : Nat} (h : BigV w v n) (hb : Below w.heap.size w w') : BigV w' v n := by
  obtain ⟨A, c, rfl, h1, h2, h3⟩ := h
  exact ⟨A, c, rfl, h1, h2, h3.below hb⟩
theorem BigV.zero (w : World) : BigV w (.slice none 0 0) 0 := ⟨none, 0, rfl, Nat.le_refl _, by unfold maxLen; omega, Rd.nil _ _⟩
/-- A block's words, cut, read as their value. -/
theorem BigV.of_cut {w : World} {A : Option Addr} {l : List Nat} {c : Nat} (h : Kds w A l) (hd : Dg.Dig 10000 l) (h1 : l.length ≤ c) (h2 : c ≤ maxLen) : BigV w (.slice A (Dg.cut l).length c) (Dg.val 10000 l) := by
  have e : Dg.cut l = dk (Dg.val 10000 l) := Dg.cut_eq b10k hd
  refine ⟨A, c, by rw [e], ?_, h2, ?_⟩
  · rw [← e]; exact Nat.le_trans (Dg.cut_le l) h1
  · rw [← e, Dg.cut_take l]; exact h.take _

set_option maxHeartbeats 1000000 in
theorem trim_any (A : Option Addr) (c : Nat) (l : List Nat) (w : World) (h : Kds w A l) (hc : l.length ≤ c) (hm : c ≤ maxLen) :
    Calls Try.prog 87 #[.slice A l.length c] w fun e w' => e = .returned (.slice A (Dg.cut l).length c) ∧ w = w' := by
  unfold maxLen at hm
  go_enter Try.func87, Try.ntmps87
  go_wp2
  go_loop [0] (fun v => ∃ k : Nat, k ≤ l.length ∧ v = .slice A k c ∧ Hid (Dg.cut (l.take k) = Dg.cut l)) (fun v => match v with | .slice _ n _ => n | _ => 0)
  case atStart => exact ⟨l.length, Nat.le_refl _, rfl, by show _ = _; rw [List.take_length]⟩
  case round =>
    obtain ⟨k, hk, rfl, HC⟩ := hrel
    rcases Nat.eq_zero_or_pos k with rfl | hk0
    · go_wp2
      go_ret
      refine ⟨?_, rfl⟩
      have := HC.out
      rw [List.take_zero] at this
      rw [← this]; rfl
    · obtain ⟨k1, rfl⟩ : ∃ k1, k = k1 + 1 := ⟨k - 1, by omega⟩
      have hkl : k1 < l.length := by omega
      obtain ⟨b, off, rfl, hcell⟩ := h.get hkl
      have z1 : IntKind.i64.wrap (k1 : Int) = k1 := IntWalk.i64_in _ (by omega)
      have z3 : (k1 : Int) < (k1 : Int) + 1 := by omega
      by_cases h0 : l[k1] = 0
      · have HN : Hid (Dg.cut (l.take k1) = Dg.cut l) := by show _ = _; rw [← HC.out, Dg.cut_at hkl h0]
        rw [h0] at hcell
        clear h0 HC
        go_wp2
        go_round
        case rel => exact ⟨k1, by omega, rfl, HN⟩
        case measure => simp
      · have hb1 : ((l[k1] : Int) == 0) = false := by simp; omega
        have HN : Hid ((Dg.cut l).length = k1 + 1) := by show _ = _; rw [← HC.out, Dg.cut_stop hkl h0, List.length_take]; omega
        clear h0 HC
        go_wp2
        go_ret
        exact ⟨ret_slice HN.out.symm, rfl⟩

/-- norm at words whose value is known. -/
theorem trim_nat (A : Option Addr) (c : Nat) (l : List Nat) (w : World) {n k : Nat} (h : Kds w A l) (hk : k = l.length) (hc : l.length ≤ c) (hm : c ≤ maxLen) (hd : Dg.Dig 10000 l) (hn : Dg.val 10000 l = n) :
    Calls Try.prog 87 #[.slice A k c] w fun e w' => ∃ v, e = .returned v ∧ BigV w' v n ∧ w = w' := by
  subst hk
  refine (trim_any A c l w h hc hm).mono ?_
  rintro e w' ⟨rfl, rfl⟩
  exact ⟨_, rfl, by rw [← hn]; exact BigV.of_cut h hd hc hm, rfl⟩

set_option maxHeartbeats 1000000 in
theorem less_ref {v1 v2 : Value} {m n : Nat} (w : World) (h1 : BigV w v1 m) (h2 : BigV w v2 n) :
    Calls Try.prog 61 #[v1, v2] w fun e w' => e = .returned (.int .i64 (cmpI m n)) ∧ Below w.heap.size w w' := by
  obtain ⟨A, c, rfl, hc1, hc2, hA⟩ := h1
  obtain ⟨A', c', rfl, hd1, hd2, hA'⟩ := h2
  unfold maxLen at hc2 hd2
  have lm : Hid (Dg.val 10000 (dk m) = m) := Dg.val_dg b10k m
  have ln : Hid (Dg.val 10000 (dk n) = n) := Dg.val_dg b10k n
  by_cases hlen : (dk m).length = (dk n).length
  · have hb1 : (((dk m).length : Int) != ((dk n).length : Int)) = false := by simp [hlen]
    have HL := Lib.hid hlen
    have hl1 : (dk m).length ≤ (dk n).length := by omega
    have hl2 : (dk n).length ≤ (dk m).length := by omega
    clear hlen
    go_enter Try.func61, Try.ntmps61
    go_wp2_with fail
    go_loopg [5] (dk m).length (fun q v wr => ∃ (k : Nat) (z : Int), q = k ∧ k ≤ (dk m).length ∧ v = .int .i64 z ∧ z = (k : Int) - 1 ∧ Hid ((dk m).drop k = (dk n).drop k) ∧ Below w.heap.size w wr)
    case atStart => exact ⟨_, _, rfl, Nat.le_refl _, rfl, rfl, by show _ = _; rw [List.drop_length, HL.out, List.drop_length], Below.refl _ _⟩
    case round =>
      obtain ⟨k, z, hq, hk, rfl, hz, HD, hbw⟩ := hrel
      have HQ := Lib.hid hq; clear hq
      rcases Nat.eq_zero_or_pos k with rfl | hk0
      · obtain rfl : z = -1 := by omega
        have hmn : Hid (m = n) := by
          show m = n
          have := HD.out
          rw [List.drop_zero, List.drop_zero] at this
          exact Dg.dg_inj b10k this
        clear hz
        go_wp2
        go_ret
        exact ⟨ret_int (cmpI_eq hmn.out).symm, hbw⟩
      · obtain ⟨k1, rfl⟩ : ∃ k1, k = k1 + 1 := ⟨k - 1, by omega⟩
        obtain rfl : z = (k1 : Int) := by omega
        clear hz
        have hkm : k1 < (dk m).length := by omega
        have hkn : k1 < (dk n).length := by omega
        obtain ⟨b, off, rfl, c1⟩ := (hA.below hbw).get hkm
        obtain ⟨b', off', rfl, c2⟩ := (hA'.below hbw).get hkn
        have hkI : (k1 : Int) < (dk m).length := by omega
        have hkI' : (k1 : Int) < (dk n).length := by omega
        by_cases he : (dk m)[k1] = (dk n)[k1]
        · have HN : Hid ((dk m).drop k1 = (dk n).drop k1) := by
            show _ = _
            rw [List.drop_eq_getElem_cons hkm, List.drop_eq_getElem_cons hkn, he, HD.out]
          rw [he] at c1
          have hne : ((((dk n)[k1] : Nat) : Int) != (((dk n)[k1] : Nat) : Int)) = false := by simp
          have hz2 : (k1 : Int) - 1 = (k1 : Int) - 1 := rfl
          clear he HD hz2
          go_wp2_with fail
          refine wp_reg_abs [some 23, some 24, some 25, some 26, some 27, some 28, some 29, some 30, some 31] [?v1_0, ?v1_1, ?v1_2, ?v1_3, ?v1_4, ?v1_5, ?v1_6, ?v1_7, ?v1_8] rfl (by kernel_rfl) rfl rfl ⟨?s1_0, ?s1_1, ?s1_2, ?s1_3, ?s1_4, ?s1_5, ?s1_6, ?s1_7, ?s1_8, trivial⟩ ?p1
          case s1_0 =>
            intro t9 w9 hT9 hV9 hO9 K9 hK9
            have o9_0 := hO9 0 _ (by kernel_rfl) rfl
            clear hV9 hO9
            go_simp
            exact hK9 _ (Grow.refl _)
          case s1_1 =>
            intro t9 w9 hT9 hV9 hO9 K9 hK9
            have o9_5 := hO9 5 _ (by kernel_rfl) rfl
            clear hV9 hO9
            go_simp
            exact hK9 _ (Grow.refl _)
          case s1_2 =>
            intro t9 w9 hT9 hV9 hO9 K9 hK9
            have p9_0 : t9[23]? = some ?v1_0 := hV9 0 23 rfl rfl (of_decide_eq_true (by kernel_rfl))
            have p9_1 : t9[24]? = some ?v1_1 := hV9 1 24 rfl rfl (of_decide_eq_true (by kernel_rfl))
            clear hV9 hO9
            go_simp
            exact hK9 _ (Grow.refl _)
          case s1_3 =>
            intro t9 w9 hT9 hV9 hO9 K9 hK9
            have p9_2 : t9[25]? = some ?v1_2 := hV9 2 25 rfl rfl (of_decide_eq_true (by kernel_rfl))
            clear hV9 hO9
            have d9_0 := grow_cell hT9 c1
            have d9_1 := grow_cell hT9 c2
            go_simp
            exact hK9 _ (Grow.refl _)
          case s1_4 =>
            intro t9 w9 hT9 hV9 hO9 K9 hK9
            have o9_1 := hO9 1 _ (by kernel_rfl) rfl
            clear hV9 hO9
            go_simp
            exact hK9 _ (Grow.refl _)
          case s1_5 =>
            intro t9 w9 hT9 hV9 hO9 K9 hK9
            have o9_5 := hO9 5 _ (by kernel_rfl) rfl
            clear hV9 hO9
            go_simp
            exact hK9 _ (Grow.refl _)
          case s1_6 =>
            intro t9 w9 hT9 hV9 hO9 K9 hK9
            have p9_4 : t9[27]? = some ?v1_4 := hV9 4 27 rfl rfl (of_decide_eq_true (by kernel_rfl))
            have p9_5 : t9[28]? = some ?v1_5 := hV9 5 28 rfl rfl (of_decide_eq_true (by kernel_rfl))
            clear hV9 hO9
            go_simp
            exact hK9 _ (Grow.refl _)
          case s1_7 =>
            intro t9 w9 hT9 hV9 hO9 K9 hK9
            have p9_6 : t9[29]? = some ?v1_6 := hV9 6 29 rfl rfl (of_decide_eq_true (by kernel_rfl))
            clear hV9 hO9
            have d9_0 := grow_cell hT9 c1
            have d9_1 := grow_cell hT9 c2
            go_simp
            exact hK9 _ (Grow.refl _)
          case s1_8 =>
            intro t9 w9 hT9 hV9 hO9 K9 hK9
            have p9_3 : t9[26]? = some ?v1_3 := hV9 3 26 rfl rfl (of_decide_eq_true (by kernel_rfl))
            have p9_7 : t9[30]? = some ?v1_7 := hV9 7 30 rfl rfl (of_decide_eq_true (by kernel_rfl))
            clear hV9 hO9
            go_simp
            exact hK9 _ (Grow.refl _)
          intro w9 hb9
          simp only [putAll, Act.put, List.setIfInBounds_toArray, List.set_cons_succ, List.set_cons_zero, List.getD_cons_succ, List.getD_cons_zero, Nat.reduceAdd, Nat.zero_add]
          go_wp2_with fail
          go_roundg k1
          case measure => have := HQ.out; omega
          case rel => exact ⟨k1, _, rfl, by omega, rfl, by omega, HN, hbw.trans (hb9.mono hbw.size)⟩
        · have hne : ((((dk m)[k1] : Nat) : Int) != (((dk n)[k1] : Nat) : Int)) = true := by simp; omega
          rcases Nat.lt_or_ge (dk m)[k1] (dk n)[k1] with hlt | hge
          · have HR : Hid (m < n) := by
              show m < n
              rw [← lm.out, ← ln.out]
              exact Dg.val_cmp (by decide) hkm hkn HL.out (dk_lt m) HD.out hlt
            have t1 : decide ((((dk m)[k1] : Nat) : Int) < (((dk n)[k1] : Nat) : Int)) = true := decide_eq_true (by omega)
            have t2 : decide ((dk m)[k1] < (dk n)[k1]) = true := decide_eq_true hlt
            clear he HD hlt
            go_wp2_with fail
            refine wp_reg_abs [some 23, some 24, some 25, some 26, some 27, some 28, some 29, some 30, some 31] [?v2_0, ?v2_1, ?v2_2, ?v2_3, ?v2_4, ?v2_5, ?v2_6, ?v2_7, ?v2_8] rfl (by kernel_rfl) rfl rfl ⟨?s2_0, ?s2_1, ?s2_2, ?s2_3, ?s2_4, ?s2_5, ?s2_6, ?s2_7, ?s2_8, trivial⟩ ?p2
            case s2_0 =>
              intro t9 w9 hT9 hV9 hO9 K9 hK9
              have o9_0 := hO9 0 _ (by kernel_rfl) rfl
              clear hV9 hO9
              go_simp
              exact hK9 _ (Grow.refl _)
            case s2_1 =>
              intro t9 w9 hT9 hV9 hO9 K9 hK9
              have o9_5 := hO9 5 _ (by kernel_rfl) rfl
              clear hV9 hO9
              go_simp
              exact hK9 _ (Grow.refl _)
            case s2_2 =>
              intro t9 w9 hT9 hV9 hO9 K9 hK9
              have p9_0 : t9[23]? = some ?v2_0 := hV9 0 23 rfl rfl (of_decide_eq_true (by kernel_rfl))
              have p9_1 : t9[24]? = some ?v2_1 := hV9 1 24 rfl rfl (of_decide_eq_true (by kernel_rfl))
              clear hV9 hO9
              go_simp
              exact hK9 _ (Grow.refl _)
            case s2_3 =>
              intro t9 w9 hT9 hV9 hO9 K9 hK9
              have p9_2 : t9[25]? = some ?v2_2 := hV9 2 25 rfl rfl (of_decide_eq_true (by kernel_rfl))
              clear hV9 hO9
              have d9_0 := grow_cell hT9 c1
              have d9_1 := grow_cell hT9 c2
              go_simp
              exact hK9 _ (Grow.refl _)
            case s2_4 =>
              intro t9 w9 hT9 hV9 hO9 K9 hK9
              have o9_1 := hO9 1 _ (by kernel_rfl) rfl
              clear hV9 hO9
              go_simp
              exact hK9 _ (Grow.refl _)
            case s2_5 =>
              intro t9 w9 hT9 hV9 hO9 K9 hK9
              have o9_5 := hO9 5 _ (by kernel_rfl) rfl
              clear hV9 hO9
              go_simp
              exact hK9 _ (Grow.refl _)
            case s2_6 =>
              intro t9 w9 hT9 hV9 hO9 K9 hK9
              have p9_4 : t9[27]? = some ?v2_4 := hV9 4 27 rfl rfl (of_decide_eq_true (by kernel_rfl))
              have p9_5 : t9[28]? = some ?v2_5 := hV9 5 28 rfl rfl (of_decide_eq_true (by kernel_rfl))
              clear hV9 hO9
              go_simp
              exact hK9 _ (Grow.refl _)
            case s2_7 =>
              intro t9 w9 hT9 hV9 hO9 K9 hK9
              have p9_6 : t9[29]? = some ?v2_6 := hV9 6 29 rfl rfl (of_decide_eq_true (by kernel_rfl))
              clear hV9 hO9
              have d9_0 := grow_cell hT9 c1
              have d9_1 := grow_cell hT9 c2
              go_simp
              exact hK9 _ (Grow.refl _)
            case s2_8 =>
              intro t9 w9 hT9 hV9 hO9 K9 hK9
              have p9_3 : t9[26]? = some ?v2_3 := hV9 3 26 rfl rfl (of_decide_eq_true (by kernel_rfl))
              have p9_7 : t9[30]? = some ?v2_7 := hV9 7 30 rfl rfl (of_decide_eq_true (by kernel_rfl))
              clear hV9 hO9
              go_simp
              exact hK9 _ (Grow.refl _)
            intro w9 hb9
            simp only [putAll, Act.put, List.setIfInBounds_toArray, List.set_cons_succ, List.set_cons_zero, List.getD_cons_succ, List.getD_cons_zero, Nat.reduceAdd, Nat.zero_add]
            have hb10 := hbw.trans (hb9.mono hbw.size)
            have d1 := below_cell hb9 c1
            have d2 := below_cell hb9 c2
            clear hb9 c1 c2
            go_wp2_with fail
            refine wp_reg_abs [some 32, some 33, some 34, some 35, some 36, some 37, some 38, some 39, some 40] [?v3_0, ?v3_1, ?v3_2, ?v3_3, ?v3_4, ?v3_5, ?v3_6, ?v3_7, ?v3_8] rfl (by kernel_rfl) rfl rfl ⟨?s3_0, ?s3_1, ?s3_2, ?s3_3, ?s3_4, ?s3_5, ?s3_6, ?s3_7, ?s3_8, trivial⟩ ?p3
            case s3_0 =>
              intro t9 w9 hT9 hV9 hO9 K9 hK9
              have o9_0 := hO9 0 _ (by kernel_rfl) rfl
              clear hV9 hO9
              go_simp
              exact hK9 _ (Grow.refl _)
            case s3_1 =>
              intro t9 w9 hT9 hV9 hO9 K9 hK9
              have o9_5 := hO9 5 _ (by kernel_rfl) rfl
              clear hV9 hO9
              go_simp
              exact hK9 _ (Grow.refl _)
            case s3_2 =>
              intro t9 w9 hT9 hV9 hO9 K9 hK9
              have p9_0 : t9[32]? = some ?v3_0 := hV9 0 32 rfl rfl (of_decide_eq_true (by kernel_rfl))
              have p9_1 : t9[33]? = some ?v3_1 := hV9 1 33 rfl rfl (of_decide_eq_true (by kernel_rfl))
              clear hV9 hO9
              go_simp
              exact hK9 _ (Grow.refl _)
            case s3_3 =>
              intro t9 w9 hT9 hV9 hO9 K9 hK9
              have p9_2 : t9[34]? = some ?v3_2 := hV9 2 34 rfl rfl (of_decide_eq_true (by kernel_rfl))
              clear hV9 hO9
              have d9_0 := grow_cell hT9 d1
              have d9_1 := grow_cell hT9 d2
              go_simp
              exact hK9 _ (Grow.refl _)
            case s3_4 =>
              intro t9 w9 hT9 hV9 hO9 K9 hK9
              have o9_1 := hO9 1 _ (by kernel_rfl) rfl
              clear hV9 hO9
              go_simp
              exact hK9 _ (Grow.refl _)
            case s3_5 =>
              intro t9 w9 hT9 hV9 hO9 K9 hK9
              have o9_5 := hO9 5 _ (by kernel_rfl) rfl
              clear hV9 hO9
              go_simp
              exact hK9 _ (Grow.refl _)
            case s3_6 =>
              intro t9 w9 hT9 hV9 hO9 K9 hK9
              have p9_4 : t9[36]? = some ?v3_4 := hV9 4 36 rfl rfl (of_decide_eq_true (by kernel_rfl))
              have p9_5 : t9[37]? = some ?v3_5 := hV9 5 37 rfl rfl (of_decide_eq_true (by kernel_rfl))
              clear hV9 hO9
              go_simp
              exact hK9 _ (Grow.refl _)
            case s3_7 =>
              intro t9 w9 hT9 hV9 hO9 K9 hK9
              have p9_6 : t9[38]? = some ?v3_6 := hV9 6 38 rfl rfl (of_decide_eq_true (by kernel_rfl))
              clear hV9 hO9
              have d9_0 := grow_cell hT9 d1
              have d9_1 := grow_cell hT9 d2
              go_simp
              exact hK9 _ (Grow.refl _)
            case s3_8 =>
              intro t9 w9 hT9 hV9 hO9 K9 hK9
              have p9_3 : t9[35]? = some ?v3_3 := hV9 3 35 rfl rfl (of_decide_eq_true (by kernel_rfl))
              have p9_7 : t9[39]? = some ?v3_7 := hV9 7 39 rfl rfl (of_decide_eq_true (by kernel_rfl))
              clear hV9 hO9
              go_simp
              exact hK9 _ (Grow.refl _)
            intro w9 hb9
            simp only [putAll, Act.put, List.setIfInBounds_toArray, List.set_cons_succ, List.set_cons_zero, List.getD_cons_succ, List.getD_cons_zero, Nat.reduceAdd, Nat.zero_add]
            go_wp2_with fail
            go_ret
            exact ⟨ret_int (cmpI_lt HR.out).symm, hb10.trans (hb9.mono hb10.size)⟩
          · have HR : Hid (n < m) := by
              show n < m
              rw [← lm.out, ← ln.out]
              exact Dg.val_cmp (by decide) hkn hkm HL.out.symm (dk_lt n) HD.out.symm (by omega)
            have t1 : decide ((((dk m)[k1] : Nat) : Int) < (((dk n)[k1] : Nat) : Int)) = false := decide_eq_false (by omega)
            have t2 : decide ((dk m)[k1] < (dk n)[k1]) = false := decide_eq_false (by omega)
            clear he HD hge
            go_wp2_with fail
            refine wp_reg_abs [some 23, some 24, some 25, some 26, some 27, some 28, some 29, some 30, some 31] [?v4_0, ?v4_1, ?v4_2, ?v4_3, ?v4_4, ?v4_5, ?v4_6, ?v4_7, ?v4_8] rfl (by kernel_rfl) rfl rfl ⟨?s4_0, ?s4_1, ?s4_2, ?s4_3, ?s4_4, ?s4_5, ?s4_6, ?s4_7, ?s4_8, trivial⟩ ?p4
            case s4_0 =>
              intro t9 w9 hT9 hV9 hO9 K9 hK9
              have o9_0 := hO9 0 _ (by kernel_rfl) rfl
              clear hV9 hO9
              go_simp
              exact hK9 _ (Grow.refl _)
            case s4_1 =>
              intro t9 w9 hT9 hV9 hO9 K9 hK9
              have o9_5 := hO9 5 _ (by kernel_rfl) rfl
              clear hV9 hO9
              go_simp
              exact hK9 _ (Grow.refl _)
            case s4_2 =>
              intro t9 w9 hT9 hV9 hO9 K9 hK9
              have p9_0 : t9[23]? = some ?v4_0 := hV9 0 23 rfl rfl (of_decide_eq_true (by kernel_rfl))
              have p9_1 : t9[24]? = some ?v4_1 := hV9 1 24 rfl rfl (of_decide_eq_true (by kernel_rfl))
              clear hV9 hO9
              go_simp
              exact hK9 _ (Grow.refl _)
            case s4_3 =>
              intro t9 w9 hT9 hV9 hO9 K9 hK9
              have p9_2 : t9[25]? = some ?v4_2 := hV9 2 25 rfl rfl (of_decide_eq_true (by kernel_rfl))
              clear hV9 hO9
              have d9_0 := grow_cell hT9 c1
              have d9_1 := grow_cell hT9 c2
              go_simp
              exact hK9 _ (Grow.refl _)
            case s4_4 =>
              intro t9 w9 hT9 hV9 hO9 K9 hK9
              have o9_1 := hO9 1 _ (by kernel_rfl) rfl
              clear hV9 hO9
              go_simp
              exact hK9 _ (Grow.refl _)
            case s4_5 =>
              intro t9 w9 hT9 hV9 hO9 K9 hK9
              have o9_5 := hO9 5 _ (by kernel_rfl) rfl
              clear hV9 hO9
              go_simp
              exact hK9 _ (Grow.refl _)
            case s4_6 =>
              intro t9 w9 hT9 hV9 hO9 K9 hK9
              have p9_4 : t9[27]? = some ?v4_4 := hV9 4 27 rfl rfl (of_decide_eq_true (by kernel_rfl))
              have p9_5 : t9[28]? = some ?v4_5 := hV9 5 28 rfl rfl (of_decide_eq_true (by kernel_rfl))
              clear hV9 hO9
              go_simp
              exact hK9 _ (Grow.refl _)
            case s4_7 =>
              intro t9 w9 hT9 hV9 hO9 K9 hK9
              have p9_6 : t9[29]? = some ?v4_6 := hV9 6 29 rfl rfl (of_decide_eq_true (by kernel_rfl))
              clear hV9 hO9
              have d9_0 := grow_cell hT9 c1
              have d9_1 := grow_cell hT9 c2
              go_simp
              exact hK9 _ (Grow.refl _)
            case s4_8 =>
              intro t9 w9 hT9 hV9 hO9 K9 hK9
              have p9_3 : t9[26]? = some ?v4_3 := hV9 3 26 rfl rfl (of_decide_eq_true (by kernel_rfl))
              have p9_7 : t9[30]? = some ?v4_7 := hV9 7 30 rfl rfl (of_decide_eq_true (by kernel_rfl))
              clear hV9 hO9
              go_simp
              exact hK9 _ (Grow.refl _)
            intro w9 hb9
            simp only [putAll, Act.put, List.setIfInBounds_toArray, List.set_cons_succ, List.set_cons_zero, List.getD_cons_succ, List.getD_cons_zero, Nat.reduceAdd, Nat.zero_add]
            have hb10 := hbw.trans (hb9.mono hbw.size)
            have d1 := below_cell hb9 c1
            have d2 := below_cell hb9 c2
            clear hb9 c1 c2
            go_wp2_with fail
            refine wp_reg_abs [some 32, some 33, some 34, some 35, some 36, some 37, some 38, some 39, some 40] [?v5_0, ?v5_1, ?v5_2, ?v5_3, ?v5_4, ?v5_5, ?v5_6, ?v5_7, ?v5_8] rfl (by kernel_rfl) rfl rfl ⟨?s5_0, ?s5_1, ?s5_2, ?s5_3, ?s5_4, ?s5_5, ?s5_6, ?s5_7, ?s5_8, trivial⟩ ?p5
            case s5_0 =>
              intro t9 w9 hT9 hV9 hO9 K9 hK9
              have o9_0 := hO9 0 _ (by kernel_rfl) rfl
              clear hV9 hO9
              go_simp
              exact hK9 _ (Grow.refl _)
            case s5_1 =>
              intro t9 w9 hT9 hV9 hO9 K9 hK9
              have o9_5 := hO9 5 _ (by kernel_rfl) rfl
              clear hV9 hO9
              go_simp
              exact hK9 _ (Grow.refl _)
            case s5_2 =>
              intro t9 w9 hT9 hV9 hO9 K9 hK9
              have p9_0 : t9[32]? = some ?v5_0 := hV9 0 32 rfl rfl (of_decide_eq_true (by kernel_rfl))
              have p9_1 : t9[33]? = some ?v5_1 := hV9 1 33 rfl rfl (of_decide_eq_true (by kernel_rfl))
              clear hV9 hO9
              go_simp
              exact hK9 _ (Grow.refl _)
            case s5_3 =>
              intro t9 w9 hT9 hV9 hO9 K9 hK9
              have p9_2 : t9[34]? = some ?v5_2 := hV9 2 34 rfl rfl (of_decide_eq_true (by kernel_rfl))
              clear hV9 hO9
              have d9_0 := grow_cell hT9 d1
              have d9_1 := grow_cell hT9 d2
              go_simp
              exact hK9 _ (Grow.refl _)
            case s5_4 =>
              intro t9 w9 hT9 hV9 hO9 K9 hK9
              have o9_1 := hO9 1 _ (by kernel_rfl) rfl
              clear hV9 hO9
              go_simp
              exact hK9 _ (Grow.refl _)
            case s5_5 =>
              intro t9 w9 hT9 hV9 hO9 K9 hK9
              have o9_5 := hO9 5 _ (by kernel_rfl) rfl
              clear hV9 hO9
              go_simp
              exact hK9 _ (Grow.refl _)
            case s5_6 =>
              intro t9 w9 hT9 hV9 hO9 K9 hK9
              have p9_4 : t9[36]? = some ?v5_4 := hV9 4 36 rfl rfl (of_decide_eq_true (by kernel_rfl))
              have p9_5 : t9[37]? = some ?v5_5 := hV9 5 37 rfl rfl (of_decide_eq_true (by kernel_rfl))
              clear hV9 hO9
              go_simp
              exact hK9 _ (Grow.refl _)
            case s5_7 =>
              intro t9 w9 hT9 hV9 hO9 K9 hK9
              have p9_6 : t9[38]? = some ?v5_6 := hV9 6 38 rfl rfl (of_decide_eq_true (by kernel_rfl))
              clear hV9 hO9
              have d9_0 := grow_cell hT9 d1
              have d9_1 := grow_cell hT9 d2
              go_simp
              exact hK9 _ (Grow.refl _)
            case s5_8 =>
              intro t9 w9 hT9 hV9 hO9 K9 hK9
              have p9_3 : t9[35]? = some ?v5_3 := hV9 3 35 rfl rfl (of_decide_eq_true (by kernel_rfl))
              have p9_7 : t9[39]? = some ?v5_7 := hV9 7 39 rfl rfl (of_decide_eq_true (by kernel_rfl))
              clear hV9 hO9
              go_simp
              exact hK9 _ (Grow.refl _)
            intro w9 hb9
            simp only [putAll, Act.put, List.setIfInBounds_toArray, List.set_cons_succ, List.set_cons_zero, List.getD_cons_succ, List.getD_cons_zero, Nat.reduceAdd, Nat.zero_add]
            go_wp2_with fail
            go_ret
            exact ⟨ret_int (cmpI_gt HR.out).symm, hb10.trans (hb9.mono hb10.size)⟩
  · have hb1 : (((dk m).length : Int) != ((dk n).length : Int)) = true := by simp; omega
    rcases Nat.lt_or_ge (dk m).length (dk n).length with hlt | hge
    · have HR : Hid (m < n) := Dg.dg_lt_of_len b10k hlt
      go_enter Try.func61, Try.ntmps61
      go_wp2
      go_ret
      exact ⟨ret_int (cmpI_lt HR.out).symm, Below.refl _ _⟩
    · have HR : Hid (n < m) := Dg.dg_lt_of_len b10k (by show (dk n).length < (dk m).length; omega)
      go_enter Try.func61, Try.ntmps61
      go_wp2
      go_ret
      exact ⟨ret_int (cmpI_gt HR.out).symm, Below.refl _ _⟩
end Go.Proofs.Ytofijnhkoadfjaa
