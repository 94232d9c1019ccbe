/- The dependency package's Path at a good forest: how long it is. -/
import Derived.Test.YtgimddboflhpaaaDep
import Derived.Test.YtgimddboflhpaaaReg2
import Derived.IntWalk
import Derived.Maps.AppendAt
namespace Go.Proofs.Ytgimddboflhpaaa
set_option linter.unusedSimpArgs false
set_option linter.unusedVariables false
set_option linter.unusedSectionVars false
open Go.RowKit Tr
def Meet (ps : List Int) (a b i k : Nat) : Prop := 0 ≤ it ps i (a : Int) ∧ it ps i (a : Int) = it ps k (b : Int) ∧ ∀ i' k', i' < i → 0 ≤ it ps i' (a : Int) → it ps i' (a : Int) ≠ it ps k' (b : Int)
def NoMeet (ps : List Int) (a b : Nat) : Prop := ∀ i k, 0 ≤ it ps i (a : Int) → it ps i (a : Int) ≠ it ps k (b : Int)
def PathPost (ps : List Int) (a b : Nat) (w : World) (e : Ending) (w' : World) : Prop :=
  Below w.heap.size w w' ∧ ((∃ i k Ap cp, Meet ps a b i k ∧ e = .returned (.tuple #[.slice Ap (i + 1 + k) cp, .int .i64 0])) ∨ (NoMeet ps a b ∧ e = .returned (.tuple #[.slice none 0 0, .int .i64 11])))
/-- What stands in the frame behind the search. -/
def PathMid (ps : List Int) (a b n m : Nat) (A1 A2 : Option Addr) (c1 c2 : Nat) (w : World) (s8 s9 : Value) (wx : World) : Prop :=
  Below w.heap.size w wx ∧ ((∃ i k, i < n ∧ k < m ∧ Meet ps a b i k ∧ s8 = .slice A1 (i + 1) c1 ∧ s9 = .slice A2 k c2) ∨ (NoMeet ps a b ∧ s8 = .slice A1 n c1 ∧ s9 = .slice A2 m c2))

theorem own_below {w w' : World} {base size n : Nat} {e : TypeId} {v : Value} {xs : List Value} (h : w.ownsRow base e size v n xs) (hb : Below w.heap.size w w') : w'.ownsRow base e size v n xs :=
  h.kept (row := none) ⟨hb.os, hb.tape, hb.output, hb.size, fun i hi _ => hb.block i hi⟩ (by cases v.ownBlock <;> simp)
theorem own_trunc {w : World} {base n k c : Nat} {e : TypeId} {A : Option Addr} {xs : List Value} (h : w.ownsRow base e 1 (.slice A n c) n xs) (hk : k ≤ n) (h0 : 0 < n) : w.ownsRow base e 1 (.slice A k c) k (xs.take k) := by
  rcases h.2 with ⟨hv, h1⟩ | ⟨g, cap, cur, hv, h1, h2, h3, h4, h5, h6⟩
  · omega
  · injection hv with e1 e2 e3
    subst e1 e3
    refine ⟨by have := h.1; simp; omega, .inr ⟨g, c, cur, rfl, h1, h2, by omega, h4, h5, ?_⟩⟩
    rw [← h6, List.take_take]
    congr 1; omega
theorem wayL_at {ps : List Int} {i n k : Nat} (h : k < (wayL ps i n).length) : (wayL ps i n)[k] = it ps k i := by simp [wayL]

set_option maxRecDepth 100000 in
set_option maxHeartbeats 4000000 in
theorem path_ok (A : Option Addr) (c : Nat) (ps : List Int) (a b : Nat) (w : World) (hA : Ints w A ps) (hx : ps.length ≤ maxLen) (hc : chk ps = (0, 0)) (ha : a < ps.length) (hb : b < ps.length) :
    Calls Try.prog 29 #[.slice A ps.length c, .int .i64 a, .int .i64 b] w (PathPost ps a b w) := by
  obtain ⟨hl, hv, hac, -⟩ := chk_zero (show (chk ps).2 = 0 by rw [hc])
  have hx' := Lib.hid hx
  have HC := Lib.hid hc
  have HV := Lib.hid hv
  have HAC := Lib.hid hac
  have HL := Lib.hid hl
  have HW : Hid (∀ (i : Nat) w, i < ps.length → Ints w A ps → Calls Try.prog 38 #[.slice A ps.length c, .int .i64 i] w fun e w' => ∃ n v, e = .returned v ∧ Tall ps i n ∧ w'.ownsRow w.heap.size 3 1 v n (ci (wayL ps i n)) ∧ Below w.heap.size w w') := fun i w hi h => way_ok A c ps i w h hl hv hac hi
  unfold maxLen at hx
  have HT : Hid (∀ i n, i < ps.length → Tall ps i n → n ≤ ps.length) := by
    show ∀ i n, i < ps.length → Tall ps i n → n ≤ ps.length
    intro i n hi hn
    obtain ⟨m, h1, h2⟩ := tall_of hv hac hi
    rw [hn.uniq h1]; exact h2
  clear hc hv hac
  have t1 : decide ((b : Int) < 0) = false := decide_eq_false (by omega)
  have t2 : decide ((ps.length : Int) ≤ b) = false := decide_eq_false (by omega)
  have t3 : decide (ps.length ≤ b) = false := decide_eq_false (by omega)
  go_enter Try.func29, Try.ntmps29
  have HU : Hid (∀ w, Ints w A ps → Calls Try.prog 37 #[.slice A ps.length c, .int .i64 a] w fun e w' => e = .returned (.bool true) ∧ Below w.heap.size w w') := fun w h => usable_ok A c ps a w h hx'.out HC.out ha
  go_wp2_with fail
  go_step3
  go_wp2_with fail
  refine (HU.out _ hA).mono ?_
  rintro e w1 ⟨rfl, hb1⟩
  go_wp2_with fail
  refine (HW.out a _ ha (hA.below hb1)).mono ?_
  rintro e w2 ⟨n, v, rfl, hn, hown, hb2⟩
  go_wp2_with fail
  refine (HW.out b _ hb ((hA.below hb1).below hb2)).mono ?_
  rintro e w3 ⟨m, v2, rfl, hm, hown2, hb3⟩
  have hn1 : 0 < n := by
    rcases Nat.eq_zero_or_pos n with h | h
    · have := hn.2; rw [h] at this; exact absurd this (by show ¬ ((a : Int) < 0); omega)
    · exact h
  have hm1 : 0 < m := by
    rcases Nat.eq_zero_or_pos m with h | h
    · have := hm.2; rw [h] at this; exact absurd this (by show ¬ ((b : Int) < 0); omega)
    · exact h
  have hnl := HT.out a n ha hn
  have hml := HT.out b m hb hm
  have HN := Lib.hid hn
  have HM := Lib.hid hm
  have hown' : w3.ownsRow w1.heap.size 3 1 v n (ci (wayL ps a n)) := own_below hown hb3
  clear hn hm
  obtain ⟨A1, c1, rfl, hc1, hc1', hr1⟩ := Sl.of_own hown'
  obtain ⟨A2, c2, rfl, hc2, hc2', hr2⟩ := Sl.of_own hown2
  have hI1 : Ints w3 A1 (wayL ps a n) := hr1
  have hI2 : Ints w3 A2 (wayL ps b m) := hr2
  obtain ⟨g1, o1, rfl, -⟩ := hI1.get (k := 0) (by rw [wayL_length]; exact hn1)
  obtain ⟨g2, o2, rfl, -⟩ := hI2.get (k := 0) (by rw [wayL_length]; exact hm1)
  unfold maxLen at hc1' hc2'
  go_wp2_with fail
  go_step3
  go_upto_block 0 with (fail)
  go_cut [8, 9] (fun s8 s9 wx => PathMid ps a b n m (some ⟨g1, o1, none⟩) (some ⟨g2, o2, none⟩) c1 c2 w3 s8 s9 wx)
  case first =>
    go_wp2_with fail
    go_loop [8, 9, 37] (fun s8 s9 v => ∃ i : Nat, i ≤ n ∧ s8 = .slice (some ⟨g1, o1, none⟩) n c1 ∧ s9 = .slice (some ⟨g2, o2, none⟩) m c2 ∧ v = .int .i64 i ∧ Hid (∀ i' k', i' < i → it ps i' (a : Int) ≠ it ps k' (b : Int))) (fun _ _ v => n - (intOf v).toNat)
    case atStart => exact ⟨0, Nat.zero_le _, rfl, rfl, rfl, fun i' k' h => absurd h (Nat.not_lt_zero _)⟩
    case round =>
      obtain ⟨i, hi, rfl, rfl, rfl, hnone⟩ := hrel
      by_cases hlt : i < n
      · obtain ⟨_, _, e, hci⟩ := hI1.get (k := i) (by rw [wayL_length]; exact hlt)
        cases e
        rw [wayL_at] at hci
        go_wp2_with fail
        go_loop [8, 9, 44] (fun s8 s9 v => ∃ k : Nat, k ≤ m ∧ s8 = .slice (some ⟨g1, o1, none⟩) n c1 ∧ s9 = .slice (some ⟨g2, o2, none⟩) m c2 ∧ v = .int .i64 k ∧ Hid (∀ k', k' < k → it ps i (a : Int) ≠ it ps k' (b : Int))) (fun _ _ v => m - (intOf v).toNat)
        case atStart => exact ⟨0, Nat.zero_le _, rfl, rfl, rfl, fun k' h => absurd h (Nat.not_lt_zero _)⟩
        case round =>
          obtain ⟨k, hk, rfl, rfl, rfl, hnk⟩ := hrel
          by_cases hkt : k < m
          · obtain ⟨_, _, e, hck⟩ := hI2.get (k := k) (by rw [wayL_length]; exact hkt)
            cases e
            rw [wayL_at] at hck
            by_cases hxy : it ps i (a : Int) = it ps k (b : Int)
            · have hb1' : (it ps i (a : Int) != it ps k (b : Int)) = false := by simp [hxy]
              have HXY := Lib.hid hxy
              clear hxy
              go_wp2_with fail
              have q1 : (0 : Int) ≤ (i : Int) + 1 := by omega
              have q2 : ((i : Int) + 1) ≤ (c1 : Int) := by omega
              have q3 : (0 : Int) ≤ (k : Int) := by omega
              have q4 : (k : Int) ≤ (c2 : Int) := by omega
              go_region
              go_wp2_with fail
              go_meet
              refine ⟨(Below.refl _ _).drew, .inl ⟨i, k, hlt, hkt, ⟨HN.out.1 i hlt, HXY.out, fun i' k' h _ => hnone.out i' k' h⟩, ?_, ?_⟩⟩
              · go_simp
              · go_simp
            · have hb1' : (it ps i (a : Int) != it ps k (b : Int)) = true := by simp [hxy]
              have HXY : Hid (it ps i (a : Int) ≠ it ps k (b : Int)) := hxy
              clear hxy
              go_wp2_with fail
              go_round
              case rel =>
                refine ⟨k + 1, by omega, rfl, rfl, by go_num, ?_⟩
                intro k' hk'
                by_cases e : k' = k
                · rw [e]; exact HXY.out
                · exact hnk.out k' (by omega)
              case measure => simp [intOf]; omega
          · go_wp2_with fail
            go_round
            case rel =>
              refine ⟨i + 1, by omega, rfl, rfl, by go_num, ?_⟩
              intro i' k' hi'
              by_cases e : i' = i
              · rw [e]
                by_cases hkk : k' < m
                · exact hnk.out k' (by omega)
                · have := it_neg_mono (by omega : m ≤ k') HM.out.2
                  have := HN.out.1 i hlt
                  omega
              · exact hnone.out i' k' (by omega)
            case measure => simp [intOf]; omega
      · obtain rfl : i = n := by omega
        go_wp2_with fail
        go_meet
        refine ⟨Below.refl _ _, .inr ⟨fun i' k' h0 => ?_, rfl, rfl⟩⟩
        by_cases h : i' < i
        · exact hnone.out i' k' h
        · have := it_neg_mono (by omega : i ≤ i') HN.out.2
          omega
  case rest =>
    obtain ⟨hbw, ⟨i, k, hi, hk, hmeet, rfl, rfl⟩ | ⟨hno, rfl, rfl⟩⟩ := hcut
    · have hbw' := Lib.hid hbw
      have HMT := Lib.hid hmeet
      clear hmeet
      go_upto_region 14 with (fail)
      go_cut [81] (fun s81 wx => s81 = .bool false ∧ Below w3.heap.size w3 wx)
      case first =>
        rcases Nat.eq_zero_or_pos k with rfl | hk0
        · go_wp2_with fail
          refine wp_reg_abs [some 61, some 62, some 63, some 64, some 65, some 66, some 67, some 68, some 69, some 70, some 71, some 72, some 73, some 74, some 75, some 76, some 77, some 78, some 79, some 80, some 81] [?v1_0, ?v1_1, ?v1_2, ?v1_3, ?v1_4, ?v1_5, ?v1_6, ?v1_7, ?v1_8, ?v1_9, ?v1_10, ?v1_11, ?v1_12, ?v1_13, ?v1_14, ?v1_15, ?v1_16, ?v1_17, ?v1_18, ?v1_19, ?v1_20] rfl (by kernel_rfl) rfl rfl ⟨?s1_0, ?s1_1, ?s1_2, ?s1_3, ?s1_4, ?s1_5, ?s1_6, ?s1_7, ?s1_8, ?s1_9, ?s1_10, ?s1_11, ?s1_12, ?s1_13, ?s1_14, ?s1_15, ?s1_16, ?s1_17, ?s1_18, ?s1_19, ?s1_20, trivial⟩ ?p1
          case s1_0 =>
            intro t9 w9 hT9 hV9 hO9 K9 hK9
            have o9_9 := hO9 9 _ (by kernel_rfl) rfl
            clear hV9 hO9
            go_simp
            exact hK9 _ (Grow.refl _)
          case s1_1 =>
            intro t9 w9 hT9 hV9 hO9 K9 hK9
            have p9_0 : t9[61]? = some ?v1_0 := hV9 0 61 rfl rfl (of_decide_eq_true (by kernel_rfl))
            clear hV9 hO9
            go_simp
            exact hK9 _ (Grow.refl _)
          case s1_2 =>
            intro t9 w9 hT9 hV9 hO9 K9 hK9
            have p9_1 : t9[62]? = some ?v1_1 := hV9 1 62 rfl rfl (of_decide_eq_true (by kernel_rfl))
            clear hV9 hO9
            go_simp
            exact hK9 _ (Grow.refl _)
          case s1_3 =>
            intro t9 w9 hT9 hV9 hO9 K9 hK9
            have p9_2 : t9[63]? = some ?v1_2 := hV9 2 63 rfl rfl (of_decide_eq_true (by kernel_rfl))
            clear hV9 hO9
            go_simp
            exact hK9 _ (Grow.refl _)
          case s1_4 =>
            intro t9 w9 hT9 hV9 hO9 K9 hK9
            have p9_3 : t9[64]? = some ?v1_3 := hV9 3 64 rfl rfl (of_decide_eq_true (by kernel_rfl))
            have o9_0 := hO9 0 _ (by kernel_rfl) rfl
            clear hV9 hO9
            go_simp
            exact hK9 _ (Grow.refl _)
          case s1_5 =>
            intro t9 w9 hT9 hV9 hO9 K9 hK9
            have p9_3 : t9[64]? = some ?v1_3 := hV9 3 64 rfl rfl (of_decide_eq_true (by kernel_rfl))
            have o9_9 := hO9 9 _ (by kernel_rfl) rfl
            clear hV9 hO9
            go_simp
            exact hK9 _ (Grow.refl _)
          case s1_6 =>
            intro t9 w9 hT9 hV9 hO9 K9 hK9
            have p9_3 : t9[64]? = some ?v1_3 := hV9 3 64 rfl rfl (of_decide_eq_true (by kernel_rfl))
            have o9_9 := hO9 9 _ (by kernel_rfl) rfl
            clear hV9 hO9
            go_simp
            exact hK9 _ (Grow.refl _)
          case s1_7 =>
            intro t9 w9 hT9 hV9 hO9 K9 hK9
            have p9_3 : t9[64]? = some ?v1_3 := hV9 3 64 rfl rfl (of_decide_eq_true (by kernel_rfl))
            have p9_6 : t9[67]? = some ?v1_6 := hV9 6 67 rfl rfl (of_decide_eq_true (by kernel_rfl))
            clear hV9 hO9
            go_simp
            exact hK9 _ (Grow.refl _)
          case s1_8 =>
            intro t9 w9 hT9 hV9 hO9 K9 hK9
            have p9_3 : t9[64]? = some ?v1_3 := hV9 3 64 rfl rfl (of_decide_eq_true (by kernel_rfl))
            have p9_7 : t9[68]? = some ?v1_7 := hV9 7 68 rfl rfl (of_decide_eq_true (by kernel_rfl))
            clear hV9 hO9
            go_simp
            exact hK9 _ (Grow.refl _)
          case s1_9 =>
            intro t9 w9 hT9 hV9 hO9 K9 hK9
            have p9_3 : t9[64]? = some ?v1_3 := hV9 3 64 rfl rfl (of_decide_eq_true (by kernel_rfl))
            have p9_5 : t9[66]? = some ?v1_5 := hV9 5 66 rfl rfl (of_decide_eq_true (by kernel_rfl))
            have p9_8 : t9[69]? = some ?v1_8 := hV9 8 69 rfl rfl (of_decide_eq_true (by kernel_rfl))
            clear hV9 hO9
            go_simp
            exact hK9 _ (Grow.refl _)
          case s1_10 =>
            intro t9 w9 hT9 hV9 hO9 K9 hK9
            have p9_3 : t9[64]? = some ?v1_3 := hV9 3 64 rfl rfl (of_decide_eq_true (by kernel_rfl))
            have p9_9 : t9[70]? = some ?v1_9 := hV9 9 70 rfl rfl (of_decide_eq_true (by kernel_rfl))
            clear hV9 hO9
            go_simp
            exact hK9 _ (Grow.refl _)
          case s1_11 =>
            intro t9 w9 hT9 hV9 hO9 K9 hK9
            have p9_3 : t9[64]? = some ?v1_3 := hV9 3 64 rfl rfl (of_decide_eq_true (by kernel_rfl))
            have p9_4 : t9[65]? = some ?v1_4 := hV9 4 65 rfl rfl (of_decide_eq_true (by kernel_rfl))
            have p9_10 : t9[71]? = some ?v1_10 := hV9 10 71 rfl rfl (of_decide_eq_true (by kernel_rfl))
            clear hV9 hO9
            go_simp
            exact hK9 _ (Grow.refl _)
          case s1_12 =>
            intro t9 w9 hT9 hV9 hO9 K9 hK9
            have p9_3 : t9[64]? = some ?v1_3 := hV9 3 64 rfl rfl (of_decide_eq_true (by kernel_rfl))
            have p9_11 : t9[72]? = some ?v1_11 := hV9 11 72 rfl rfl (of_decide_eq_true (by kernel_rfl))
            clear hV9 hO9
            go_simp
            exact hK9 _ (Grow.refl _)
          case s1_13 =>
            intro t9 w9 hT9 hV9 hO9 K9 hK9
            have p9_3 : t9[64]? = some ?v1_3 := hV9 3 64 rfl rfl (of_decide_eq_true (by kernel_rfl))
            have o9_8 := hO9 8 _ (by kernel_rfl) rfl
            clear hV9 hO9
            go_simp
            exact hK9 _ (Grow.refl _)
          case s1_14 =>
            intro t9 w9 hT9 hV9 hO9 K9 hK9
            have p9_3 : t9[64]? = some ?v1_3 := hV9 3 64 rfl rfl (of_decide_eq_true (by kernel_rfl))
            have o9_8 := hO9 8 _ (by kernel_rfl) rfl
            clear hV9 hO9
            go_simp
            exact hK9 _ (Grow.refl _)
          case s1_15 =>
            intro t9 w9 hT9 hV9 hO9 K9 hK9
            have p9_3 : t9[64]? = some ?v1_3 := hV9 3 64 rfl rfl (of_decide_eq_true (by kernel_rfl))
            have p9_14 : t9[75]? = some ?v1_14 := hV9 14 75 rfl rfl (of_decide_eq_true (by kernel_rfl))
            clear hV9 hO9
            go_simp
            exact hK9 _ (Grow.refl _)
          case s1_16 =>
            intro t9 w9 hT9 hV9 hO9 K9 hK9
            have p9_3 : t9[64]? = some ?v1_3 := hV9 3 64 rfl rfl (of_decide_eq_true (by kernel_rfl))
            have p9_15 : t9[76]? = some ?v1_15 := hV9 15 76 rfl rfl (of_decide_eq_true (by kernel_rfl))
            clear hV9 hO9
            go_simp
            exact hK9 _ (Grow.refl _)
          case s1_17 =>
            intro t9 w9 hT9 hV9 hO9 K9 hK9
            have p9_3 : t9[64]? = some ?v1_3 := hV9 3 64 rfl rfl (of_decide_eq_true (by kernel_rfl))
            have p9_13 : t9[74]? = some ?v1_13 := hV9 13 74 rfl rfl (of_decide_eq_true (by kernel_rfl))
            have p9_16 : t9[77]? = some ?v1_16 := hV9 16 77 rfl rfl (of_decide_eq_true (by kernel_rfl))
            clear hV9 hO9
            go_simp
            exact hK9 _ (Grow.refl _)
          case s1_18 =>
            intro t9 w9 hT9 hV9 hO9 K9 hK9
            have p9_3 : t9[64]? = some ?v1_3 := hV9 3 64 rfl rfl (of_decide_eq_true (by kernel_rfl))
            have p9_17 : t9[78]? = some ?v1_17 := hV9 17 78 rfl rfl (of_decide_eq_true (by kernel_rfl))
            clear hV9 hO9
            go_simp
            exact hK9 _ (Grow.refl _)
          case s1_19 =>
            intro t9 w9 hT9 hV9 hO9 K9 hK9
            have p9_3 : t9[64]? = some ?v1_3 := hV9 3 64 rfl rfl (of_decide_eq_true (by kernel_rfl))
            have p9_12 : t9[73]? = some ?v1_12 := hV9 12 73 rfl rfl (of_decide_eq_true (by kernel_rfl))
            have p9_18 : t9[79]? = some ?v1_18 := hV9 18 79 rfl rfl (of_decide_eq_true (by kernel_rfl))
            clear hV9 hO9
            go_simp
            exact hK9 _ (Grow.refl _)
          case s1_20 =>
            intro t9 w9 hT9 hV9 hO9 K9 hK9
            have p9_3 : t9[64]? = some ?v1_3 := hV9 3 64 rfl rfl (of_decide_eq_true (by kernel_rfl))
            have p9_19 : t9[80]? = some ?v1_19 := hV9 19 80 rfl rfl (of_decide_eq_true (by kernel_rfl))
            clear hV9 hO9
            go_simp
            exact hK9 _ (Grow.refl _)
          intro w9 hb9
          simp only [putAll, Act.put, List.setIfInBounds_toArray, List.set_cons_succ, List.set_cons_zero, List.getD_cons_succ, List.getD_cons_zero, Nat.reduceAdd, Nat.zero_add]
          go_wp2_with fail
          go_meet
          exact ⟨rfl, hbw'.out.trans (hb9.mono hbw'.out.size)⟩
        · obtain ⟨k1, rfl⟩ : ∃ k1, k = k1 + 1 := ⟨k - 1, by omega⟩
          obtain ⟨y, hy⟩ : ∃ y : Nat, it ps k1 (b : Int) = (y : Int) := ⟨(it ps k1 (b : Int)).toNat, by have := HM.out.1 k1 (by omega); omega⟩
          have hyl : y < ps.length := by have := it_lt HV.out k1 (b : Int) (by omega); omega
          have hnx : it ps (k1 + 1) (b : Int) = ps[y] := by rw [it_succ, hy, up_nat hyl]
          obtain ⟨_, _, e, f1⟩ := (hI1.below hbw).get (k := i) (by rw [wayL_length]; exact hi)
          cases e
          rw [wayL_at] at f1
          obtain ⟨_, _, e, f2⟩ := (hI2.below hbw).get (k := k1) (by rw [wayL_length]; omega)
          cases e
          rw [wayL_at, hy] at f2
          obtain ⟨bA, oA, rfl, f3⟩ := (((((hA.below hb1).below hb2).below hb3)).below hbw).get hyl
          rw [← hnx, ← HMT.out.2.1] at f3
          have hneq : (it ps i (a : Int) != it ps i (a : Int)) = false := by simp
          clear hnx hy
          have z1 : IntKind.i64.wrap (k1 : Int) = k1 := IntWalk.i64_in _ (by omega)
          have z2 : IntKind.i64.wrap (i : Int) = i := IntWalk.i64_in _ (by omega)
          have z3 : (k1 : Int) < (k1 : Int) + 1 := by omega
          have z4 : (i : Int) < (i : Int) + 1 := by omega
          have z5 : (y : Int) < ps.length := by omega
          go_wp2_with fail
          refine wp_reg_abs [some 61, some 62, some 63, some 64, some 65, some 66, some 67, some 68, some 69, some 70, some 71, some 72, some 73, some 74, some 75, some 76, some 77, some 78, some 79, some 80, some 81] [?v2_0, ?v2_1, ?v2_2, ?v2_3, ?v2_4, ?v2_5, ?v2_6, ?v2_7, ?v2_8, ?v2_9, ?v2_10, ?v2_11, ?v2_12, ?v2_13, ?v2_14, ?v2_15, ?v2_16, ?v2_17, ?v2_18, ?v2_19, ?v2_20] rfl (by kernel_rfl) rfl rfl ⟨?s2_0, ?s2_1, ?s2_2, ?s2_3, ?s2_4, ?s2_5, ?s2_6, ?s2_7, ?s2_8, ?s2_9, ?s2_10, ?s2_11, ?s2_12, ?s2_13, ?s2_14, ?s2_15, ?s2_16, ?s2_17, ?s2_18, ?s2_19, ?s2_20, trivial⟩ ?p2
          case s2_0 =>
            intro t9 w9 hT9 hV9 hO9 K9 hK9
            have o9_9 := hO9 9 _ (by kernel_rfl) rfl
            clear hV9 hO9
            go_simp
            exact hK9 _ (Grow.refl _)
          case s2_1 =>
            intro t9 w9 hT9 hV9 hO9 K9 hK9
            have p9_0 : t9[61]? = some ?v2_0 := hV9 0 61 rfl rfl (of_decide_eq_true (by kernel_rfl))
            clear hV9 hO9
            go_simp
            exact hK9 _ (Grow.refl _)
          case s2_2 =>
            intro t9 w9 hT9 hV9 hO9 K9 hK9
            have p9_1 : t9[62]? = some ?v2_1 := hV9 1 62 rfl rfl (of_decide_eq_true (by kernel_rfl))
            clear hV9 hO9
            go_simp
            exact hK9 _ (Grow.refl _)
          case s2_3 =>
            intro t9 w9 hT9 hV9 hO9 K9 hK9
            have p9_2 : t9[63]? = some ?v2_2 := hV9 2 63 rfl rfl (of_decide_eq_true (by kernel_rfl))
            clear hV9 hO9
            go_simp
            exact hK9 _ (Grow.refl _)
          case s2_4 =>
            intro t9 w9 hT9 hV9 hO9 K9 hK9
            have p9_3 : t9[64]? = some ?v2_3 := hV9 3 64 rfl rfl (of_decide_eq_true (by kernel_rfl))
            have o9_0 := hO9 0 _ (by kernel_rfl) rfl
            clear hV9 hO9
            go_simp
            exact hK9 _ (Grow.refl _)
          case s2_5 =>
            intro t9 w9 hT9 hV9 hO9 K9 hK9
            have p9_3 : t9[64]? = some ?v2_3 := hV9 3 64 rfl rfl (of_decide_eq_true (by kernel_rfl))
            have o9_9 := hO9 9 _ (by kernel_rfl) rfl
            clear hV9 hO9
            go_simp
            exact hK9 _ (Grow.refl _)
          case s2_6 =>
            intro t9 w9 hT9 hV9 hO9 K9 hK9
            have p9_3 : t9[64]? = some ?v2_3 := hV9 3 64 rfl rfl (of_decide_eq_true (by kernel_rfl))
            have o9_9 := hO9 9 _ (by kernel_rfl) rfl
            clear hV9 hO9
            go_simp
            exact hK9 _ (Grow.refl _)
          case s2_7 =>
            intro t9 w9 hT9 hV9 hO9 K9 hK9
            have p9_3 : t9[64]? = some ?v2_3 := hV9 3 64 rfl rfl (of_decide_eq_true (by kernel_rfl))
            have p9_6 : t9[67]? = some ?v2_6 := hV9 6 67 rfl rfl (of_decide_eq_true (by kernel_rfl))
            clear hV9 hO9
            go_simp
            exact hK9 _ (Grow.refl _)
          case s2_8 =>
            intro t9 w9 hT9 hV9 hO9 K9 hK9
            have p9_3 : t9[64]? = some ?v2_3 := hV9 3 64 rfl rfl (of_decide_eq_true (by kernel_rfl))
            have p9_7 : t9[68]? = some ?v2_7 := hV9 7 68 rfl rfl (of_decide_eq_true (by kernel_rfl))
            clear hV9 hO9
            go_simp
            exact hK9 _ (Grow.refl _)
          case s2_9 =>
            intro t9 w9 hT9 hV9 hO9 K9 hK9
            have p9_3 : t9[64]? = some ?v2_3 := hV9 3 64 rfl rfl (of_decide_eq_true (by kernel_rfl))
            have p9_5 : t9[66]? = some ?v2_5 := hV9 5 66 rfl rfl (of_decide_eq_true (by kernel_rfl))
            have p9_8 : t9[69]? = some ?v2_8 := hV9 8 69 rfl rfl (of_decide_eq_true (by kernel_rfl))
            clear hV9 hO9
            go_simp
            exact hK9 _ (Grow.refl _)
          case s2_10 =>
            intro t9 w9 hT9 hV9 hO9 K9 hK9
            have p9_3 : t9[64]? = some ?v2_3 := hV9 3 64 rfl rfl (of_decide_eq_true (by kernel_rfl))
            have p9_9 : t9[70]? = some ?v2_9 := hV9 9 70 rfl rfl (of_decide_eq_true (by kernel_rfl))
            clear hV9 hO9
            have d9_0 := grow_cell hT9 f1
            have d9_1 := grow_cell hT9 f2
            have d9_2 := grow_cell hT9 f3
            go_simp
            exact hK9 _ (Grow.refl _)
          case s2_11 =>
            intro t9 w9 hT9 hV9 hO9 K9 hK9
            have p9_3 : t9[64]? = some ?v2_3 := hV9 3 64 rfl rfl (of_decide_eq_true (by kernel_rfl))
            have p9_4 : t9[65]? = some ?v2_4 := hV9 4 65 rfl rfl (of_decide_eq_true (by kernel_rfl))
            have p9_10 : t9[71]? = some ?v2_10 := hV9 10 71 rfl rfl (of_decide_eq_true (by kernel_rfl))
            clear hV9 hO9
            go_simp
            exact hK9 _ (Grow.refl _)
          case s2_12 =>
            intro t9 w9 hT9 hV9 hO9 K9 hK9
            have p9_3 : t9[64]? = some ?v2_3 := hV9 3 64 rfl rfl (of_decide_eq_true (by kernel_rfl))
            have p9_11 : t9[72]? = some ?v2_11 := hV9 11 72 rfl rfl (of_decide_eq_true (by kernel_rfl))
            clear hV9 hO9
            have d9_0 := grow_cell hT9 f1
            have d9_1 := grow_cell hT9 f2
            have d9_2 := grow_cell hT9 f3
            go_simp
            exact hK9 _ (Grow.refl _)
          case s2_13 =>
            intro t9 w9 hT9 hV9 hO9 K9 hK9
            have p9_3 : t9[64]? = some ?v2_3 := hV9 3 64 rfl rfl (of_decide_eq_true (by kernel_rfl))
            have o9_8 := hO9 8 _ (by kernel_rfl) rfl
            clear hV9 hO9
            go_simp
            exact hK9 _ (Grow.refl _)
          case s2_14 =>
            intro t9 w9 hT9 hV9 hO9 K9 hK9
            have p9_3 : t9[64]? = some ?v2_3 := hV9 3 64 rfl rfl (of_decide_eq_true (by kernel_rfl))
            have o9_8 := hO9 8 _ (by kernel_rfl) rfl
            clear hV9 hO9
            go_simp
            exact hK9 _ (Grow.refl _)
          case s2_15 =>
            intro t9 w9 hT9 hV9 hO9 K9 hK9
            have p9_3 : t9[64]? = some ?v2_3 := hV9 3 64 rfl rfl (of_decide_eq_true (by kernel_rfl))
            have p9_14 : t9[75]? = some ?v2_14 := hV9 14 75 rfl rfl (of_decide_eq_true (by kernel_rfl))
            clear hV9 hO9
            go_simp
            exact hK9 _ (Grow.refl _)
          case s2_16 =>
            intro t9 w9 hT9 hV9 hO9 K9 hK9
            have p9_3 : t9[64]? = some ?v2_3 := hV9 3 64 rfl rfl (of_decide_eq_true (by kernel_rfl))
            have p9_15 : t9[76]? = some ?v2_15 := hV9 15 76 rfl rfl (of_decide_eq_true (by kernel_rfl))
            clear hV9 hO9
            go_simp
            exact hK9 _ (Grow.refl _)
          case s2_17 =>
            intro t9 w9 hT9 hV9 hO9 K9 hK9
            have p9_3 : t9[64]? = some ?v2_3 := hV9 3 64 rfl rfl (of_decide_eq_true (by kernel_rfl))
            have p9_13 : t9[74]? = some ?v2_13 := hV9 13 74 rfl rfl (of_decide_eq_true (by kernel_rfl))
            have p9_16 : t9[77]? = some ?v2_16 := hV9 16 77 rfl rfl (of_decide_eq_true (by kernel_rfl))
            clear hV9 hO9
            go_simp
            exact hK9 _ (Grow.refl _)
          case s2_18 =>
            intro t9 w9 hT9 hV9 hO9 K9 hK9
            have p9_3 : t9[64]? = some ?v2_3 := hV9 3 64 rfl rfl (of_decide_eq_true (by kernel_rfl))
            have p9_17 : t9[78]? = some ?v2_17 := hV9 17 78 rfl rfl (of_decide_eq_true (by kernel_rfl))
            clear hV9 hO9
            have d9_0 := grow_cell hT9 f1
            have d9_1 := grow_cell hT9 f2
            have d9_2 := grow_cell hT9 f3
            go_simp
            exact hK9 _ (Grow.refl _)
          case s2_19 =>
            intro t9 w9 hT9 hV9 hO9 K9 hK9
            have p9_3 : t9[64]? = some ?v2_3 := hV9 3 64 rfl rfl (of_decide_eq_true (by kernel_rfl))
            have p9_12 : t9[73]? = some ?v2_12 := hV9 12 73 rfl rfl (of_decide_eq_true (by kernel_rfl))
            have p9_18 : t9[79]? = some ?v2_18 := hV9 18 79 rfl rfl (of_decide_eq_true (by kernel_rfl))
            clear hV9 hO9
            go_simp
            exact hK9 _ (Grow.refl _)
          case s2_20 =>
            intro t9 w9 hT9 hV9 hO9 K9 hK9
            have p9_3 : t9[64]? = some ?v2_3 := hV9 3 64 rfl rfl (of_decide_eq_true (by kernel_rfl))
            have p9_19 : t9[80]? = some ?v2_19 := hV9 19 80 rfl rfl (of_decide_eq_true (by kernel_rfl))
            clear hV9 hO9
            go_simp
            exact hK9 _ (Grow.refl _)
          intro w9 hb9
          simp only [putAll, Act.put, List.setIfInBounds_toArray, List.set_cons_succ, List.set_cons_zero, List.getD_cons_succ, List.getD_cons_zero, Nat.reduceAdd, Nat.zero_add]
          go_wp2_with fail
          go_meet
          exact ⟨rfl, hbw'.out.trans (hb9.mono hbw'.out.size)⟩
      case rest =>
        obtain ⟨rfl, hbc⟩ := hcut
        clear hbw hbw'
        have hg1 : g1 < w2.heap.size := (hown.lt g1 rfl).2
        have hg2 : w2.heap.size ≤ g2 := (hown2.lt g2 rfl).1
        have hg3 : g2 < w3.heap.size := (hown2.lt g2 rfl).2
        have hownc : wc.ownsRow w1.heap.size 3 1 (.slice (some ⟨g1, o1, none⟩) (i + 1) c1) (i + 1) ((ci (wayL ps a n)).take (i + 1)) := own_trunc (own_below hown' hbc) (by omega) hn1
        have hIc : Ints wc (some ⟨g2, o2, none⟩) (wayL ps b m) := hI2.below hbc
        have hs1 := hb1.size
        have hs2 := hb2.size
        have hs3 := hb3.size
        have hsc := hbc.size
        have hbtot : Below w.heap.size w wc := ((hb1.trans (hb2.mono (by omega))).trans (hb3.mono (by omega))).trans (hbc.mono (by omega))
        have hkl : k ≤ 4096 := by omega
        have hil : i ≤ 4096 := by omega
        have hne12 : g1 ≠ g2 := by omega
        clear hI1 hI2 hr1 hr2 hown hown2 hown' hbc
        obtain ⟨i3, hi3, hz30, hz31, hz32⟩ := info_parts int_info3
        go_wp2
        go_loopg [8, 14] k (fun q s8 s14 wr => ∃ (t : Nat) (z : Int), q = k - t ∧ t ≤ k ∧ s14 = .int .i64 z ∧ z = (k : Int) - 1 - t ∧ (∃ xs, wr.ownsRow w1.heap.size 3 1 s8 (i + 1 + t) xs) ∧ s8.ownBlock ≠ some g2 ∧ wc.heap.size ≤ wr.heap.size ∧ Ints wr (some ⟨g2, o2, none⟩) (wayL ps b m) ∧ Below w.heap.size w wr)
        case atStart => exact ⟨0, _, rfl, Nat.zero_le _, rfl, by omega, ⟨_, hownc⟩, by simp [Value.ownBlock, hne12], Nat.le_refl _, hIc, hbtot⟩
        case round =>
          clear hIc hownc hbtot
          obtain ⟨t, z, hq, ht, rfl, hz, ⟨xs, hown⟩, hnb, hsz, hI, hbw⟩ := hrel
          have HQ := Lib.hid hq; clear hq
          by_cases hlt : t < k
          · obtain ⟨d, hd⟩ : ∃ d : Nat, z = (d : Int) := ⟨z.toNat, by omega⟩
            subst hd
            have hdm : d < m := by omega
            have hdk : d < k := by omega
            have hdz : (d : Int) - 1 = (k : Int) - 1 - ((t + 1 : Nat) : Int) := by omega
            have HDZ := Lib.hid hdz
            have hHZ := Lib.hid hz
            clear hz hdz
            obtain ⟨_, _, e, f1⟩ := hI.get (k := d) (by rw [wayL_length]; exact hdm)
            cases e
            have h63 : i + 1 + t + 1 ≤ maxLen := by unfold maxLen; omega
            have hnb' := Lib.hid hnb
            clear hnb
            generalize hxv : (wayL ps b m)[d]'(by rw [wayL_length]; exact hdm) = xv at f1
            clear hxv
            go_wp2_with (at_builtin; refine wpList_append_own_at _ rfl (.tmp 89) (.tmp 94) 22 rfl w1.heap.size 3 i3 _ 1 8 Try.underlying22 hi3 hz30 hz31 hz32 rfl (by decide) _ (i + 1 + t) xs rfl (hown.alloc _) ⟨wr.heap.size, 0, none⟩ 1 1 [.int .i64 xv] rfl rfl (new_cells _ _ _ _ rfl) (by simp [Value.oneCell']) h63 (by omega) (by rw [size1]; omega) ?_)
            intro v' w' hown' hgrow _ hat
            have hbw' : Below w.heap.size w w' := (hbw.alloc hbw.size _).grown hgrow (by rw [size1]; have := hbw.size; omega) (fun kk hk => by have := own_lt hown kk hk; omega)
            have hgs := hgrow.size
            rw [size1] at hgs
            have hI' : Ints w' (some ⟨g2, o2, none⟩) (wayL ps b m) := by
              intro j u hu
              obtain ⟨bb, off, e, hc⟩ := hI j u hu
              injection e with e
              injection e with e1 e2
              subst e1 e2
              refine ⟨_, _, rfl, (World.cell?_of_block (a := ⟨g2, o2 + j, none⟩) (hgrow.block g2 (by rw [size1]; omega) (fun e => hnb'.out e.symm))).trans ?_⟩
              rw [World.cell?_alloc_lt _ _ _ (show g2 < wr.heap.size by omega)]
              exact hc
            have hnb2 : v'.ownBlock ≠ some g2 := by
              rcases hat with e | e
              · rw [e]; exact hnb'.out
              · rw [e]; intro e2; injection e2 with e2; omega
            have HNB2 := Lib.hid hnb2
            have H' : Hid (w'.ownsRow w1.heap.size 3 1 v' (i + 1 + (t + 1)) (xs ++ [.int .i64 xv])) := hown'
            clear hgrow hat hnb2 hown' hnb'
            go_wp2
            go_roundg (k - (t + 1))
            case measure => have := HQ.out; omega
            case rel => exact ⟨t + 1, _, rfl, by omega, rfl, HDZ.out, ⟨_, H'.out⟩, HNB2.out, by omega, hI', hbw'⟩
          · obtain rfl : t = k := by omega
            obtain rfl : z = -1 := by omega
            obtain ⟨Ag, cg, rfl, hx1, hx2⟩ := own_form hown
            have hb' := Lib.hid hbw
            clear hz
            go_wp2
            try rw [Exit.noGoto_ret]
            go_ret2
            exact ⟨hb'.out, .inl ⟨i, t, Ag, cg, HMT.out, rfl⟩⟩
    · have hbw' := Lib.hid hbw
      have HNO := Lib.hid hno
      clear hno
      obtain ⟨m1, rfl⟩ : ∃ m1, m = m1 + 1 := ⟨m - 1, by omega⟩
      obtain ⟨n1, rfl⟩ : ∃ n1, n = n1 + 1 := ⟨n - 1, by omega⟩
      obtain ⟨y, hy⟩ : ∃ y : Nat, it ps m1 (b : Int) = (y : Int) := ⟨(it ps m1 (b : Int)).toNat, by have := HM.out.1 m1 (by omega); omega⟩
      have hyl : y < ps.length := by have := it_lt HV.out m1 (b : Int) (by omega); omega
      have hnx : ps[y] = -1 := by
        have h1 : it ps (m1 + 1) (b : Int) = ps[y] := by rw [it_succ, hy, up_nat hyl]
        have h2 := HM.out.2
        have h3 := (HV.out y hyl).1
        omega
      obtain ⟨_, _, e, f1⟩ := (hI1.below hbw).get (k := n1) (by rw [wayL_length]; omega)
      cases e
      rw [wayL_at] at f1
      obtain ⟨_, _, e, f2⟩ := (hI2.below hbw).get (k := m1) (by rw [wayL_length]; omega)
      cases e
      rw [wayL_at, hy] at f2
      obtain ⟨bA, oA, rfl, f3⟩ := (((((hA.below hb1).below hb2).below hb3)).below hbw).get hyl
      rw [hnx] at f3
      have hneq : ((-1 : Int) != it ps n1 (a : Int)) = true := by
        have := HN.out.1 n1 (by omega)
        simp; omega
      clear hnx hy
      have z1 : IntKind.i64.wrap (m1 : Int) = m1 := IntWalk.i64_in _ (by omega)
      have z2 : IntKind.i64.wrap (n1 : Int) = n1 := IntWalk.i64_in _ (by omega)
      have z3 : (m1 : Int) < (m1 : Int) + 1 := by omega
      have z4 : (n1 : Int) < (n1 : Int) + 1 := by omega
      have z5 : (y : Int) < ps.length := by omega
      go_wp2_with fail
      refine wp_reg_abs [some 61, some 62, some 63, some 64, some 65, some 66, some 67, some 68, some 69, some 70, some 71, some 72, some 73, some 74, some 75, some 76, some 77, some 78, some 79, some 80, some 81] [?v3_0, ?v3_1, ?v3_2, ?v3_3, ?v3_4, ?v3_5, ?v3_6, ?v3_7, ?v3_8, ?v3_9, ?v3_10, ?v3_11, ?v3_12, ?v3_13, ?v3_14, ?v3_15, ?v3_16, ?v3_17, ?v3_18, ?v3_19, ?v3_20] rfl (by kernel_rfl) rfl rfl ⟨?s3_0, ?s3_1, ?s3_2, ?s3_3, ?s3_4, ?s3_5, ?s3_6, ?s3_7, ?s3_8, ?s3_9, ?s3_10, ?s3_11, ?s3_12, ?s3_13, ?s3_14, ?s3_15, ?s3_16, ?s3_17, ?s3_18, ?s3_19, ?s3_20, trivial⟩ ?p3
      case s3_0 =>
        intro t9 w9 hT9 hV9 hO9 K9 hK9
        have o9_9 := hO9 9 _ (by kernel_rfl) rfl
        clear hV9 hO9
        go_simp
        exact hK9 _ (Grow.refl _)
      case s3_1 =>
        intro t9 w9 hT9 hV9 hO9 K9 hK9
        have p9_0 : t9[61]? = some ?v3_0 := hV9 0 61 rfl rfl (of_decide_eq_true (by kernel_rfl))
        clear hV9 hO9
        go_simp
        exact hK9 _ (Grow.refl _)
      case s3_2 =>
        intro t9 w9 hT9 hV9 hO9 K9 hK9
        have p9_1 : t9[62]? = some ?v3_1 := hV9 1 62 rfl rfl (of_decide_eq_true (by kernel_rfl))
        clear hV9 hO9
        go_simp
        exact hK9 _ (Grow.refl _)
      case s3_3 =>
        intro t9 w9 hT9 hV9 hO9 K9 hK9
        have p9_2 : t9[63]? = some ?v3_2 := hV9 2 63 rfl rfl (of_decide_eq_true (by kernel_rfl))
        clear hV9 hO9
        go_simp
        exact hK9 _ (Grow.refl _)
      case s3_4 =>
        intro t9 w9 hT9 hV9 hO9 K9 hK9
        have p9_3 : t9[64]? = some ?v3_3 := hV9 3 64 rfl rfl (of_decide_eq_true (by kernel_rfl))
        have o9_0 := hO9 0 _ (by kernel_rfl) rfl
        clear hV9 hO9
        go_simp
        exact hK9 _ (Grow.refl _)
      case s3_5 =>
        intro t9 w9 hT9 hV9 hO9 K9 hK9
        have p9_3 : t9[64]? = some ?v3_3 := hV9 3 64 rfl rfl (of_decide_eq_true (by kernel_rfl))
        have o9_9 := hO9 9 _ (by kernel_rfl) rfl
        clear hV9 hO9
        go_simp
        exact hK9 _ (Grow.refl _)
      case s3_6 =>
        intro t9 w9 hT9 hV9 hO9 K9 hK9
        have p9_3 : t9[64]? = some ?v3_3 := hV9 3 64 rfl rfl (of_decide_eq_true (by kernel_rfl))
        have o9_9 := hO9 9 _ (by kernel_rfl) rfl
        clear hV9 hO9
        go_simp
        exact hK9 _ (Grow.refl _)
      case s3_7 =>
        intro t9 w9 hT9 hV9 hO9 K9 hK9
        have p9_3 : t9[64]? = some ?v3_3 := hV9 3 64 rfl rfl (of_decide_eq_true (by kernel_rfl))
        have p9_6 : t9[67]? = some ?v3_6 := hV9 6 67 rfl rfl (of_decide_eq_true (by kernel_rfl))
        clear hV9 hO9
        go_simp
        exact hK9 _ (Grow.refl _)
      case s3_8 =>
        intro t9 w9 hT9 hV9 hO9 K9 hK9
        have p9_3 : t9[64]? = some ?v3_3 := hV9 3 64 rfl rfl (of_decide_eq_true (by kernel_rfl))
        have p9_7 : t9[68]? = some ?v3_7 := hV9 7 68 rfl rfl (of_decide_eq_true (by kernel_rfl))
        clear hV9 hO9
        go_simp
        exact hK9 _ (Grow.refl _)
      case s3_9 =>
        intro t9 w9 hT9 hV9 hO9 K9 hK9
        have p9_3 : t9[64]? = some ?v3_3 := hV9 3 64 rfl rfl (of_decide_eq_true (by kernel_rfl))
        have p9_5 : t9[66]? = some ?v3_5 := hV9 5 66 rfl rfl (of_decide_eq_true (by kernel_rfl))
        have p9_8 : t9[69]? = some ?v3_8 := hV9 8 69 rfl rfl (of_decide_eq_true (by kernel_rfl))
        clear hV9 hO9
        go_simp
        exact hK9 _ (Grow.refl _)
      case s3_10 =>
        intro t9 w9 hT9 hV9 hO9 K9 hK9
        have p9_3 : t9[64]? = some ?v3_3 := hV9 3 64 rfl rfl (of_decide_eq_true (by kernel_rfl))
        have p9_9 : t9[70]? = some ?v3_9 := hV9 9 70 rfl rfl (of_decide_eq_true (by kernel_rfl))
        clear hV9 hO9
        have d9_0 := grow_cell hT9 f1
        have d9_1 := grow_cell hT9 f2
        have d9_2 := grow_cell hT9 f3
        go_simp
        exact hK9 _ (Grow.refl _)
      case s3_11 =>
        intro t9 w9 hT9 hV9 hO9 K9 hK9
        have p9_3 : t9[64]? = some ?v3_3 := hV9 3 64 rfl rfl (of_decide_eq_true (by kernel_rfl))
        have p9_4 : t9[65]? = some ?v3_4 := hV9 4 65 rfl rfl (of_decide_eq_true (by kernel_rfl))
        have p9_10 : t9[71]? = some ?v3_10 := hV9 10 71 rfl rfl (of_decide_eq_true (by kernel_rfl))
        clear hV9 hO9
        go_simp
        exact hK9 _ (Grow.refl _)
      case s3_12 =>
        intro t9 w9 hT9 hV9 hO9 K9 hK9
        have p9_3 : t9[64]? = some ?v3_3 := hV9 3 64 rfl rfl (of_decide_eq_true (by kernel_rfl))
        have p9_11 : t9[72]? = some ?v3_11 := hV9 11 72 rfl rfl (of_decide_eq_true (by kernel_rfl))
        clear hV9 hO9
        have d9_0 := grow_cell hT9 f1
        have d9_1 := grow_cell hT9 f2
        have d9_2 := grow_cell hT9 f3
        go_simp
        exact hK9 _ (Grow.refl _)
      case s3_13 =>
        intro t9 w9 hT9 hV9 hO9 K9 hK9
        have p9_3 : t9[64]? = some ?v3_3 := hV9 3 64 rfl rfl (of_decide_eq_true (by kernel_rfl))
        have o9_8 := hO9 8 _ (by kernel_rfl) rfl
        clear hV9 hO9
        go_simp
        exact hK9 _ (Grow.refl _)
      case s3_14 =>
        intro t9 w9 hT9 hV9 hO9 K9 hK9
        have p9_3 : t9[64]? = some ?v3_3 := hV9 3 64 rfl rfl (of_decide_eq_true (by kernel_rfl))
        have o9_8 := hO9 8 _ (by kernel_rfl) rfl
        clear hV9 hO9
        go_simp
        exact hK9 _ (Grow.refl _)
      case s3_15 =>
        intro t9 w9 hT9 hV9 hO9 K9 hK9
        have p9_3 : t9[64]? = some ?v3_3 := hV9 3 64 rfl rfl (of_decide_eq_true (by kernel_rfl))
        have p9_14 : t9[75]? = some ?v3_14 := hV9 14 75 rfl rfl (of_decide_eq_true (by kernel_rfl))
        clear hV9 hO9
        go_simp
        exact hK9 _ (Grow.refl _)
      case s3_16 =>
        intro t9 w9 hT9 hV9 hO9 K9 hK9
        have p9_3 : t9[64]? = some ?v3_3 := hV9 3 64 rfl rfl (of_decide_eq_true (by kernel_rfl))
        have p9_15 : t9[76]? = some ?v3_15 := hV9 15 76 rfl rfl (of_decide_eq_true (by kernel_rfl))
        clear hV9 hO9
        go_simp
        exact hK9 _ (Grow.refl _)
      case s3_17 =>
        intro t9 w9 hT9 hV9 hO9 K9 hK9
        have p9_3 : t9[64]? = some ?v3_3 := hV9 3 64 rfl rfl (of_decide_eq_true (by kernel_rfl))
        have p9_13 : t9[74]? = some ?v3_13 := hV9 13 74 rfl rfl (of_decide_eq_true (by kernel_rfl))
        have p9_16 : t9[77]? = some ?v3_16 := hV9 16 77 rfl rfl (of_decide_eq_true (by kernel_rfl))
        clear hV9 hO9
        go_simp
        exact hK9 _ (Grow.refl _)
      case s3_18 =>
        intro t9 w9 hT9 hV9 hO9 K9 hK9
        have p9_3 : t9[64]? = some ?v3_3 := hV9 3 64 rfl rfl (of_decide_eq_true (by kernel_rfl))
        have p9_17 : t9[78]? = some ?v3_17 := hV9 17 78 rfl rfl (of_decide_eq_true (by kernel_rfl))
        clear hV9 hO9
        have d9_0 := grow_cell hT9 f1
        have d9_1 := grow_cell hT9 f2
        have d9_2 := grow_cell hT9 f3
        go_simp
        exact hK9 _ (Grow.refl _)
      case s3_19 =>
        intro t9 w9 hT9 hV9 hO9 K9 hK9
        have p9_3 : t9[64]? = some ?v3_3 := hV9 3 64 rfl rfl (of_decide_eq_true (by kernel_rfl))
        have p9_12 : t9[73]? = some ?v3_12 := hV9 12 73 rfl rfl (of_decide_eq_true (by kernel_rfl))
        have p9_18 : t9[79]? = some ?v3_18 := hV9 18 79 rfl rfl (of_decide_eq_true (by kernel_rfl))
        clear hV9 hO9
        go_simp
        exact hK9 _ (Grow.refl _)
      case s3_20 =>
        intro t9 w9 hT9 hV9 hO9 K9 hK9
        have p9_3 : t9[64]? = some ?v3_3 := hV9 3 64 rfl rfl (of_decide_eq_true (by kernel_rfl))
        have p9_19 : t9[80]? = some ?v3_19 := hV9 19 80 rfl rfl (of_decide_eq_true (by kernel_rfl))
        clear hV9 hO9
        go_simp
        exact hK9 _ (Grow.refl _)
      intro w9 hb9
      simp only [putAll, Act.put, List.setIfInBounds_toArray, List.set_cons_succ, List.set_cons_zero, List.getD_cons_succ, List.getD_cons_zero, Nat.reduceAdd, Nat.zero_add]
      go_wp2_with fail
      try rw [Exit.noGoto_ret]
      go_ret2
      exact ⟨((((hb1.trans (hb2.mono hb1.size)).trans (hb3.mono (Nat.le_trans hb1.size hb2.size))).trans (hbw'.out.mono (Nat.le_trans hb1.size (Nat.le_trans hb2.size hb3.size)))).trans (hb9.mono (Nat.le_trans hb1.size (Nat.le_trans hb2.size (Nat.le_trans hb3.size hbw'.out.size))))), .inr ⟨HNO.out, rfl⟩⟩
end Go.Proofs.Ytgimddboflhpaaa
