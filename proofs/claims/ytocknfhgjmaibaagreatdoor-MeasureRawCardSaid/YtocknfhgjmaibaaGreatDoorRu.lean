/- Parts of the proof: Ru. No condition of its own. -/
import Derived.Test.YtocknfhgjmaibaaGreatDoorRs
set_option linter.unusedSimpArgs false
set_option linter.unusedVariables false
set_option linter.unusedSectionVars false
set_option maxRecDepth 100000
set_option maxHeartbeats 8000000
namespace Go.Proofs.YtocknfhgjmaibaaGreatDoor
open Go.RowKit Dg

theorem pow14 (a : Nat) : 10000 ^ a ≤ 2 ^ (14 * a) := by
  rw [Nat.pow_mul]; exact Nat.pow_le_pow_left (by decide) a
theorem log_ends {P Q a b : Nat} (hP : 0 < P) (hQ : 0 < Q) (h1 : P < 10000 ^ a) (h2 : Q < 10000 ^ b) : p2 (-14 * (b : Int) - 14) ≤ rat false P Q ∧ rat false P Q < p2 (14 * (a : Int) + 14) := by
  have e1 : -14 * (b : Int) - 14 = -((14 * b + 14 : Nat) : Int) := by omega
  have e2 : 14 * (a : Int) + 14 = ((14 * a + 14 : Nat) : Int) := by omega
  rw [e1, e2]; have g1 := times_neg hQ (14 * b + 14) (P := P); have g2 := times_pos hQ (14 * a + 14) (P := P); have p1 := pow14 a; have p2' := pow14 b; have q1 : 2 ^ (14 * a) ≤ 2 ^ (14 * a + 14) := Nat.pow_le_pow_right (by decide) (by omega); have q2 : 2 ^ (14 * b) ≤ 2 ^ (14 * b + 14) := Nat.pow_le_pow_right (by decide) (by omega); have q3 : 1 * 2 ^ (14 * b + 14) ≤ P * 2 ^ (14 * b + 14) := Nat.mul_le_mul_right _ hP; have q4 : 1 * 2 ^ (14 * a + 14) ≤ Q * 2 ^ (14 * a + 14) := Nat.mul_le_mul_right _ hQ
  constructor
  · exact Rat.le_of_lt (g1.1.2 (by omega))
  · rw [← Rat.not_le]; intro h
    rcases Rat.le_iff_lt_or_eq.1 h with h | h
    · have := g2.1.1 h; omega
    · have := g2.2.1 h; omega
theorem logr_core (s t : ByteArray) (k P Q : Nat) (w : World) (hi : RetV 57 #[.agg #[.bool false, .string s, .string t]] (.bool true)) (hs : (s.toList == [48]) = false) (hk : k ≤ 8)
    (gp : BigOf s P) (gq : BigOf t Q) (hP : 0 < P) (hQ : 0 < Q) (l1 : ∀ j, j ≤ k → (dk (P ^ (2 ^ j))).length ≤ 5000) (l2 : ∀ j, j ≤ k → (dk (Q ^ (2 ^ j))).length ≤ 5000) (t1 : (S (P ^ (2 ^ k))).size ≤ 20000) (t2 : (S (Q ^ (2 ^ k))).size ≤ 20000) :
    Calls Tryz.prog 68 #[.agg #[.bool false, .string s, .string t], .int .i64 (k : Int)] w fun e w' => LogRes (rat false (P ^ (2 ^ k)) (Q ^ (2 ^ k))) e ∧ Below w.heap.size w w' := by
  have HI := Lib.hid hi; have GP := Lib.hid gp; have GQ := Lib.hid gq; have L1 := Lib.hid l1; have L2 := Lib.hid l2; have T1 := Lib.hid t1; have T2 := Lib.hid t2; have HP0 : Hid (0 < P ^ (2 ^ k)) := Nat.pow_pos hP; have HQ0 : Hid (0 < Q ^ (2 ^ k)) := Nat.pow_pos hQ; have hkI : (k : Int) ≤ 8 := by omega
  have hkI0 : (0 : Int) ≤ (k : Int) := by omega
  clear hi gp gq l1 l2 t1 t2 hP hQ; obtain ⟨o0, hbw⟩ := new1 w [.bool false, .string s, .string t] 27
  go_enter Tryz.func68, Tryz.ntmps68
  go_upto_region 1 with (fail)
  generalize (w.alloc (.cells #[.bool false, .string s, .string t] 27)) = wb at o0 hbw ⊢; obtain ⟨c0, c1, c2⟩ := o0.cells3
  go_wp2_with fail
  refine (HI.out _).mono ?_; rintro e wc ⟨rfl, hb1⟩; replace o0 := o0.below hb1 o0.lt; replace hbw := below6 hbw hb1; clear hb1 c0 c1 c2; obtain ⟨c0, c1, c2⟩ := o0.cells3
  go_upto_region 3 with (fail)
  refine wp_reg_ra [some 37, some 38, some 39, some 40, some 41, some 42, some 7, some 8] [isV ?v1_0, isV ?v1_1, (fun v w' => BigV w' v (P)), isV ?v1_3, isV ?v1_4, (fun v w' => BigV w' v (Q)), (fun v w' => BigV w' v (P)), (fun v w' => BigV w' v (Q))] rfl (by kernel_rfl) rfl rfl ?k1 ⟨?s1_0, ?s1_1, ?s1_2, ?s1_3, ?s1_4, ?s1_5, ?s1_6, ?s1_7, trivial⟩ ?p1
  case s1_0 =>
    intro t9 w9 hT9 hV9 hO9 K9 hK9; have o9_2 := hO9 2 _ (show List.contains _ _ = false from by kernel_rfl) rfl; clear hV9 hO9; go_simp
    (refine hK9 _ _ (Grow.refl _) ?_; exact rfl)
  case s1_1 =>
    intro t9 w9 hT9 hV9 hO9 K9 hK9; obtain ⟨x9_0, p9_0, q9_0⟩ := hV9.g 0 37 rfl rfl (by kernel_rfl); obtain rfl : x9_0 = ?v1_0 := q9_0; clear hV9 hO9; have d9_0 := grow_cell hT9 c0; have d9_1 := grow_cell hT9 c1; have d9_2 := grow_cell hT9 c2; go_simp
    (refine hK9 _ _ (Grow.refl _) ?_; exact rfl)
  case s1_2 =>
    intro t9 w9 hT9 hV9 hO9 K9 hK9; obtain ⟨x9_1, p9_1, q9_1⟩ := hV9.g 1 38 rfl rfl (by kernel_rfl); obtain rfl : x9_1 = ?v1_1 := q9_1; clear hV9 hO9; go_simp; refine (GP.out _).mono ?_; rintro _ w8 ⟨v8, rfl, hv8, hb8⟩; exact hK9 _ _ hb8 hv8
  case s1_3 =>
    intro t9 w9 hT9 hV9 hO9 K9 hK9; have o9_2 := hO9 2 _ (show List.contains _ _ = false from by kernel_rfl) rfl; clear hV9 hO9; go_simp
    (refine hK9 _ _ (Grow.refl _) ?_; exact rfl)
  case s1_4 =>
    intro t9 w9 hT9 hV9 hO9 K9 hK9; obtain ⟨x9_3, p9_3, q9_3⟩ := hV9.g 3 40 rfl rfl (by kernel_rfl); obtain rfl : x9_3 = ?v1_3 := q9_3; clear hV9 hO9; have d9_0 := grow_cell hT9 c0; have d9_1 := grow_cell hT9 c1; have d9_2 := grow_cell hT9 c2; go_simp
    (refine hK9 _ _ (Grow.refl _) ?_; exact rfl)
  case s1_5 =>
    intro t9 w9 hT9 hV9 hO9 K9 hK9; obtain ⟨x9_4, p9_4, q9_4⟩ := hV9.g 4 41 rfl rfl (by kernel_rfl); obtain rfl : x9_4 = ?v1_4 := q9_4; clear hV9 hO9; go_simp; refine (GQ.out _).mono ?_; rintro _ w8 ⟨v8, rfl, hv8, hb8⟩; exact hK9 _ _ hb8 hv8
  case s1_6 =>
    intro t9 w9 hT9 hV9 hO9 K9 hK9; obtain ⟨x9_2, p9_2, q9_2⟩ := hV9.g 2 39 rfl rfl (by kernel_rfl); replace q9_2 : ((fun v w' => BigV w' v (P))) x9_2 _ := q9_2; clear hV9 hO9; go_simp; exact hK9 _ _ (Grow.refl _) q9_2
  case s1_7 =>
    intro t9 w9 hT9 hV9 hO9 K9 hK9; obtain ⟨x9_5, p9_5, q9_5⟩ := hV9.g 5 42 rfl rfl (by kernel_rfl); replace q9_5 : ((fun v w' => BigV w' v (Q))) x9_5 _ := q9_5; clear hV9 hO9; go_simp; exact hK9 _ _ (Grow.refl _) q9_5
  case k1 =>
    intro i9 v9 w9 x9 h9 g9
    match i9, h9 with
    | 0, h9 => exact h9
    | 1, h9 => exact h9
    | 2, h9 => (replace h9 : (fun v w' => BigV w' v (P)) v9 w9 := h9); exact BigV.below h9 g9
    | 3, h9 => exact h9
    | 4, h9 => exact h9
    | 5, h9 => (replace h9 : (fun v w' => BigV w' v (Q)) v9 w9 := h9); exact BigV.below h9 g9
    | 6, h9 => (replace h9 : (fun v w' => BigV w' v (P)) v9 w9 := h9); exact BigV.below h9 g9
    | 7, h9 => (replace h9 : (fun v w' => BigV w' v (Q)) v9 w9 := h9); exact BigV.below h9 g9
    | _ + 8, h9 => exact trivial
  intro u9 w9 hE9 hu9; have r9_0 : u9 0 = ?v1_0 := hu9 0 (by decide); have r9_1 : u9 1 = ?v1_1 := hu9 1 (by decide); have r9_2 : (fun v w' => BigV w' v (P)) (u9 2) w9 := hu9 2 (by decide); have r9_3 : u9 3 = ?v1_3 := hu9 3 (by decide); have r9_4 : u9 4 = ?v1_4 := hu9 4 (by decide); have r9_5 : (fun v w' => BigV w' v (Q)) (u9 5) w9 := hu9 5 (by decide); have r9_6 : (fun v w' => BigV w' v (P)) (u9 6) w9 := hu9 6 (by decide); have r9_7 : (fun v w' => BigV w' v (Q)) (u9 7) w9 := hu9 7 (by decide); clear hu9
  simp only [putAll, Act.put, List.setIfInBounds_toArray, List.set_cons_succ, List.set_cons_zero, List.getD_cons_succ, List.getD_cons_zero, Nat.reduceAdd, Nat.zero_add]
  simp only [r9_0, r9_1, r9_3, r9_4]
  clear r9_0 r9_1 r9_3 r9_4; generalize u9 6 = z9_6 at r9_6 ⊢; generalize u9 7 = z9_7 at r9_7 ⊢; clear c0 c1 c2 o0 HI GP GQ; replace hbw := below6 hbw hE9; clear hE9; replace r9_6 : BigV w9 z9_6 P := r9_6; replace r9_7 : BigV w9 z9_7 Q := r9_7; obtain ⟨wd, rfl⟩ : ∃ wx : World, wx = w9 := ⟨_, rfl⟩; have x7 : BigV wd z9_6 (P ^ (2 ^ 0)) := by rw [Nat.pow_zero, Nat.pow_one]; exact r9_6
  have x8 : BigV wd z9_7 (Q ^ (2 ^ 0)) := by rw [Nat.pow_zero, Nat.pow_one]; exact r9_7
  clear r9_6 r9_7
  go_wp2_with fail
  go_loopg [7, 8, 9] k (fun q v7 v8 v9 wr => ∃ j : Nat, q = k - j ∧ j ≤ k ∧ v9 = .int .i64 (j : Int) ∧ BigV wr v7 (P ^ (2 ^ j)) ∧ BigV wr v8 (Q ^ (2 ^ j)) ∧ Below w.heap.size w wr)
  case atStart => exact ⟨0, by omega, Nat.zero_le _, rfl, x7, x8, hbw⟩
  case round =>
    clear x7 x8 hbw; obtain ⟨j, hq, hj, rfl, hv7, hv8, hbw⟩ := hrel; have HQ := Lib.hid hq; clear hq
    by_cases hlt : j < k
    · have E1 : Hid (P ^ (2 ^ j) * P ^ (2 ^ j) = P ^ (2 ^ (j + 1))) := by
        show _ = _
        rw [← Nat.pow_add, Nat.pow_succ, Nat.mul_two]
      have E2 : Hid (Q ^ (2 ^ j) * Q ^ (2 ^ j) = Q ^ (2 ^ (j + 1))) := by
        show _ = _
        rw [← Nat.pow_add, Nat.pow_succ, Nat.mul_two]
      have m1 := L1.out j hj; have m2 := L2.out j hj; have n1 := Lib.hid (L1.out (j + 1) hlt); have n2 := Lib.hid (L2.out (j + 1) hlt)
      go_wp2_with fail
      refine (times_ref _ hv7 hv7 (by omega) (by omega)).mono ?_; rintro e w1 ⟨v3, rfl, hv3, hb1⟩; rw [E1.out] at hv3; replace hv8 := hv8.below hb1; replace hbw := below6 hbw hb1; clear hb1 hv7
      go_wp2_with fail
      refine (times_ref _ hv8 hv8 (by omega) (by omega)).mono ?_; rintro e w2 ⟨v4, rfl, hv4, hb2⟩; rw [E2.out] at hv4; replace hv3 := hv3.below hb2; replace hbw := below6 hbw hb2; clear hb2 hv8 E1 E2 m1 m2; have N1 := n1.out; have N2 := n2.out; clear n1 n2; have X3 := Lib.hid hv3; have X4 := Lib.hid hv4; obtain ⟨A3, c3, rfl, -⟩ := hv3; obtain ⟨A4, c4, rfl, -⟩ := hv4; generalize hl3 : (dk (P ^ (2 ^ (j + 1)))).length = n3 at *; generalize hl4 : (dk (Q ^ (2 ^ (j + 1)))).length = n4 at *; clear hl3 hl4; have d1 : decide ((5002 : Int) < (n3 : Int)) = false := decide_eq_false (by omega); have d2 : decide ((5002 : Int) < (n4 : Int)) = false := decide_eq_false (by omega)
      go_wp2_with fail
      go_roundg (k - (j + 1))
      case measure => have := HQ.out; omega
      case rel => exact ⟨j + 1, rfl, hlt, by go_num, X3.out, X4.out, hbw⟩
    · obtain rfl : j = k := by omega
      clear hlt hj HQ; have m1 := L1.out j (Nat.le_refl _); have m2 := L2.out j (Nat.le_refl _); have hE := Lib.hid (log_ends HP0.out HQ0.out (dg_lt b10k (P ^ (2 ^ j))) (dg_lt b10k (Q ^ (2 ^ j)))); have HL1 : (dg 10000 (P ^ (2 ^ j))).length = (dk (P ^ (2 ^ j))).length := rfl; have HL2 : (dg 10000 (Q ^ (2 ^ j))).length = (dk (Q ^ (2 ^ j))).length := rfl; rw [HL1, HL2] at hE; clear HL1 HL2 L1 L2; obtain ⟨U, hU⟩ : ∃ U, P ^ (2 ^ j) = U := ⟨_, rfl⟩; obtain ⟨V, hV⟩ : ∃ V, Q ^ (2 ^ j) = V := ⟨_, rfl⟩; have HU := Lib.hid hU; have HV := Lib.hid hV; rw [hU] at hv7 m1 hE HP0 T1; rw [hV] at hv8 m2 HQ0 T2; rw [hV] at hE; clear hU hV; have s1 := T1.out; have s2 := T2.out; clear T1 T2
      go_wp2_with fail
      refine (textr_any _ hv7 (by omega)).mono ?_; rintro e w1 ⟨rfl, hb1⟩; replace hv7 := hv7.below hb1; replace hv8 := hv8.below hb1; replace hbw := below6 hbw hb1; clear hb1; have d1 : decide ((20000 : Int) < ((S U).size : Int)) = false := decide_eq_false (by omega); have d2 : decide ((20000 : Int) < ((S V).size : Int)) = false := decide_eq_false (by omega); have HTX := Lib.hid (textr_any (v := _) (n := V) w1 hv8 (by omega)); generalize S U = SU at *; generalize S V = SV at *; clear s1 s2
      go_wp2_with fail
      refine HTX.out.mono ?_; rintro e w2 ⟨rfl, hb2⟩; replace hv7 := hv7.below hb2; replace hv8 := hv8.below hb2; replace hbw := below6 hbw hb2; clear hb2 HTX; have X7 := Lib.hid hv7; have X8 := Lib.hid hv8; obtain ⟨A7, c7, rfl, -⟩ := hv7; obtain ⟨A8, c8, rfl, -⟩ := hv8; generalize hl3 : (dk U).length = n3 at *; generalize hl4 : (dk V).length = n4 at *; have K1 := Lib.hid hl3; have K2 := Lib.hid hl4; clear hl3 hl4; have z1 : IntKind.i64.wrap (-14 * (n4 : Int)) = -14 * (n4 : Int) := IntWalk.i64_in _ (by omega); have z2 : IntKind.i64.wrap (-14 * (n4 : Int) - 14) = -14 * (n4 : Int) - 14 := IntWalk.i64_in _ (by omega); have z3 : IntKind.i64.wrap (14 * (n3 : Int)) = 14 * (n3 : Int) := IntWalk.i64_in _ (by omega); have z4 : IntKind.i64.wrap (14 * (n3 : Int) + 14) = 14 * (n3 : Int) + 14 := IntWalk.i64_in _ (by omega)
      go_wp2_with fail
      clear z1 z2 z3 z4 d1 d2; generalize hlo0 : -14 * (n4 : Int) - 14 = lo0 at *; generalize hhi0 : 14 * (n3 : Int) + 14 = hi0 at *; have b1 : -80000 ≤ lo0 := by omega
      have b2 : lo0 < hi0 := by omega
      have b3 : hi0 ≤ 80000 := by omega
      clear hlo0 hhi0; have HX : Hid (∀ z, p2 z ≤ rat false U V ↔ cmpR (p2 z) (rat false U V) ≤ 0) := by
        intro z; have := cmpR_gt (x := p2 z) (y := rat false U V); rw [← Rat.not_lt, ← this]
        omega
      go_loopg [10, 11] (hi0 - lo0).toNat (fun q v10 v11 wr => ∃ lo hi : Int, q = (hi - lo).toNat ∧ v10 = .int .i64 lo ∧ v11 = .int .i64 hi ∧ -80000 ≤ lo ∧ lo < hi ∧ hi ≤ 80000 ∧ Hid (p2 lo ≤ rat false U V ∧ rat false U V < p2 hi) ∧ BigV wr (.slice A7 n3 c7) U ∧ BigV wr (.slice A8 n4 c8) V ∧ Below w.heap.size w wr)
      case atStart => exact ⟨lo0, hi0, rfl, rfl, rfl, b1, b2, b3, hE, X7.out, X8.out, hbw⟩
      case round =>
        clear hbw X7 X8 hE b1 b2 b3; obtain ⟨lo, hi, hq, rfl, rfl, b1, b2, b3, hE, x7, x8, hbw⟩ := hrel; have HQ := Lib.hid hq; clear hq
        have zs : IntKind.i64.wrap (hi - lo) = hi - lo := IntWalk.i64_in _ (by omega); have za : IntKind.i64.wrap (lo + hi) = lo + hi := IntWalk.i64_in _ (by omega)
        by_cases hlt : 1 < hi - lo
        · obtain ⟨m, hm⟩ : ∃ m, (lo + hi) / 2 = m := ⟨_, rfl⟩; have m1 : lo < m := by omega
          have m2 : m < hi := by omega
          have hsh : (lo + hi) >>> 1 = m := by rw [Int.shiftRight_eq_div_pow]; exact hm
          have HM := Lib.hid hm; clear hm hsh
          go_wp2_with fail
          rw [HM.out]; obtain ⟨z, hz⟩ : ∃ z, cmpR (p2 m) (rat false U V) = z := ⟨_, rfl⟩; refine (below_ref m z hz _ x7 x8 HQ0.out (by omega) (by omega) (by have := K1.out; omega) (by have := K2.out; omega)).mono ?_; rintro e w3 ⟨rfl, hb3⟩; replace x7 := x7.below hb3; replace x8 := x8.below hb3; replace hbw := below6 hbw hb3; clear hb3; have HI := Lib.hid (HX.out m); rw [hz] at HI; clear hz zs za hlt
          by_cases hzz : z ≤ 0
          · have dz : decide (z ≤ 0) = true := decide_eq_true hzz; have HLE : Hid (p2 m ≤ rat false U V) := HI.out.2 hzz; clear hzz HI
            go_wp2_with fail
            go_roundg (hi - m).toNat
            case measure => have := HQ.out; omega
            case rel => exact ⟨m, hi, rfl, rfl, rfl, by omega, m2, by omega, ⟨HLE.out, hE.out.2⟩, x7, x8, hbw⟩
          · have dz : decide (z ≤ 0) = false := decide_eq_false hzz; have HLE : Hid (rat false U V < p2 m) := by
              show _ < _
              rw [← Rat.not_le]; exact fun h => hzz (HI.out.1 h)
            clear hzz HI
            go_wp2_with fail
            go_roundg (m - lo).toNat
            case measure => have := HQ.out; omega
            case rel => exact ⟨lo, m, rfl, rfl, rfl, by omega, m1, by omega, ⟨hE.out.1, HLE.out⟩, x7, x8, hbw⟩
        · obtain rfl : hi = lo + 1 := by omega
          clear hlt za b2; have HNB : Hid (-1000000 ≤ lo ∧ lo ≤ 1000000) := by show _ ∧ _; omega
          have zt : decide (1 < lo + 1 - lo) = false := decide_eq_false (by omega)
          go_wp2_with fail
          obtain ⟨z, hz⟩ : ∃ z, cmpR (p2 lo) (rat false U V) = z := ⟨_, rfl⟩; refine (below_ref lo z hz _ x7 x8 HQ0.out (by omega) (by omega) (by have := K1.out; omega) (by have := K2.out; omega)).mono ?_; rintro e w3 ⟨rfl, hb3⟩; replace hbw := below6 hbw hb3; clear hb3; have hz2 := (cmpR_zero (x := p2 lo) (y := rat false U V)); rw [hz] at hz2; obtain ⟨bx, hbx, hbx2⟩ : ∃ bx, (z == 0) = bx ∧ bx = decide (p2 lo = rat false U V) := ⟨_, rfl, by rw [Bool.eq_iff_iff]; simp [hz2]⟩; have HBX := Lib.hid hbx2; clear hz2 hbx2 hz zs zt
          go_wp2_with fail
          refine bodyPost_ret (v := .tuple #[.int .i64 lo, .bool bx, .int .i64 0]) (by simp [results, Tryz.results68, go_sem]) rfl ⟨by rw [HU.out, HV.out]; exact ⟨lo, by rw [HBX.out], hE.out, HNB.out⟩, hbw⟩
end Go.Proofs.YtocknfhgjmaibaaGreatDoor
