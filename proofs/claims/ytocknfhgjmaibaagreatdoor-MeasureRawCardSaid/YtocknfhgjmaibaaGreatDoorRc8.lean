/- Parts of the proof: Rc8. No condition of its own. -/
import Derived.Test.YtocknfhgjmaibaaGreatDoorRq8
set_option linter.unusedSimpArgs false
set_option linter.unusedVariables false
set_option linter.unusedSectionVars false
set_option maxRecDepth 100000
set_option maxHeartbeats 8000000
namespace Go.Proofs.YtocknfhgjmaibaaGreatDoor
open Go.RowKit Dg

theorem minus_any {v1 v2 : Value} {m n : Nat} (w : World) (h1 : BigV w v1 m) (h2 : BigV w v2 n) (hm : (dk m).length ≤ 1048576) :
    Calls Tryz.prog 36 #[v1, v2] w fun e w' => ∃ v, e = .returned v ∧ Below w.heap.size w w' := by
  obtain ⟨A, c, rfl, hc1, hc2, hA⟩ := h1; obtain ⟨A', c', rfl, hd1, hd2, hA'⟩ := h2; obtain ⟨i0, hi0, hz0, hz1, hz2⟩ := info_parts int_info; unfold maxLen at hc2 hd2; have lm : Hid (Dg.val 10000 (dk m) = m) := Dg.val_dg b10k m; have ln : Hid (Dg.val 10000 (dk n) = n) := Dg.val_dg b10k n
  go_enter Tryz.func36, Tryz.ntmps36
  go_wp2_with fail
  go_loopg [5, 6, 11] (dk m).length (fun q s5 s6 s11 wr => ∃ (i br : Nat) (O : List Nat), q = (dk m).length - i ∧ s6 = .int .i64 br ∧ s11 = .int .i64 i ∧ br ≤ 1 ∧ O.length = i ∧ i ≤ (dk m).length ∧ Hid (Dg.Dig 10000 O) ∧ Hid (Dg.val 10000 O + Dg.val 10000 ((dk n).take i) = Dg.val 10000 ((dk m).take i) + 10000 ^ i * br) ∧ wr.ownsRow w.heap.size 3 1 s5 O.length (ck O) ∧ Below w.heap.size w wr)
  case atStart => exact ⟨0, 0, [], rfl, rfl, rfl, by omega, rfl, by omega, fun x hx => by simp at hx, rfl, World.ownsRow_nil _ _ _ _, Below.refl _ _⟩
  case round =>
    obtain ⟨i, br, O, hq, rfl, rfl, hbr, hO, hi, HD, HV, hown, hbw⟩ := hrel; have HQ := Lib.hid hq; clear hq
    have HO := Lib.hid hO; rw [hO] at hown; clear hO
    by_cases hla : i < (dk m).length
    · obtain ⟨b0, off, rfl, c1⟩ := (hA.below hbw).get hla; have ha := dk_get_lt m i hla; have HVM : Hid (Dg.val 10000 ((dk m).take (i + 1)) = Dg.val 10000 ((dk m).take i) + 10000 ^ i * (dk m)[i]) := Dg.val_take_succ (b := 10000) hla; generalize (dk m)[i] = a at c1 ha HVM; have h63 : i + 1 ≤ maxLen := by unfold maxLen; omega
      have hszw := hbw.size
      by_cases hlb : i < (dk n).length
      · obtain ⟨b1, off', rfl, c2⟩ := (hA'.below hbw).get hlb; have hb := dk_get_lt n i hlb; have HVN : Hid (Dg.val 10000 ((dk n).take (i + 1)) = Dg.val 10000 ((dk n).take i) + 10000 ^ i * (dk n)[i]) := Dg.val_take_succ (b := 10000) hlb; generalize (dk n)[i] = b at c2 hb HVN
        by_cases hd : (a : Int) - br - b < 0
        · skip
          have HSTEP := Lib.hid (sub_step (B := 10000) (a := a) (b := b) (br' := 1) (x := (a + 10000 - br - b)) HV.out (by omega)); clear HV
          go_wp2_with (at_builtin; refine wpList_append_own_at _ rfl (.tmp 34) (.tmp 36) 37 rfl w.heap.size 3 i0 _ 1 8 Tryz.underlying37 hi0 hz0 hz1 hz2 rfl (by decide) _ i (ck O) rfl (hown.alloc _) ⟨wr.heap.size, 0, none⟩ 1 1 [.int .i64 ((a : Int) - br - b + 10000)] rfl rfl (new_cells _ _ _ _ rfl) (by simp [Value.oneCell']) h63 (by omega) (by rw [size1]; omega) ?_)
          intro v' w' hown' hgrow _ hat; have hbw' : Below w.heap.size w w' := (hbw.alloc hbw.size _).grown hgrow (by rw [size1]; omega) (own_lt hown); have H' : Hid (w'.ownsRow w.heap.size 3 1 v' (O ++ [(a + 10000 - br - b)]).length (ck (O ++ [(a + 10000 - br - b)]))) := by
            show World.ownsRow _ _ _ _ _ _ _
            rw [← ck_snoc (z := (a : Int) - br - b + 10000) (by omega), List.length_append, HO.out]; exact hown'
          clear hgrow hat hown' hown
          go_wp2_with fail
          go_roundg ((dk m).length - (i + 1))
          case measure => have := HQ.out; omega
          case rel =>
            refine ⟨i + 1, 1, _, rfl, by go_num, by go_num, by omega, by rw [List.length_append, HO.out]; rfl, by omega, dig_snoc HD.out (by omega), ?_, H'.out, hbw'⟩
            show _ = _
            rw [Dg.val_snoc, HO.out, Nat.pow_succ, HVM.out, HVN.out]; exact HSTEP.out
        · skip
          have HSTEP := Lib.hid (sub_step (B := 10000) (a := a) (b := b) (br' := 0) (x := (a - br - b)) HV.out (by omega)); clear HV
          go_wp2_with (at_builtin; refine wpList_append_own_at _ rfl (.tmp 34) (.tmp 36) 37 rfl w.heap.size 3 i0 _ 1 8 Tryz.underlying37 hi0 hz0 hz1 hz2 rfl (by decide) _ i (ck O) rfl (hown.alloc _) ⟨wr.heap.size, 0, none⟩ 1 1 [.int .i64 ((a : Int) - br - b)] rfl rfl (new_cells _ _ _ _ rfl) (by simp [Value.oneCell']) h63 (by omega) (by rw [size1]; omega) ?_)
          intro v' w' hown' hgrow _ hat; have hbw' : Below w.heap.size w w' := (hbw.alloc hbw.size _).grown hgrow (by rw [size1]; omega) (own_lt hown); have H' : Hid (w'.ownsRow w.heap.size 3 1 v' (O ++ [(a - br - b)]).length (ck (O ++ [(a - br - b)]))) := by
            show World.ownsRow _ _ _ _ _ _ _
            rw [← ck_snoc (z := (a : Int) - br - b) (by omega), List.length_append, HO.out]; exact hown'
          clear hgrow hat hown' hown
          go_wp2_with fail
          go_roundg ((dk m).length - (i + 1))
          case measure => have := HQ.out; omega
          case rel =>
            refine ⟨i + 1, 0, _, rfl, by go_num, by go_num, by omega, by rw [List.length_append, HO.out]; rfl, by omega, dig_snoc HD.out (by omega), ?_, H'.out, hbw'⟩
            show _ = _
            rw [Dg.val_snoc, HO.out, Nat.pow_succ, HVM.out, HVN.out]; exact HSTEP.out
      · have HVN : Hid (Dg.val 10000 ((dk n).take (i + 1)) = Dg.val 10000 ((dk n).take i) + 10000 ^ i * 0) := take_one_more (by omega)
        by_cases hd : (a : Int) - br < 0
        · skip
          have HSTEP := Lib.hid (sub_step (B := 10000) (a := a) (b := 0) (br' := 1) (x := (a + 10000 - br)) HV.out (by omega)); clear HV
          go_wp2_with (at_builtin; refine wpList_append_own_at _ rfl (.tmp 34) (.tmp 36) 37 rfl w.heap.size 3 i0 _ 1 8 Tryz.underlying37 hi0 hz0 hz1 hz2 rfl (by decide) _ i (ck O) rfl (hown.alloc _) ⟨wr.heap.size, 0, none⟩ 1 1 [.int .i64 ((a : Int) - br + 10000)] rfl rfl (new_cells _ _ _ _ rfl) (by simp [Value.oneCell']) h63 (by omega) (by rw [size1]; omega) ?_)
          intro v' w' hown' hgrow _ hat; have hbw' : Below w.heap.size w w' := (hbw.alloc hbw.size _).grown hgrow (by rw [size1]; omega) (own_lt hown); have H' : Hid (w'.ownsRow w.heap.size 3 1 v' (O ++ [(a + 10000 - br)]).length (ck (O ++ [(a + 10000 - br)]))) := by
            show World.ownsRow _ _ _ _ _ _ _
            rw [← ck_snoc (z := (a : Int) - br + 10000) (by omega), List.length_append, HO.out]; exact hown'
          clear hgrow hat hown' hown
          go_wp2_with fail
          go_roundg ((dk m).length - (i + 1))
          case measure => have := HQ.out; omega
          case rel =>
            refine ⟨i + 1, 1, _, rfl, by go_num, by go_num, by omega, by rw [List.length_append, HO.out]; rfl, by omega, dig_snoc HD.out (by omega), ?_, H'.out, hbw'⟩
            show _ = _
            rw [Dg.val_snoc, HO.out, Nat.pow_succ, HVM.out, HVN.out]; exact HSTEP.out
        · skip
          have HSTEP := Lib.hid (sub_step (B := 10000) (a := a) (b := 0) (br' := 0) (x := (a - br)) HV.out (by omega)); clear HV
          go_wp2_with (at_builtin; refine wpList_append_own_at _ rfl (.tmp 34) (.tmp 36) 37 rfl w.heap.size 3 i0 _ 1 8 Tryz.underlying37 hi0 hz0 hz1 hz2 rfl (by decide) _ i (ck O) rfl (hown.alloc _) ⟨wr.heap.size, 0, none⟩ 1 1 [.int .i64 ((a : Int) - br)] rfl rfl (new_cells _ _ _ _ rfl) (by simp [Value.oneCell']) h63 (by omega) (by rw [size1]; omega) ?_)
          intro v' w' hown' hgrow _ hat; have hbw' : Below w.heap.size w w' := (hbw.alloc hbw.size _).grown hgrow (by rw [size1]; omega) (own_lt hown); have H' : Hid (w'.ownsRow w.heap.size 3 1 v' (O ++ [(a - br)]).length (ck (O ++ [(a - br)]))) := by
            show World.ownsRow _ _ _ _ _ _ _
            rw [← ck_snoc (z := (a : Int) - br) (by omega), List.length_append, HO.out]; exact hown'
          clear hgrow hat hown' hown
          go_wp2_with fail
          go_roundg ((dk m).length - (i + 1))
          case measure => have := HQ.out; omega
          case rel =>
            refine ⟨i + 1, 0, _, rfl, by go_num, by go_num, by omega, by rw [List.length_append, HO.out]; rfl, by omega, dig_snoc HD.out (by omega), ?_, H'.out, hbw'⟩
            show _ = _
            rw [Dg.val_snoc, HO.out, Nat.pow_succ, HVM.out, HVN.out]; exact HSTEP.out
    · obtain rfl : i = (dk m).length := by omega
      obtain ⟨A2, c2, rfl, hn1, hn2⟩ := own_form hown; have HW : Hid (Kds wr A2 O) := Rd.of_own hown; clear hown HV
      go_wp2_with fail
      refine (trim_nat A2 c2 O _ (n := Dg.val 10000 O) HW.out HO.out.symm (by rw [HO.out]; exact hn1) hn2 HD.out rfl).mono ?_; rintro e w' ⟨v, rfl, hv, rfl⟩
      go_wp2
      go_ret
      exact ⟨v, rfl, hbw⟩
theorem dk_small {x : Nat} (h : x ≤ 4294967296) : (dk x).length ≤ 1048576 := by
  have : (dk x).length ≤ 3 := Dg.dg_le b10k (Nat.lt_of_le_of_lt h (by decide))
  omega
theorem dk_prod {x y : Nat} (h1 : x ≤ 4294967296) (h2 : y ≤ 4294967296) : (dk (x * y)).length ≤ 20000 := by
  have h3 : x * y ≤ 4294967296 * 4294967296 := Nat.mul_le_mul h1 h2; have : (dk (x * y)).length ≤ 5 := Dg.dg_le b10k (Nat.lt_of_le_of_lt h3 (by decide))
  omega
theorem dk_three {x y : Nat} (h1 : x ≤ 100000000000000000000) (h2 : y ≤ 4294967296) : (dk x).length ≤ 20000 ∧ (dk (x * x)).length ≤ 20000 ∧ (dk (x * x * y)).length ≤ 20000 ∧ (dk y).length ≤ 20000 := by
  have h3 : x * x ≤ 100000000000000000000 * 100000000000000000000 := Nat.mul_le_mul h1 h1; have h4 : x * x * y ≤ 100000000000000000000 * 100000000000000000000 * 4294967296 := Nat.mul_le_mul h3 h2; have e1 : (dk x).length ≤ 20 := Dg.dg_le b10k (Nat.lt_of_le_of_lt h1 (by decide)); have e2 : (dk (x * x)).length ≤ 20 := Dg.dg_le b10k (Nat.lt_of_le_of_lt h3 (by decide)); have e3 : (dk (x * x * y)).length ≤ 20 := Dg.dg_le b10k (Nat.lt_of_le_of_lt h4 (by decide)); have e4 : (dk y).length ≤ 20 := Dg.dg_le b10k (Nat.lt_of_le_of_lt h2 (by decide))
  omega
theorem of64_one (w : World) : Calls Tryz.prog 35 #[.int .u64 1] w fun e w' => ∃ v, e = .returned v ∧ BigV w' v 1 ∧ Below w.heap.size w w' := of64_ref 1 (by decide) w
theorem cmpI_nonneg {m n : Nat} (h : n ≤ m) : 0 ≤ cmpI m n := by
  unfold cmpI
  repeat (first | split | omega)
theorem chi_ref {a p q n : Nat} (hv : VC a p q n) (w : World) :
    Calls Tryz.prog 17 #[.agg #[.int .i64 (a : Int), .int .i64 (p : Int), .int .i64 (q : Int), .int .i64 (n : Int)]] w fun e w' => QRes (prodN [n, ((n : Int) * (a : Int) - (p : Int) * (q : Int)).natAbs, ((n : Int) * (a : Int) - (p : Int) * (q : Int)).natAbs]) (prodN [p, n - p, q, n - q]) e ∧ Below w.heap.size w w' := by
  have HV := Lib.hid hv; obtain ⟨nz, sz, tz, kz, hend, hres⟩ := qres_one (prodN [n, ((n : Int) * (a : Int) - (p : Int) * (q : Int)).natAbs, ((n : Int) * (a : Int) - (p : Int) * (q : Int)).natAbs]) (prodN [p, n - p, q, n - q]); have HEND := Lib.hid hend; have HRES := Lib.hid hres; clear hv hend hres; obtain ⟨o_c, o_r, hbw⟩ := new2 w [.int .i64 (a : Int), .int .i64 (p : Int), .int .i64 (q : Int), .int .i64 (n : Int)] [.bool false, .string ⟨#[]⟩, .string ⟨#[]⟩] 23 27
  go_enter Tryz.func17, Tryz.ntmps17
  go_upto_region 1 with (fail)
  generalize ((w.alloc (.cells #[.int .i64 (a : Int), .int .i64 (p : Int), .int .i64 (q : Int), .int .i64 (n : Int)] 23)).alloc (.cells #[.bool false, .string ⟨#[]⟩, .string ⟨#[]⟩] 27)) = wb at o_c o_r hbw ⊢; obtain ⟨qc_0, qc_1, qc_2, qc_3⟩ := o_c.cells4
  go_wp2_with fail
  clear qc_0 qc_1 qc_2 qc_3; refine (rmv_yes HV.out _).mono ?_; rintro e w1 ⟨rfl, hb1⟩; replace o_c := o_c.below hb1 o_c.lt; replace o_r := o_r.below hb1 o_r.lt; replace hbw := below6 hbw hb1; clear hb1; have y0 : IntKind.i64.wrap ((n : Int) - (p : Int)) = (n : Int) - (p : Int) := IntWalk.i64_in _ (by have := HV.out.all; omega); have y1 : IntKind.i64.wrap ((n : Int) - (q : Int)) = (n : Int) - (q : Int) := IntWalk.i64_in _ (by have := HV.out.all; omega); obtain ⟨qc_0, qc_1, qc_2, qc_3⟩ := o_c.cells4
  go_wp2_with fail
  clear qc_0 qc_1 qc_2 qc_3; refine (fields_ref HV.out _).mono ?_; rintro e w8 ⟨bo, br, rfl, o_o, o_w, -, -, hb8⟩; replace o_c := o_c.below hb8 o_c.lt; replace o_r := o_r.below hb8 o_r.lt; replace hbw := below6 hbw hb8; clear hb8
  go_upto_region 4 with (fail)
  obtain ⟨x1, hx1⟩ : ∃ x : Nat, x = p - a := ⟨_, rfl⟩; obtain ⟨x2, hx2⟩ : ∃ x : Nat, x = q - a := ⟨_, rfl⟩; obtain ⟨x3, hx3⟩ : ∃ x : Nat, x = n + a - p - q := ⟨_, rfl⟩; have v0 : IntKind.u64.wrap (a : Int) = (a : Int) := IntWalk.u64_in _ (by have := HV.out.all; omega); have v1 : IntKind.u64.wrap ((p : Int) - (a : Int)) = (x1 : Int) := by
    have e : (p : Int) - (a : Int) = (x1 : Int) := by have := HV.out.all; omega
    rw [e]; exact IntWalk.u64_in _ (by have := HV.out.all; omega)
  have v2 : IntKind.u64.wrap ((q : Int) - (a : Int)) = (x2 : Int) := by
    have e : (q : Int) - (a : Int) = (x2 : Int) := by have := HV.out.all; omega
    rw [e]; exact IntWalk.u64_in _ (by have := HV.out.all; omega)
  have v3 : IntKind.u64.wrap ((n : Int) - (p : Int) - (q : Int) + (a : Int)) = (x3 : Int) := by
    have e : (n : Int) - (p : Int) - (q : Int) + (a : Int) = (x3 : Int) := by have := HV.out.all; omega
    rw [e]; exact IntWalk.u64_in _ (by have := HV.out.all; omega)
  have v4 : IntKind.u64.wrap (n : Int) = (n : Int) := IntWalk.u64_in _ (by have := HV.out.all; omega); have HB : Hid (a ≤ 4294967296 ∧ x1 ≤ 4294967296 ∧ x2 ≤ 4294967296 ∧ x3 ≤ 4294967296 ∧ n ≤ 4294967296) := by
    have := HV.out.all; exact Lib.hid (by omega)
  have HXD : Hid ((x1 * x2 ≤ a * x3 → a * x3 - x1 * x2 = ((n : Int) * (a : Int) - (p : Int) * (q : Int)).natAbs) ∧ (a * x3 < x1 * x2 → x1 * x2 - a * x3 = ((n : Int) * (a : Int) - (p : Int) * (q : Int)).natAbs)) := by
    have h := xdiff (a : Int) (p : Int) (q : Int) (n : Int); have := HV.out.all; have e3 : (x3 : Int) = (n : Int) - (p : Int) - (q : Int) + (a : Int) := by omega
    have e1 : (x1 : Int) = (p : Int) - (a : Int) := by omega
    have e2 : (x2 : Int) = (q : Int) - (a : Int) := by omega
    rw [← e3, ← e1, ← e2, ← Int.natCast_mul, ← Int.natCast_mul] at h; exact Lib.hid (by constructor <;> intro h9 <;> omega)
  clear hx1 hx2 hx3; obtain ⟨qo_0, qo_1, qo_2, qo_3⟩ := o_o.cells4; refine wp_reg_ra [some 21, some 22, some 23, some 24, some 25, some 26, some 27, some 28, some 29, some 30, some 31, some 32, some 33, some 34, some 35, some 36, some 37, some 38, some 39, some 40, some 41, some 42, some 6, some 7] [isV ?v1_0, isV ?v1_1, isV ?v1_2, isV (.int .u64 (a : Int)), (fun v w' => BigV w' v (a)), isV ?v1_5, isV ?v1_6, isV ?v1_7, isV (.int .u64 (x3 : Int)), (fun v w' => BigV w' v (x3)), (fun v w' => BigV w' v (a * x3)), isV ?v1_11, isV ?v1_12, isV ?v1_13, isV (.int .u64 (x1 : Int)), (fun v w' => BigV w' v (x1)), isV ?v1_16, isV ?v1_17, isV ?v1_18, isV (.int .u64 (x2 : Int)), (fun v w' => BigV w' v (x2)), (fun v w' => BigV w' v (x1 * x2)), (fun v w' => BigV w' v (a * x3)), (fun v w' => BigV w' v (x1 * x2))] rfl (by kernel_rfl) rfl rfl ?k1 ⟨?s1_0, ?s1_1, ?s1_2, ?s1_3, ?s1_4, ?s1_5, ?s1_6, ?s1_7, ?s1_8, ?s1_9, ?s1_10, ?s1_11, ?s1_12, ?s1_13, ?s1_14, ?s1_15, ?s1_16, ?s1_17, ?s1_18, ?s1_19, ?s1_20, ?s1_21, ?s1_22, ?s1_23, trivial⟩ ?p1
  case s1_0 =>
    intro t9 w9 hT9 hV9 hO9 K9 hK9; have o9_4 := hO9 4 _ (show List.contains _ _ = false from by kernel_rfl) rfl; clear hV9 hO9; go_simp
    (refine hK9 _ _ (Grow.refl _) ?_; exact rfl)
  case s1_1 =>
    intro t9 w9 hT9 hV9 hO9 K9 hK9; obtain ⟨x9_0, p9_0, q9_0⟩ := hV9.g 0 21 rfl rfl (by kernel_rfl); obtain rfl : x9_0 = ?v1_0 := q9_0; clear hV9 hO9; go_simp
    (refine hK9 _ _ (Grow.refl _) ?_; exact rfl)
  case s1_2 =>
    intro t9 w9 hT9 hV9 hO9 K9 hK9; obtain ⟨x9_1, p9_1, q9_1⟩ := hV9.g 1 22 rfl rfl (by kernel_rfl); obtain rfl : x9_1 = ?v1_1 := q9_1; clear hV9 hO9; have d9_0 := grow_cell hT9 qo_0; have d9_1 := grow_cell hT9 qo_1; have d9_2 := grow_cell hT9 qo_2; have d9_3 := grow_cell hT9 qo_3; go_simp
    (refine hK9 _ _ (Grow.refl _) ?_; exact rfl)
  case s1_3 =>
    intro t9 w9 hT9 hV9 hO9 K9 hK9; obtain ⟨x9_2, p9_2, q9_2⟩ := hV9.g 2 23 rfl rfl (by kernel_rfl); obtain rfl : x9_2 = ?v1_2 := q9_2; clear hV9 hO9; go_simp
    (refine hK9 _ _ (Grow.refl _) ?_; exact rfl)
  case s1_4 =>
    intro t9 w9 hT9 hV9 hO9 K9 hK9; obtain ⟨x9_3, p9_3, q9_3⟩ := hV9.g 3 24 rfl rfl (by kernel_rfl); obtain rfl : x9_3 = (.int .u64 (a : Int)) := q9_3; clear hV9 hO9; go_simp; refine (of64_ref a (by have := HB.out; omega) _).mono ?_; rintro e w8 ⟨v8, rfl, h8, hb8⟩; exact hK9 _ _ hb8 h8
  case s1_5 =>
    intro t9 w9 hT9 hV9 hO9 K9 hK9; have o9_4 := hO9 4 _ (show List.contains _ _ = false from by kernel_rfl) rfl; clear hV9 hO9; go_simp
    (refine hK9 _ _ (Grow.refl _) ?_; exact rfl)
  case s1_6 =>
    intro t9 w9 hT9 hV9 hO9 K9 hK9; obtain ⟨x9_5, p9_5, q9_5⟩ := hV9.g 5 26 rfl rfl (by kernel_rfl); obtain rfl : x9_5 = ?v1_5 := q9_5; clear hV9 hO9; go_simp
    (refine hK9 _ _ (Grow.refl _) ?_; exact rfl)
  case s1_7 =>
    intro t9 w9 hT9 hV9 hO9 K9 hK9; obtain ⟨x9_6, p9_6, q9_6⟩ := hV9.g 6 27 rfl rfl (by kernel_rfl); obtain rfl : x9_6 = ?v1_6 := q9_6; clear hV9 hO9; have d9_0 := grow_cell hT9 qo_0; have d9_1 := grow_cell hT9 qo_1; have d9_2 := grow_cell hT9 qo_2; have d9_3 := grow_cell hT9 qo_3; go_simp
    (refine hK9 _ _ (Grow.refl _) ?_; exact rfl)
  case s1_8 =>
    intro t9 w9 hT9 hV9 hO9 K9 hK9; obtain ⟨x9_7, p9_7, q9_7⟩ := hV9.g 7 28 rfl rfl (by kernel_rfl); obtain rfl : x9_7 = ?v1_7 := q9_7; clear hV9 hO9; go_simp
    (refine hK9 _ _ (Grow.refl _) ?_; exact rfl)
  case s1_9 =>
    intro t9 w9 hT9 hV9 hO9 K9 hK9; obtain ⟨x9_8, p9_8, q9_8⟩ := hV9.g 8 29 rfl rfl (by kernel_rfl); obtain rfl : x9_8 = (.int .u64 (x3 : Int)) := q9_8; clear hV9 hO9; go_simp; refine (of64_ref x3 (by have := HB.out; omega) _).mono ?_; rintro e w8 ⟨v8, rfl, h8, hb8⟩; exact hK9 _ _ hb8 h8
  case s1_10 =>
    intro t9 w9 hT9 hV9 hO9 K9 hK9; obtain ⟨x9_4, p9_4, q9_4⟩ := hV9.g 4 25 rfl rfl (by kernel_rfl); replace q9_4 : ((fun v w' => BigV w' v (a))) x9_4 _ := q9_4; obtain ⟨x9_9, p9_9, q9_9⟩ := hV9.g 9 30 rfl rfl (by kernel_rfl); replace q9_9 : ((fun v w' => BigV w' v (x3))) x9_9 _ := q9_9; clear hV9 hO9; have HQ1 := Lib.hid q9_4; have HQ2 := Lib.hid q9_9; clear q9_4 q9_9; go_simp; refine (times_ref _ HQ1.out HQ2.out (dk_small (by have := HB.out; omega)) (dk_small (by have := HB.out; omega))).mono ?_; rintro e w8 ⟨v8, rfl, h8, hb8⟩; exact hK9 _ _ hb8 h8
  case s1_11 =>
    intro t9 w9 hT9 hV9 hO9 K9 hK9; have o9_4 := hO9 4 _ (show List.contains _ _ = false from by kernel_rfl) rfl; clear hV9 hO9; go_simp
    (refine hK9 _ _ (Grow.refl _) ?_; exact rfl)
  case s1_12 =>
    intro t9 w9 hT9 hV9 hO9 K9 hK9; obtain ⟨x9_11, p9_11, q9_11⟩ := hV9.g 11 32 rfl rfl (by kernel_rfl); obtain rfl : x9_11 = ?v1_11 := q9_11; clear hV9 hO9; go_simp
    (refine hK9 _ _ (Grow.refl _) ?_; exact rfl)
  case s1_13 =>
    intro t9 w9 hT9 hV9 hO9 K9 hK9; obtain ⟨x9_12, p9_12, q9_12⟩ := hV9.g 12 33 rfl rfl (by kernel_rfl); obtain rfl : x9_12 = ?v1_12 := q9_12; clear hV9 hO9; have d9_0 := grow_cell hT9 qo_0; have d9_1 := grow_cell hT9 qo_1; have d9_2 := grow_cell hT9 qo_2; have d9_3 := grow_cell hT9 qo_3; go_simp
    (refine hK9 _ _ (Grow.refl _) ?_; exact rfl)
  case s1_14 =>
    intro t9 w9 hT9 hV9 hO9 K9 hK9; obtain ⟨x9_13, p9_13, q9_13⟩ := hV9.g 13 34 rfl rfl (by kernel_rfl); obtain rfl : x9_13 = ?v1_13 := q9_13; clear hV9 hO9; go_simp
    (refine hK9 _ _ (Grow.refl _) ?_; exact rfl)
  case s1_15 =>
    intro t9 w9 hT9 hV9 hO9 K9 hK9; obtain ⟨x9_14, p9_14, q9_14⟩ := hV9.g 14 35 rfl rfl (by kernel_rfl); obtain rfl : x9_14 = (.int .u64 (x1 : Int)) := q9_14; clear hV9 hO9; go_simp; refine (of64_ref x1 (by have := HB.out; omega) _).mono ?_; rintro e w8 ⟨v8, rfl, h8, hb8⟩; exact hK9 _ _ hb8 h8
  case s1_16 =>
    intro t9 w9 hT9 hV9 hO9 K9 hK9; have o9_4 := hO9 4 _ (show List.contains _ _ = false from by kernel_rfl) rfl; clear hV9 hO9; go_simp
    (refine hK9 _ _ (Grow.refl _) ?_; exact rfl)
  case s1_17 =>
    intro t9 w9 hT9 hV9 hO9 K9 hK9; obtain ⟨x9_16, p9_16, q9_16⟩ := hV9.g 16 37 rfl rfl (by kernel_rfl); obtain rfl : x9_16 = ?v1_16 := q9_16; clear hV9 hO9; go_simp
    (refine hK9 _ _ (Grow.refl _) ?_; exact rfl)
  case s1_18 =>
    intro t9 w9 hT9 hV9 hO9 K9 hK9; obtain ⟨x9_17, p9_17, q9_17⟩ := hV9.g 17 38 rfl rfl (by kernel_rfl); obtain rfl : x9_17 = ?v1_17 := q9_17; clear hV9 hO9; have d9_0 := grow_cell hT9 qo_0; have d9_1 := grow_cell hT9 qo_1; have d9_2 := grow_cell hT9 qo_2; have d9_3 := grow_cell hT9 qo_3; go_simp
    (refine hK9 _ _ (Grow.refl _) ?_; exact rfl)
  case s1_19 =>
    intro t9 w9 hT9 hV9 hO9 K9 hK9; obtain ⟨x9_18, p9_18, q9_18⟩ := hV9.g 18 39 rfl rfl (by kernel_rfl); obtain rfl : x9_18 = ?v1_18 := q9_18; clear hV9 hO9; go_simp
    (refine hK9 _ _ (Grow.refl _) ?_; exact rfl)
  case s1_20 =>
    intro t9 w9 hT9 hV9 hO9 K9 hK9; obtain ⟨x9_19, p9_19, q9_19⟩ := hV9.g 19 40 rfl rfl (by kernel_rfl); obtain rfl : x9_19 = (.int .u64 (x2 : Int)) := q9_19; clear hV9 hO9; go_simp; refine (of64_ref x2 (by have := HB.out; omega) _).mono ?_; rintro e w8 ⟨v8, rfl, h8, hb8⟩; exact hK9 _ _ hb8 h8
  case s1_21 =>
    intro t9 w9 hT9 hV9 hO9 K9 hK9; obtain ⟨x9_15, p9_15, q9_15⟩ := hV9.g 15 36 rfl rfl (by kernel_rfl); replace q9_15 : ((fun v w' => BigV w' v (x1))) x9_15 _ := q9_15; obtain ⟨x9_20, p9_20, q9_20⟩ := hV9.g 20 41 rfl rfl (by kernel_rfl); replace q9_20 : ((fun v w' => BigV w' v (x2))) x9_20 _ := q9_20; clear hV9 hO9; have HQ1 := Lib.hid q9_15; have HQ2 := Lib.hid q9_20; clear q9_15 q9_20; go_simp; refine (times_ref _ HQ1.out HQ2.out (dk_small (by have := HB.out; omega)) (dk_small (by have := HB.out; omega))).mono ?_; rintro e w8 ⟨v8, rfl, h8, hb8⟩; exact hK9 _ _ hb8 h8
  case s1_22 =>
    intro t9 w9 hT9 hV9 hO9 K9 hK9; obtain ⟨x9_10, p9_10, q9_10⟩ := hV9.g 10 31 rfl rfl (by kernel_rfl); replace q9_10 : ((fun v w' => BigV w' v (a * x3))) x9_10 _ := q9_10; clear hV9 hO9; go_simp; exact hK9 _ _ (Grow.refl w9) q9_10
  case s1_23 =>
    intro t9 w9 hT9 hV9 hO9 K9 hK9; obtain ⟨x9_21, p9_21, q9_21⟩ := hV9.g 21 42 rfl rfl (by kernel_rfl); replace q9_21 : ((fun v w' => BigV w' v (x1 * x2))) x9_21 _ := q9_21; clear hV9 hO9; go_simp; exact hK9 _ _ (Grow.refl w9) q9_21
  case k1 =>
    intro i9 v9 w9 x9 h9 g9
    match i9, h9 with
    | 0, h9 => exact h9
    | 1, h9 => exact h9
    | 2, h9 => exact h9
    | 3, h9 => exact h9
    | 4, h9 => (replace h9 : (fun v w' => BigV w' v (a)) v9 w9 := h9); exact BigV.below h9 g9
    | 5, h9 => exact h9
    | 6, h9 => exact h9
    | 7, h9 => exact h9
    | 8, h9 => exact h9
    | 9, h9 => (replace h9 : (fun v w' => BigV w' v (x3)) v9 w9 := h9); exact BigV.below h9 g9
    | 10, h9 => (replace h9 : (fun v w' => BigV w' v (a * x3)) v9 w9 := h9); exact BigV.below h9 g9
    | 11, h9 => exact h9
    | 12, h9 => exact h9
    | 13, h9 => exact h9
    | 14, h9 => exact h9
    | 15, h9 => (replace h9 : (fun v w' => BigV w' v (x1)) v9 w9 := h9); exact BigV.below h9 g9
    | 16, h9 => exact h9
    | 17, h9 => exact h9
    | 18, h9 => exact h9
    | 19, h9 => exact h9
    | 20, h9 => (replace h9 : (fun v w' => BigV w' v (x2)) v9 w9 := h9); exact BigV.below h9 g9
    | 21, h9 => (replace h9 : (fun v w' => BigV w' v (x1 * x2)) v9 w9 := h9); exact BigV.below h9 g9
    | 22, h9 => (replace h9 : (fun v w' => BigV w' v (a * x3)) v9 w9 := h9); exact BigV.below h9 g9
    | 23, h9 => (replace h9 : (fun v w' => BigV w' v (x1 * x2)) v9 w9 := h9); exact BigV.below h9 g9
    | _ + 24, h9 => exact trivial
  intro u9 w9 hE9 hu9; have r9_0 : u9 0 = ?v1_0 := hu9 0 (by decide); have r9_1 : u9 1 = ?v1_1 := hu9 1 (by decide); have r9_2 : u9 2 = ?v1_2 := hu9 2 (by decide); have r9_3 : u9 3 = (.int .u64 (a : Int)) := hu9 3 (by decide); have r9_4 : (fun v w' => BigV w' v (a)) (u9 4) w9 := hu9 4 (by decide); have r9_5 : u9 5 = ?v1_5 := hu9 5 (by decide); have r9_6 : u9 6 = ?v1_6 := hu9 6 (by decide); have r9_7 : u9 7 = ?v1_7 := hu9 7 (by decide); have r9_8 : u9 8 = (.int .u64 (x3 : Int)) := hu9 8 (by decide); have r9_9 : (fun v w' => BigV w' v (x3)) (u9 9) w9 := hu9 9 (by decide); have r9_10 : (fun v w' => BigV w' v (a * x3)) (u9 10) w9 := hu9 10 (by decide); have r9_11 : u9 11 = ?v1_11 := hu9 11 (by decide); have r9_12 : u9 12 = ?v1_12 := hu9 12 (by decide); have r9_13 : u9 13 = ?v1_13 := hu9 13 (by decide); have r9_14 : u9 14 = (.int .u64 (x1 : Int)) := hu9 14 (by decide); have r9_15 : (fun v w' => BigV w' v (x1)) (u9 15) w9 := hu9 15 (by decide)
  have r9_16 : u9 16 = ?v1_16 := hu9 16 (by decide); have r9_17 : u9 17 = ?v1_17 := hu9 17 (by decide); have r9_18 : u9 18 = ?v1_18 := hu9 18 (by decide); have r9_19 : u9 19 = (.int .u64 (x2 : Int)) := hu9 19 (by decide); have r9_20 : (fun v w' => BigV w' v (x2)) (u9 20) w9 := hu9 20 (by decide); have r9_21 : (fun v w' => BigV w' v (x1 * x2)) (u9 21) w9 := hu9 21 (by decide); have r9_22 : (fun v w' => BigV w' v (a * x3)) (u9 22) w9 := hu9 22 (by decide); have r9_23 : (fun v w' => BigV w' v (x1 * x2)) (u9 23) w9 := hu9 23 (by decide); clear hu9
  simp only [putAll, Act.put, List.setIfInBounds_toArray, List.set_cons_succ, List.set_cons_zero, List.getD_cons_succ, List.getD_cons_zero, Nat.reduceAdd, Nat.zero_add]
  simp only [r9_0, r9_1, r9_2, r9_3, r9_5, r9_6, r9_7, r9_8, r9_11, r9_12, r9_13, r9_14, r9_16, r9_17, r9_18, r9_19]
  clear r9_0 r9_1 r9_2 r9_3 r9_5 r9_6 r9_7 r9_8 r9_11 r9_12 r9_13 r9_14 r9_16 r9_17 r9_18 r9_19; obtain ⟨X, hX⟩ : ∃ v, u9 22 = v := ⟨_, rfl⟩; obtain ⟨Y, hY⟩ : ∃ v, u9 23 = v := ⟨_, rfl⟩; rw [hX] at r9_22 ⊢; rw [hY] at r9_23 ⊢; have bX : BigV w9 X (a * x3) := r9_22; have bY : BigV w9 Y (x1 * x2) := r9_23; clear hX hY r9_22 r9_23 r9_4 r9_9 r9_10 r9_15 r9_20 r9_21 v0 v1 v2 v3 qo_0 qo_1 qo_2 qo_3; replace o_c := o_c.below hE9 o_c.lt; replace o_r := o_r.below hE9 o_r.lt; replace hbw := below6 hbw hE9; clear hE9 o_o o_w; obtain ⟨wq2, hwq2⟩ : ∃ x : World, x = w9 := ⟨_, rfl⟩; rw [← hwq2] at o_c o_r bX bY hbw ⊢; clear hwq2 w9; obtain ⟨D, hD⟩ : ∃ x : Nat, x = ((n : Int) * (a : Int) - (p : Int) * (q : Int)).natAbs := ⟨_, rfl⟩; rw [← hD] at HXD; have HDD := Lib.hid hD; clear hD; have HUV : Hid ((dk (a * x3)).length ≤ 20000 ∧ (dk (x1 * x2)).length ≤ 20000) := ⟨dk_prod (by have := HB.out; omega) (by have := HB.out; omega), dk_prod (by have := HB.out; omega) (by have := HB.out; omega)⟩
  generalize a * x3 = U at *; generalize x1 * x2 = V at *; have HDL : Hid (D ≤ 100000000000000000000) := by
    have h := HDD.out; have b1 := mul_two62 (x := (n : Int)) (y := (a : Int)) (by omega) (by have := HV.out.n2; omega) (by omega) (by have := HV.out.all; omega); have b2 := mul_two62 (x := (p : Int)) (y := (q : Int)) (by omega) (by have := HV.out.all; omega) (by omega) (by have := HV.out.all; omega); exact Lib.hid (by omega)
  by_cases hge : V ≤ U
  · skip
    have hge' := Lib.hid hge; have t5 : decide (cmpI U V < 0) = false := decide_eq_false (by have := cmpI_nonneg hge'.out; omega); clear hge
    go_wp2_with fail
    refine (minus_ref _ bX bY (by have := HUV.out; omega) hge'.out).mono ?_; rintro e w3 ⟨vd, rfl, hd, hb3⟩; replace o_c := o_c.below hb3 o_c.lt; replace o_r := o_r.below hb3 o_r.lt; replace bX := bX.below hb3; replace bY := bY.below hb3; replace hbw := below6 hbw hb3; clear hb3
    go_wp2_with fail
    refine (less_ref _ bX bY).mono ?_; rintro e w4 ⟨rfl, hb4⟩; replace o_c := o_c.below hb4 o_c.lt; replace o_r := o_r.below hb4 o_r.lt; replace hd := hd.below hb4; replace hbw := below6 hbw hb4; clear hb4; rw [HXD.out.1 hge'.out] at hd; clear bX bY
    go_wp2_with fail
    refine (of64_one _).mono ?_; rintro e w5 ⟨vq, rfl, hq, hb5⟩; replace o_c := o_c.below hb5 o_c.lt; replace o_r := o_r.below hb5 o_r.lt; replace hd := hd.below hb5; replace hbw := below6 hbw hb5; clear hb5; have E1 : Hid ([(p : Int), (n : Int) - (p : Int), (q : Int), (n : Int) - (q : Int)] = [p, n - p, q, n - q].map fun (x : Nat) => (x : Int)) := by
      have := HV.out.all; exact Lib.hid (by simp <;> omega)
    have M1 : Hid (Smalls [p, n - p, q, n - q]) := by
      have := HV.out.all; exact Lib.hid ⟨by simp, by simp <;> omega⟩
    obtain ⟨qc_0, qc_1, qc_2, qc_3⟩ := o_c.cells4
    go_upto_region 10 with (fail)
    clear qc_0 qc_1 qc_2 qc_3; obtain ⟨o_s, hz9⟩ := new1 w5 [.int .i64 ((p : Int)), .int .i64 ((n : Int) - (p : Int)), .int .i64 ((q : Int)), .int .i64 ((n : Int) - (q : Int))] 3; replace o_c := o_c.alloc (.cells #[.int .i64 ((p : Int)), .int .i64 ((n : Int) - (p : Int)), .int .i64 ((q : Int)), .int .i64 ((n : Int) - (q : Int))] 3); replace o_r := o_r.alloc (.cells #[.int .i64 ((p : Int)), .int .i64 ((n : Int) - (p : Int)), .int .i64 ((q : Int)), .int .i64 ((n : Int) - (q : Int))] 3); replace hd := hd.below hz9; replace hq := hq.below hz9; replace hbw := below6 hbw hz9; clear hz9; generalize (w5.alloc (.cells #[.int .i64 ((p : Int)), .int .i64 ((n : Int) - (p : Int)), .int .i64 ((q : Int)), .int .i64 ((n : Int) - (q : Int))] 3)) = wl at o_s o_c o_r hd hq hbw ⊢; generalize w5.heap.size = gl at o_s ⊢; have A1 : Hid (Ints wl (some ⟨gl, 0, none⟩) [(p : Int), (n : Int) - (p : Int), (q : Int), (n : Int) - (q : Int)]) := Lib.hid o_s.rd0
    clear o_s; generalize (some ⟨gl, 0, none⟩ : Option Addr) = BA at A1 ⊢; obtain ⟨ml, hml⟩ : ∃ ml : List Nat, ml = [p, n - p, q, n - q] := ⟨_, rfl⟩; obtain ⟨ll, hll⟩ : ∃ ll : List Int, ll = [(p : Int), (n : Int) - (p : Int), (q : Int), (n : Int) - (q : Int)] := ⟨_, rfl⟩; rw [← hml, ← hll] at E1; rw [← hml] at M1; rw [← hll] at A1; have hN1 : ml.length = 4 := by rw [hml]; rfl
    have hN2 : ll.length = 4 := by rw [hll]; rfl
    have HN := Lib.hid (And.intro hN1 hN2); have HML := Lib.hid hml; clear hml hll hN1 hN2; have hbl := Below.refl wl.heap.size wl
    go_loopg [9, 70] 4 (fun qn vv vi wr => ∃ j : Nat, qn = 4 - j ∧ j ≤ 4 ∧ vi = .int .i64 (j : Int) ∧ BigV wr vv (prodN (ml.take j)) ∧ BigV wr vd D ∧ Own wr (w.heap.size) 23 [.int .i64 (a : Int), .int .i64 (p : Int), .int .i64 (q : Int), .int .i64 (n : Int)] ∧ Own wr (w.heap.size + 1) 27 [.bool false, .string ⟨#[]⟩, .string ⟨#[]⟩] ∧ Below wl.heap.size wl wr ∧ Below w.heap.size w wr)
    case atStart => exact ⟨0, rfl, by decide, rfl, hq, hd, o_c, o_r, hbl, hbw⟩
    case round =>
      clear hq hd o_c o_r hbl hbw; obtain ⟨j, hqn, hj, rfl, hq, hd, o_c, o_r, hbl, hbw⟩ := hrel; have HQ := Lib.hid hqn; clear hqn
      by_cases hlt : j < 4
      · have hjm : j < ml.length := by have := HN.out; omega
        have hjl : j < ll.length := by have := HN.out; omega
        obtain ⟨b, off, hAe, hcell⟩ := (Ints.below A1.out hbl).get hjl; have hx : ll[j] = ((ml[j] : Nat) : Int) := by
          have := E1.out; subst this
          simp
        rw [hx] at hcell; have HX : Hid (ml[j] ≤ 4611686018427387904) := M1.out.2 _ (List.getElem_mem hjm); have HPT : Hid (prodN (ml.take (j + 1)) = prodN (ml.take j) * ml[j]) := prodN_take hjm; have HO1 := Lib.hid (M1.out.okn j).dk; have HO2 : Hid ((dk ml[j]).length ≤ 20000) := by
          have : (dec ml[j]).length ≤ 20 := dec_len_le (by decide) (by have := HX.out; omega); exact Lib.hid (OkN.dk (by unfold OkN; omega))
        clear hx; generalize ml[j] = x at *; subst hAe; have hu : IntKind.u64.wrap (x : Int) = (x : Int) := IntWalk.u64_in _ (by have := HX.out; omega)
        go_wp2_with fail
        refine (of64_ref x (by have := HX.out; omega) _).mono ?_; rintro e w1 ⟨vx, rfl, hvx, hb1⟩; replace hq := hq.below hb1; replace hd := hd.below hb1; replace o_c := o_c.below hb1 o_c.lt; replace o_r := o_r.below hb1 o_r.lt; replace hbl := below6 hbl hb1; replace hbw := below6 hbw hb1; clear hb1 hcell hu
        go_wp2_with fail
        refine (times_ref _ hq hvx (by have := HO1.out; omega) (by have := HO2.out; omega)).mono ?_; rintro e w2 ⟨vy, rfl, hvy, hb2⟩; rw [← HPT.out] at hvy; replace hd := hd.below hb2; replace o_c := o_c.below hb2 o_c.lt; replace o_r := o_r.below hb2 o_r.lt; replace hbl := below6 hbl hb2; replace hbw := below6 hbw hb2; clear hb2 hq hvx; have HVY := Lib.hid hvy; clear hvy
        go_wp2_with fail
        go_roundg (4 - (j + 1))
        case measure => have := HQ.out; omega
        case rel => exact ⟨j + 1, rfl, by omega, by go_num, HVY.out, hd, o_c, o_r, hbl, hbw⟩
      · obtain rfl : j = 4 := by omega
        have hkk : ml.take 4 = ml := List.take_of_length_le (by have := HN.out; omega); rw [hkk] at hq; have HB2 : Hid ((dk (prodN ml)).length ≤ 20000) := by
          have := M1.out.all; exact Lib.hid (OkN.dk (by unfold OkN; omega))
        clear hkk
        go_upto_region 14 with (fail)
        obtain ⟨Q, hQ⟩ : ∃ Q, prodN ml = Q := ⟨_, rfl⟩; rw [hQ] at hq HB2; have HQ9 : Hid (prodN [p, n - p, q, n - q] = Q) := by
          rw [← HML.out]; exact Lib.hid hQ
        clear hQ; obtain ⟨wf, hwf⟩ : ∃ x : World, x = wr := ⟨_, rfl⟩; rw [← hwf] at hq hd o_c o_r hbw ⊢; clear hwf hbl
        rcases Nat.eq_zero_or_pos Q with h0 | h0
        · subst h0; obtain ⟨A7, c7, rfl, -⟩ := hq; have hz : (dk 0).length = 0 := rfl; rw [hz]; clear hz hd; obtain ⟨qr_0, qr_1, qr_2⟩ := o_r.cells3; obtain ⟨fr_0, fr_1, fr_2⟩ := o_r.frozens3; have oz := o_r.set3 (.bool false) (.string ⟨#[]⟩) (.string ⟨#[]⟩); have sz9 := Below.set3 hbw (g := w.heap.size + 1) (by omega) (.bool false) (.string ⟨#[]⟩) (.string ⟨#[]⟩)
          go_wp2_with fail
          generalize (((wf.setCell ⟨w.heap.size + 1, 0, none⟩ (.bool false)).setCell ⟨w.heap.size + 1, 1, none⟩ (.string ⟨#[]⟩)).setCell ⟨w.heap.size + 1, 2, none⟩ (.string ⟨#[]⟩)) = wz at oz sz9 ⊢; obtain ⟨z0, z1, z2⟩ := oz.cells3; exact bodyPost_ret (v := .tuple #[.agg #[.bool false, .string ⟨#[]⟩, .string ⟨#[]⟩], .int .i64 25]) (by simp [results, Tryz.results17, go_sem, z0, z1, z2]) rfl ⟨.inl ⟨HQ9.out, rfl⟩, sz9⟩
        · have H0 := Lib.hid h0; have HVQ := Lib.hid hq; have HVD := Lib.hid hd; have hl : 0 < (dk Q).length := by
            rcases Nat.eq_zero_or_pos (dk Q).length with h | h
            · have := dk_zero_of (List.eq_nil_of_length_eq_zero h)
              omega
            · exact h
          clear h0; obtain ⟨A7, c7, rfl, -⟩ := hq; have t1 : ((((dk Q).length : Nat) : Int) == 0) = false := beq_eq_false_iff_ne.2 (by omega); have t2 : decide ((((dk Q).length : Nat) : Int) = 0) = false := decide_eq_false (by omega); have t3 : ((dk Q).length == 0) = false := beq_eq_false_iff_ne.2 (by omega); have t4 : decide ((dk Q).length = 0) = false := decide_eq_false (by omega); clear hl; obtain ⟨A8, c8, rfl, -⟩ := hd
          go_upto_region 16 with (fail)
          clear t1 t2 t3 t4; have HEQ : Hid (D * D * n = prodN [n, ((n : Int) * (a : Int) - (p : Int) * (q : Int)).natAbs, ((n : Int) * (a : Int) - (p : Int) * (q : Int)).natAbs]) := by
            rw [← HDD.out]
            simp only [prodN, Nat.mul_one]
            exact Lib.hid (by rw [Nat.mul_comm])
          have HD1 : Hid ((dk D).length ≤ 20000 ∧ (dk (D * D)).length ≤ 20000 ∧ (dk (D * D * n)).length ≤ 20000 ∧ (dk n).length ≤ 20000) := dk_three HDL.out (by have := HB.out; omega); obtain ⟨qc_0, qc_1, qc_2, qc_3⟩ := o_c.cells4; obtain ⟨qr_0, qr_1, qr_2⟩ := o_r.cells3; obtain ⟨fr_0, fr_1, fr_2⟩ := o_r.frozens3; refine wp_reg_st [some 84, some 85, some 86, some 87, some 88, some 89, some 90, some 91, some 92, some 93, some 94, some 95, none, some 3] [isV ?v2_0, isV ?v2_1, (fun v w' => BigV w' v (D * D)), isV ?v2_3, isV ?v2_4, isV (.int .u64 (n : Int)), (fun v w' => BigV w' v (n)), (fun v w' => BigV w' v (D * D * n)), isV ?v2_8, isV (.tuple #[.agg #[.bool nz, .string sz, .string tz], .int .i64 kz]), isV ?v2_10, isV ?v2_11, fun _ _ => False, fun _ _ => False] [anyV, anyV, anyV, anyV, anyV, anyV, anyV, anyV, anyV, anyV, anyV, anyV, anyV, isV ?w2_13] 12 [0, 1, 2, 3, 4, 5, 6, 7, 8, 9, 10, 11] (fun _ => fun w' => Below w.heap.size w w' ∧ Own w' (w.heap.size + 1) 27 [.bool nz, .string sz, .string tz]) rfl (by kernel_rfl) rfl rfl (by decide) (by kernel_rfl) (by kernel_rfl) (fun _ _ _ _ h => h) ?k2 ?m2 ⟨?s2_0, ?s2_1, ?s2_2, ?s2_3, ?s2_4, ?s2_5, ?s2_6, ?s2_7, ?s2_8, ?s2_9, ?s2_10, ?s2_11, ?s2_12, ?s2_13, trivial⟩ ?p2
          case s2_0 =>
            rw [if_neg (by decide)]
            constructor
            · rw [if_neg (by decide)]; intro t9 w9 hT9 hV9 hO9 K9 hK9; have o9_8 := hO9 8 _ (.inl (show List.contains _ _ = false from by kernel_rfl)) rfl; clear hV9 hO9; go_simp
              (refine hK9 _ _ (Grow.refl _) ?_; exact rfl)
            · rw [if_pos (by decide)]; trivial
          case s2_1 =>
            rw [if_neg (by decide)]
            constructor
            · rw [if_neg (by decide)]; intro t9 w9 hT9 hV9 hO9 K9 hK9; have o9_8 := hO9 8 _ (.inl (show List.contains _ _ = false from by kernel_rfl)) rfl; clear hV9 hO9; go_simp
              (refine hK9 _ _ (Grow.refl _) ?_; exact rfl)
            · rw [if_pos (by decide)]; trivial
          case s2_2 =>
            rw [if_neg (by decide)]
            constructor
            · rw [if_neg (by decide)]; intro t9 w9 hT9 hV9 hO9 K9 hK9; obtain ⟨x9_0, p9_0, q9_0⟩ := hV9.g 0 84 rfl rfl (by kernel_rfl); obtain rfl : x9_0 = ?v2_0 := q9_0; obtain ⟨x9_1, p9_1, q9_1⟩ := hV9.g 1 85 rfl rfl (by kernel_rfl); obtain rfl : x9_1 = ?v2_1 := q9_1; clear hV9 hO9; go_simp; refine (times_ref _ (HVD.out.below hT9.below) (HVD.out.below hT9.below) (by have := HD1.out; omega) (by have := HD1.out; omega)).mono ?_; rintro e w8 ⟨v8, rfl, h8, hb8⟩; exact hK9 _ _ hb8 h8
            · rw [if_pos (by decide)]; trivial
          case s2_3 =>
            rw [if_neg (by decide)]
            constructor
            · rw [if_neg (by decide)]; intro t9 w9 hT9 hV9 hO9 K9 hK9; have o9_1 := hO9 1 _ (.inl (show List.contains _ _ = false from by kernel_rfl)) rfl; clear hV9 hO9; go_simp
              (refine hK9 _ _ (Grow.refl _) ?_; exact rfl)
            · rw [if_pos (by decide)]; trivial
          case s2_4 =>
            rw [if_neg (by decide)]
            constructor
            · rw [if_neg (by decide)]; intro t9 w9 hT9 hV9 hO9 K9 hK9; obtain ⟨x9_3, p9_3, q9_3⟩ := hV9.g 3 87 rfl rfl (by kernel_rfl); obtain rfl : x9_3 = ?v2_3 := q9_3; clear hV9 hO9; have d9_0 := grow_cell hT9 qc_0; have d9_1 := grow_cell hT9 qc_1; have d9_2 := grow_cell hT9 qc_2; have d9_3 := grow_cell hT9 qc_3; go_simp
              (refine hK9 _ _ (Grow.refl _) ?_; exact rfl)
            · rw [if_pos (by decide)]; trivial
          case s2_5 =>
            rw [if_neg (by decide)]
            constructor
            · rw [if_neg (by decide)]; intro t9 w9 hT9 hV9 hO9 K9 hK9; obtain ⟨x9_4, p9_4, q9_4⟩ := hV9.g 4 88 rfl rfl (by kernel_rfl); obtain rfl : x9_4 = ?v2_4 := q9_4; clear hV9 hO9; go_simp
              (refine hK9 _ _ (Grow.refl _) ?_; exact rfl)
            · rw [if_pos (by decide)]; trivial
          case s2_6 =>
            rw [if_neg (by decide)]
            constructor
            · rw [if_neg (by decide)]; intro t9 w9 hT9 hV9 hO9 K9 hK9; obtain ⟨x9_5, p9_5, q9_5⟩ := hV9.g 5 89 rfl rfl (by kernel_rfl); obtain rfl : x9_5 = (.int .u64 (n : Int)) := q9_5; clear hV9 hO9; go_simp; refine (of64_ref n (by have := HB.out; omega) _).mono ?_; rintro e w8 ⟨v8, rfl, h8, hb8⟩; exact hK9 _ _ hb8 h8
            · rw [if_pos (by decide)]; trivial
          case s2_7 =>
            rw [if_neg (by decide)]
            constructor
            · rw [if_neg (by decide)]; intro t9 w9 hT9 hV9 hO9 K9 hK9; obtain ⟨x9_2, p9_2, q9_2⟩ := hV9.g 2 86 rfl rfl (by kernel_rfl); replace q9_2 : ((fun v w' => BigV w' v (D * D))) x9_2 _ := q9_2; obtain ⟨x9_6, p9_6, q9_6⟩ := hV9.g 6 90 rfl rfl (by kernel_rfl); replace q9_6 : ((fun v w' => BigV w' v (n))) x9_6 _ := q9_6; clear hV9 hO9; have HQ1 := Lib.hid q9_2; have HQ2 := Lib.hid q9_6; clear q9_2 q9_6; go_simp; refine (times_ref _ HQ1.out HQ2.out (by have := HD1.out; omega) (by have := HD1.out; omega)).mono ?_; rintro e w8 ⟨v8, rfl, h8, hb8⟩; exact hK9 _ _ hb8 h8
            · rw [if_pos (by decide)]; trivial
          case s2_8 =>
            rw [if_neg (by decide)]
            constructor
            · rw [if_neg (by decide)]; intro t9 w9 hT9 hV9 hO9 K9 hK9; have o9_9 := hO9 9 _ (.inl (show List.contains _ _ = false from by kernel_rfl)) rfl; clear hV9 hO9; go_simp
              (refine hK9 _ _ (Grow.refl _) ?_; exact rfl)
            · rw [if_pos (by decide)]; trivial
          case s2_9 =>
            rw [if_neg (by decide)]
            constructor
            · rw [if_neg (by decide)]; intro t9 w9 hT9 hV9 hO9 K9 hK9; obtain ⟨x9_7, p9_7, q9_7⟩ := hV9.g 7 91 rfl rfl (by kernel_rfl); replace q9_7 : ((fun v w' => BigV w' v (D * D * n))) x9_7 _ := q9_7; obtain ⟨x9_8, p9_8, q9_8⟩ := hV9.g 8 92 rfl rfl (by kernel_rfl); obtain rfl : x9_8 = ?v2_8 := q9_8; clear hV9 hO9; have HQ1 := Lib.hid q9_7; clear q9_7; go_simp; refine (lowest_ref false _ _ _ _ _ HQ1.out (HVQ.out.below hT9.below) (by have := HD1.out; omega) (by have := HB2.out; omega) H0.out).mono ?_; rintro e w8 ⟨hl, hb8⟩; have he := HEND.out _ (.inr ⟨by rw [HQ9.out]; exact H0.out, by rw [← HEQ.out, HQ9.out]; exact hl.toRat H0.out⟩); subst he; exact hK9 _ _ hb8 rfl
            · rw [if_pos (by decide)]; trivial
          case s2_10 =>
            rw [if_neg (by decide)]
            constructor
            · rw [if_neg (by decide)]; intro t9 w9 hT9 hV9 hO9 K9 hK9; obtain ⟨x9_9, p9_9, q9_9⟩ := hV9.g 9 93 rfl rfl (by kernel_rfl); obtain rfl : x9_9 = (.tuple #[.agg #[.bool nz, .string sz, .string tz], .int .i64 kz]) := q9_9; clear hV9 hO9; go_simp
              (refine hK9 _ _ (Grow.refl _) ?_; exact rfl)
            · rw [if_pos (by decide)]; trivial
          case s2_11 =>
            rw [if_neg (by decide)]
            constructor
            · rw [if_neg (by decide)]; intro t9 w9 hT9 hV9 hO9 K9 hK9; obtain ⟨x9_9, p9_9, q9_9⟩ := hV9.g 9 93 rfl rfl (by kernel_rfl); obtain rfl : x9_9 = (.tuple #[.agg #[.bool nz, .string sz, .string tz], .int .i64 kz]) := q9_9; clear hV9 hO9; go_simp
              (refine hK9 _ _ (Grow.refl _) ?_; exact rfl)
            · rw [if_pos (by decide)]; trivial
          case s2_12 =>
            rw [if_pos (by decide)]; intro t9 w9 hT9 hV9 hO9 K9 hK9; obtain ⟨x9_10, p9_10, q9_10⟩ := hV9.g 10 94 (by decide) rfl (by kernel_rfl); obtain rfl : x9_10 = ?v2_10 := q9_10; have o9_2 := hO9 2 _ (.inl (show List.contains _ _ = false from by kernel_rfl)) rfl; clear hV9 hO9; have og := o_r.below hT9.below o_r.lt; obtain ⟨hg0, hg1, hg2⟩ := og.cells3; obtain ⟨hf0, hf1, hf2⟩ := og.frozens3; have HE := Lib.hid (⟨Below.set3 (below6 hbw hT9.below) (g := w.heap.size + 1) (by omega) (.bool nz) (.string sz) (.string tz), og.set3 (.bool nz) (.string sz) (.string tz)⟩ : (fun w' => Below w.heap.size w w' ∧ Own w' (w.heap.size + 1) 27 [.bool nz, .string sz, .string tz]) (((w9.setCell ⟨w.heap.size + 1, 0, none⟩ (.bool nz)).setCell ⟨w.heap.size + 1, 1, none⟩ (.string sz)).setCell ⟨w.heap.size + 1, 2, none⟩ (.string tz))); go_simp; exact hK9 undef _ HE.out trivial
          case s2_13 =>
            rw [if_neg (by decide)]
            constructor
            · rw [if_pos (by rfl)]; trivial
            · rw [if_neg (by decide)]; intro t9 w9 hV9 hO9 K9 hK9; obtain ⟨x9_11, p9_11, q9_11⟩ := hV9.g 11 95 rfl rfl (by kernel_rfl); obtain ⟨_, q9_11⟩ := q9_11.pre (by decide); obtain rfl : x9_11 = ?v2_11 := q9_11; clear hV9 hO9; go_simp
              (refine hK9 _ ?_; exact rfl)
          case k2 =>
            intro i9 v9 w9 x9 h9 g9
            match i9, h9 with
            | 0, h9 => exact h9
            | 1, h9 => exact h9
            | 2, h9 => (replace h9 : (fun v w' => BigV w' v (D * D)) v9 w9 := h9); exact BigV.below h9 g9
            | 3, h9 => exact h9
            | 4, h9 => exact h9
            | 5, h9 => exact h9
            | 6, h9 => (replace h9 : (fun v w' => BigV w' v (n)) v9 w9 := h9); exact BigV.below h9 g9
            | 7, h9 => (replace h9 : (fun v w' => BigV w' v (D * D * n)) v9 w9 := h9); exact BigV.below h9 g9
            | 8, h9 => exact h9
            | 9, h9 => exact h9
            | 10, h9 => exact h9
            | 11, h9 => exact h9
            | 12, h9 => exact h9
            | 13, h9 => exact h9
            | _ + 14, h9 => exact trivial
          case m2 =>
            intro i9 v9 w9 x9 a s h
            match i9, a, s, h with
            | 0, a, _, _ => exact absurd (by decide) a
            | 1, a, _, _ => exact absurd (by decide) a
            | 2, a, _, _ => exact absurd (by decide) a
            | 3, a, _, _ => exact absurd (by decide) a
            | 4, a, _, _ => exact absurd (by decide) a
            | 5, a, _, _ => exact absurd (by decide) a
            | 6, a, _, _ => exact absurd (by decide) a
            | 7, a, _, _ => exact absurd (by decide) a
            | 8, a, _, _ => exact absurd (by decide) a
            | 9, a, _, _ => exact absurd (by decide) a
            | 10, a, _, _ => exact absurd (by decide) a
            | 11, a, _, _ => exact absurd (by decide) a
            | 12, _, s, _ => exact absurd rfl s
            | 13, _, _, h => exact False.elim h
            | _ + 14, _, _, _ => exact trivial
          intro u9 w9 hE9 hu9; obtain ⟨_, r9_0⟩ := (hu9 0 (by decide)).pre (by decide); replace r9_0 : u9 0 = ?v2_0 := r9_0; obtain ⟨_, r9_1⟩ := (hu9 1 (by decide)).pre (by decide); replace r9_1 : u9 1 = ?v2_1 := r9_1; obtain ⟨_, r9_3⟩ := (hu9 3 (by decide)).pre (by decide); replace r9_3 : u9 3 = ?v2_3 := r9_3; obtain ⟨_, r9_4⟩ := (hu9 4 (by decide)).pre (by decide); replace r9_4 : u9 4 = ?v2_4 := r9_4; obtain ⟨_, r9_5⟩ := (hu9 5 (by decide)).pre (by decide); replace r9_5 : u9 5 = (.int .u64 (n : Int)) := r9_5; obtain ⟨_, r9_8⟩ := (hu9 8 (by decide)).pre (by decide); replace r9_8 : u9 8 = ?v2_8 := r9_8; obtain ⟨_, r9_9⟩ := (hu9 9 (by decide)).pre (by decide); replace r9_9 : u9 9 = (.tuple #[.agg #[.bool nz, .string sz, .string tz], .int .i64 kz]) := r9_9; obtain ⟨_, r9_10⟩ := (hu9 10 (by decide)).pre (by decide); replace r9_10 : u9 10 = ?v2_10 := r9_10; obtain ⟨_, r9_11⟩ := (hu9 11 (by decide)).pre (by decide)
          replace r9_11 : u9 11 = ?v2_11 := r9_11; have r9_13 : u9 13 = ?w2_13 := (hu9 13 (by decide)).late (by decide); clear hu9; obtain ⟨sz9, oz⟩ := hE9
          simp only [putAll, Act.put, List.setIfInBounds_toArray, List.set_cons_succ, List.set_cons_zero, List.getD_cons_succ, List.getD_cons_zero, Nat.reduceAdd, Nat.zero_add]
          simp only [r9_0, r9_1, r9_3, r9_4, r9_5, r9_8, r9_9, r9_10, r9_11, r9_13]
          clear r9_0 r9_1 r9_3 r9_4 r9_5 r9_8 r9_9 r9_10 r9_11 r9_13
          go_wp2_with fail
          obtain ⟨z0, z1, z2⟩ := oz.cells3; exact bodyPost_ret (v := .tuple #[.agg #[.bool nz, .string sz, .string tz], .int .i64 kz]) (by simp [results, Tryz.results17, go_sem, z0, z1, z2]) rfl ⟨HRES.out, sz9⟩
  · skip
    have hlt' := Lib.hid (Nat.lt_of_not_le hge); have t5 : decide (cmpI U V < 0) = true := decide_eq_true (by rw [cmpI_lt hlt'.out]; decide); clear hge
    go_wp2_with fail
    refine (minus_any _ bX bY (by have := HUV.out; omega)).mono ?_; rintro e w3 ⟨vd0, rfl, hb3⟩; replace o_c := o_c.below hb3 o_c.lt; replace o_r := o_r.below hb3 o_r.lt; replace bX := bX.below hb3; replace bY := bY.below hb3; replace hbw := below6 hbw hb3; clear hb3
    go_wp2_with fail
    refine (less_ref _ bX bY).mono ?_; rintro e w4 ⟨rfl, hb4⟩; replace o_c := o_c.below hb4 o_c.lt; replace o_r := o_r.below hb4 o_r.lt; replace bX := bX.below hb4; replace bY := bY.below hb4; replace hbw := below6 hbw hb4; clear hb4
    go_wp2_with fail
    refine (minus_ref _ bY bX (by have := HUV.out; omega) (Nat.le_of_lt hlt'.out)).mono ?_; rintro e w5 ⟨vd, rfl, hd, hb5⟩; replace o_c := o_c.below hb5 o_c.lt; replace o_r := o_r.below hb5 o_r.lt; replace hbw := below6 hbw hb5; clear hb5; rw [HXD.out.2 hlt'.out] at hd; clear bX bY
    go_wp2_with fail
    refine (of64_one _).mono ?_; rintro e w6 ⟨vq, rfl, hq, hb6⟩; replace o_c := o_c.below hb6 o_c.lt; replace o_r := o_r.below hb6 o_r.lt; replace hd := hd.below hb6; replace hbw := below6 hbw hb6; clear hb6; have E1 : Hid ([(p : Int), (n : Int) - (p : Int), (q : Int), (n : Int) - (q : Int)] = [p, n - p, q, n - q].map fun (x : Nat) => (x : Int)) := by
      have := HV.out.all; exact Lib.hid (by simp <;> omega)
    have M1 : Hid (Smalls [p, n - p, q, n - q]) := by
      have := HV.out.all; exact Lib.hid ⟨by simp, by simp <;> omega⟩
    obtain ⟨qc_0, qc_1, qc_2, qc_3⟩ := o_c.cells4
    go_upto_region 10 with (fail)
    clear qc_0 qc_1 qc_2 qc_3; obtain ⟨o_s, hz9⟩ := new1 w6 [.int .i64 ((p : Int)), .int .i64 ((n : Int) - (p : Int)), .int .i64 ((q : Int)), .int .i64 ((n : Int) - (q : Int))] 3; replace o_c := o_c.alloc (.cells #[.int .i64 ((p : Int)), .int .i64 ((n : Int) - (p : Int)), .int .i64 ((q : Int)), .int .i64 ((n : Int) - (q : Int))] 3); replace o_r := o_r.alloc (.cells #[.int .i64 ((p : Int)), .int .i64 ((n : Int) - (p : Int)), .int .i64 ((q : Int)), .int .i64 ((n : Int) - (q : Int))] 3); replace hd := hd.below hz9; replace hq := hq.below hz9; replace hbw := below6 hbw hz9; clear hz9; generalize (w6.alloc (.cells #[.int .i64 ((p : Int)), .int .i64 ((n : Int) - (p : Int)), .int .i64 ((q : Int)), .int .i64 ((n : Int) - (q : Int))] 3)) = wl at o_s o_c o_r hd hq hbw ⊢; generalize w6.heap.size = gl at o_s ⊢; have A1 : Hid (Ints wl (some ⟨gl, 0, none⟩) [(p : Int), (n : Int) - (p : Int), (q : Int), (n : Int) - (q : Int)]) := Lib.hid o_s.rd0
    clear o_s; generalize (some ⟨gl, 0, none⟩ : Option Addr) = BA at A1 ⊢; obtain ⟨ml, hml⟩ : ∃ ml : List Nat, ml = [p, n - p, q, n - q] := ⟨_, rfl⟩; obtain ⟨ll, hll⟩ : ∃ ll : List Int, ll = [(p : Int), (n : Int) - (p : Int), (q : Int), (n : Int) - (q : Int)] := ⟨_, rfl⟩; rw [← hml, ← hll] at E1; rw [← hml] at M1; rw [← hll] at A1; have hN1 : ml.length = 4 := by rw [hml]; rfl
    have hN2 : ll.length = 4 := by rw [hll]; rfl
    have HN := Lib.hid (And.intro hN1 hN2); have HML := Lib.hid hml; clear hml hll hN1 hN2; have hbl := Below.refl wl.heap.size wl
    go_loopg [9, 70] 4 (fun qn vv vi wr => ∃ j : Nat, qn = 4 - j ∧ j ≤ 4 ∧ vi = .int .i64 (j : Int) ∧ BigV wr vv (prodN (ml.take j)) ∧ BigV wr vd D ∧ Own wr (w.heap.size) 23 [.int .i64 (a : Int), .int .i64 (p : Int), .int .i64 (q : Int), .int .i64 (n : Int)] ∧ Own wr (w.heap.size + 1) 27 [.bool false, .string ⟨#[]⟩, .string ⟨#[]⟩] ∧ Below wl.heap.size wl wr ∧ Below w.heap.size w wr)
    case atStart => exact ⟨0, rfl, by decide, rfl, hq, hd, o_c, o_r, hbl, hbw⟩
    case round =>
      clear hq hd o_c o_r hbl hbw; obtain ⟨j, hqn, hj, rfl, hq, hd, o_c, o_r, hbl, hbw⟩ := hrel; have HQ := Lib.hid hqn; clear hqn
      by_cases hlt : j < 4
      · have hjm : j < ml.length := by have := HN.out; omega
        have hjl : j < ll.length := by have := HN.out; omega
        obtain ⟨b, off, hAe, hcell⟩ := (Ints.below A1.out hbl).get hjl; have hx : ll[j] = ((ml[j] : Nat) : Int) := by
          have := E1.out; subst this
          simp
        rw [hx] at hcell; have HX : Hid (ml[j] ≤ 4611686018427387904) := M1.out.2 _ (List.getElem_mem hjm); have HPT : Hid (prodN (ml.take (j + 1)) = prodN (ml.take j) * ml[j]) := prodN_take hjm; have HO1 := Lib.hid (M1.out.okn j).dk; have HO2 : Hid ((dk ml[j]).length ≤ 20000) := by
          have : (dec ml[j]).length ≤ 20 := dec_len_le (by decide) (by have := HX.out; omega); exact Lib.hid (OkN.dk (by unfold OkN; omega))
        clear hx; generalize ml[j] = x at *; subst hAe; have hu : IntKind.u64.wrap (x : Int) = (x : Int) := IntWalk.u64_in _ (by have := HX.out; omega)
        go_wp2_with fail
        refine (of64_ref x (by have := HX.out; omega) _).mono ?_; rintro e w1 ⟨vx, rfl, hvx, hb1⟩; replace hq := hq.below hb1; replace hd := hd.below hb1; replace o_c := o_c.below hb1 o_c.lt; replace o_r := o_r.below hb1 o_r.lt; replace hbl := below6 hbl hb1; replace hbw := below6 hbw hb1; clear hb1 hcell hu
        go_wp2_with fail
        refine (times_ref _ hq hvx (by have := HO1.out; omega) (by have := HO2.out; omega)).mono ?_; rintro e w2 ⟨vy, rfl, hvy, hb2⟩; rw [← HPT.out] at hvy; replace hd := hd.below hb2; replace o_c := o_c.below hb2 o_c.lt; replace o_r := o_r.below hb2 o_r.lt; replace hbl := below6 hbl hb2; replace hbw := below6 hbw hb2; clear hb2 hq hvx; have HVY := Lib.hid hvy; clear hvy
        go_wp2_with fail
        go_roundg (4 - (j + 1))
        case measure => have := HQ.out; omega
        case rel => exact ⟨j + 1, rfl, by omega, by go_num, HVY.out, hd, o_c, o_r, hbl, hbw⟩
      · obtain rfl : j = 4 := by omega
        have hkk : ml.take 4 = ml := List.take_of_length_le (by have := HN.out; omega); rw [hkk] at hq; have HB2 : Hid ((dk (prodN ml)).length ≤ 20000) := by
          have := M1.out.all; exact Lib.hid (OkN.dk (by unfold OkN; omega))
        clear hkk
        go_upto_region 14 with (fail)
        obtain ⟨Q, hQ⟩ : ∃ Q, prodN ml = Q := ⟨_, rfl⟩; rw [hQ] at hq HB2; have HQ9 : Hid (prodN [p, n - p, q, n - q] = Q) := by
          rw [← HML.out]; exact Lib.hid hQ
        clear hQ; obtain ⟨wf, hwf⟩ : ∃ x : World, x = wr := ⟨_, rfl⟩; rw [← hwf] at hq hd o_c o_r hbw ⊢; clear hwf hbl
        rcases Nat.eq_zero_or_pos Q with h0 | h0
        · subst h0; obtain ⟨A7, c7, rfl, -⟩ := hq; have hz : (dk 0).length = 0 := rfl; rw [hz]; clear hz hd; obtain ⟨qr_0, qr_1, qr_2⟩ := o_r.cells3; obtain ⟨fr_0, fr_1, fr_2⟩ := o_r.frozens3; have oz := o_r.set3 (.bool false) (.string ⟨#[]⟩) (.string ⟨#[]⟩); have sz9 := Below.set3 hbw (g := w.heap.size + 1) (by omega) (.bool false) (.string ⟨#[]⟩) (.string ⟨#[]⟩)
          go_wp2_with fail
          generalize (((wf.setCell ⟨w.heap.size + 1, 0, none⟩ (.bool false)).setCell ⟨w.heap.size + 1, 1, none⟩ (.string ⟨#[]⟩)).setCell ⟨w.heap.size + 1, 2, none⟩ (.string ⟨#[]⟩)) = wz at oz sz9 ⊢; obtain ⟨z0, z1, z2⟩ := oz.cells3; exact bodyPost_ret (v := .tuple #[.agg #[.bool false, .string ⟨#[]⟩, .string ⟨#[]⟩], .int .i64 25]) (by simp [results, Tryz.results17, go_sem, z0, z1, z2]) rfl ⟨.inl ⟨HQ9.out, rfl⟩, sz9⟩
        · have H0 := Lib.hid h0; have HVQ := Lib.hid hq; have HVD := Lib.hid hd; have hl : 0 < (dk Q).length := by
            rcases Nat.eq_zero_or_pos (dk Q).length with h | h
            · have := dk_zero_of (List.eq_nil_of_length_eq_zero h)
              omega
            · exact h
          clear h0; obtain ⟨A7, c7, rfl, -⟩ := hq; have t1 : ((((dk Q).length : Nat) : Int) == 0) = false := beq_eq_false_iff_ne.2 (by omega); have t2 : decide ((((dk Q).length : Nat) : Int) = 0) = false := decide_eq_false (by omega); have t3 : ((dk Q).length == 0) = false := beq_eq_false_iff_ne.2 (by omega); have t4 : decide ((dk Q).length = 0) = false := decide_eq_false (by omega); clear hl; obtain ⟨A8, c8, rfl, -⟩ := hd
          go_upto_region 16 with (fail)
          clear t1 t2 t3 t4; have HEQ : Hid (D * D * n = prodN [n, ((n : Int) * (a : Int) - (p : Int) * (q : Int)).natAbs, ((n : Int) * (a : Int) - (p : Int) * (q : Int)).natAbs]) := by
            rw [← HDD.out]
            simp only [prodN, Nat.mul_one]
            exact Lib.hid (by rw [Nat.mul_comm])
          have HD1 : Hid ((dk D).length ≤ 20000 ∧ (dk (D * D)).length ≤ 20000 ∧ (dk (D * D * n)).length ≤ 20000 ∧ (dk n).length ≤ 20000) := dk_three HDL.out (by have := HB.out; omega); obtain ⟨qc_0, qc_1, qc_2, qc_3⟩ := o_c.cells4; obtain ⟨qr_0, qr_1, qr_2⟩ := o_r.cells3; obtain ⟨fr_0, fr_1, fr_2⟩ := o_r.frozens3; refine wp_reg_st [some 84, some 85, some 86, some 87, some 88, some 89, some 90, some 91, some 92, some 93, some 94, some 95, none, some 3] [isV ?v3_0, isV ?v3_1, (fun v w' => BigV w' v (D * D)), isV ?v3_3, isV ?v3_4, isV (.int .u64 (n : Int)), (fun v w' => BigV w' v (n)), (fun v w' => BigV w' v (D * D * n)), isV ?v3_8, isV (.tuple #[.agg #[.bool nz, .string sz, .string tz], .int .i64 kz]), isV ?v3_10, isV ?v3_11, fun _ _ => False, fun _ _ => False] [anyV, anyV, anyV, anyV, anyV, anyV, anyV, anyV, anyV, anyV, anyV, anyV, anyV, isV ?w3_13] 12 [0, 1, 2, 3, 4, 5, 6, 7, 8, 9, 10, 11] (fun _ => fun w' => Below w.heap.size w w' ∧ Own w' (w.heap.size + 1) 27 [.bool nz, .string sz, .string tz]) rfl (by kernel_rfl) rfl rfl (by decide) (by kernel_rfl) (by kernel_rfl) (fun _ _ _ _ h => h) ?k3 ?m3 ⟨?s3_0, ?s3_1, ?s3_2, ?s3_3, ?s3_4, ?s3_5, ?s3_6, ?s3_7, ?s3_8, ?s3_9, ?s3_10, ?s3_11, ?s3_12, ?s3_13, trivial⟩ ?p3
          case s3_0 =>
            rw [if_neg (by decide)]
            constructor
            · rw [if_neg (by decide)]; intro t9 w9 hT9 hV9 hO9 K9 hK9; have o9_8 := hO9 8 _ (.inl (show List.contains _ _ = false from by kernel_rfl)) rfl; clear hV9 hO9; go_simp
              (refine hK9 _ _ (Grow.refl _) ?_; exact rfl)
            · rw [if_pos (by decide)]; trivial
          case s3_1 =>
            rw [if_neg (by decide)]
            constructor
            · rw [if_neg (by decide)]; intro t9 w9 hT9 hV9 hO9 K9 hK9; have o9_8 := hO9 8 _ (.inl (show List.contains _ _ = false from by kernel_rfl)) rfl; clear hV9 hO9; go_simp
              (refine hK9 _ _ (Grow.refl _) ?_; exact rfl)
            · rw [if_pos (by decide)]; trivial
          case s3_2 =>
            rw [if_neg (by decide)]
            constructor
            · rw [if_neg (by decide)]; intro t9 w9 hT9 hV9 hO9 K9 hK9; obtain ⟨x9_0, p9_0, q9_0⟩ := hV9.g 0 84 rfl rfl (by kernel_rfl); obtain rfl : x9_0 = ?v3_0 := q9_0; obtain ⟨x9_1, p9_1, q9_1⟩ := hV9.g 1 85 rfl rfl (by kernel_rfl); obtain rfl : x9_1 = ?v3_1 := q9_1; clear hV9 hO9; go_simp; refine (times_ref _ (HVD.out.below hT9.below) (HVD.out.below hT9.below) (by have := HD1.out; omega) (by have := HD1.out; omega)).mono ?_; rintro e w8 ⟨v8, rfl, h8, hb8⟩; exact hK9 _ _ hb8 h8
            · rw [if_pos (by decide)]; trivial
          case s3_3 =>
            rw [if_neg (by decide)]
            constructor
            · rw [if_neg (by decide)]; intro t9 w9 hT9 hV9 hO9 K9 hK9; have o9_1 := hO9 1 _ (.inl (show List.contains _ _ = false from by kernel_rfl)) rfl; clear hV9 hO9; go_simp
              (refine hK9 _ _ (Grow.refl _) ?_; exact rfl)
            · rw [if_pos (by decide)]; trivial
          case s3_4 =>
            rw [if_neg (by decide)]
            constructor
            · rw [if_neg (by decide)]; intro t9 w9 hT9 hV9 hO9 K9 hK9; obtain ⟨x9_3, p9_3, q9_3⟩ := hV9.g 3 87 rfl rfl (by kernel_rfl); obtain rfl : x9_3 = ?v3_3 := q9_3; clear hV9 hO9; have d9_0 := grow_cell hT9 qc_0; have d9_1 := grow_cell hT9 qc_1; have d9_2 := grow_cell hT9 qc_2; have d9_3 := grow_cell hT9 qc_3; go_simp
              (refine hK9 _ _ (Grow.refl _) ?_; exact rfl)
            · rw [if_pos (by decide)]; trivial
          case s3_5 =>
            rw [if_neg (by decide)]
            constructor
            · rw [if_neg (by decide)]; intro t9 w9 hT9 hV9 hO9 K9 hK9; obtain ⟨x9_4, p9_4, q9_4⟩ := hV9.g 4 88 rfl rfl (by kernel_rfl); obtain rfl : x9_4 = ?v3_4 := q9_4; clear hV9 hO9; go_simp
              (refine hK9 _ _ (Grow.refl _) ?_; exact rfl)
            · rw [if_pos (by decide)]; trivial
          case s3_6 =>
            rw [if_neg (by decide)]
            constructor
            · rw [if_neg (by decide)]; intro t9 w9 hT9 hV9 hO9 K9 hK9; obtain ⟨x9_5, p9_5, q9_5⟩ := hV9.g 5 89 rfl rfl (by kernel_rfl); obtain rfl : x9_5 = (.int .u64 (n : Int)) := q9_5; clear hV9 hO9; go_simp; refine (of64_ref n (by have := HB.out; omega) _).mono ?_; rintro e w8 ⟨v8, rfl, h8, hb8⟩; exact hK9 _ _ hb8 h8
            · rw [if_pos (by decide)]; trivial
          case s3_7 =>
            rw [if_neg (by decide)]
            constructor
            · rw [if_neg (by decide)]; intro t9 w9 hT9 hV9 hO9 K9 hK9; obtain ⟨x9_2, p9_2, q9_2⟩ := hV9.g 2 86 rfl rfl (by kernel_rfl); replace q9_2 : ((fun v w' => BigV w' v (D * D))) x9_2 _ := q9_2; obtain ⟨x9_6, p9_6, q9_6⟩ := hV9.g 6 90 rfl rfl (by kernel_rfl); replace q9_6 : ((fun v w' => BigV w' v (n))) x9_6 _ := q9_6; clear hV9 hO9; have HQ1 := Lib.hid q9_2; have HQ2 := Lib.hid q9_6; clear q9_2 q9_6; go_simp; refine (times_ref _ HQ1.out HQ2.out (by have := HD1.out; omega) (by have := HD1.out; omega)).mono ?_; rintro e w8 ⟨v8, rfl, h8, hb8⟩; exact hK9 _ _ hb8 h8
            · rw [if_pos (by decide)]; trivial
          case s3_8 =>
            rw [if_neg (by decide)]
            constructor
            · rw [if_neg (by decide)]; intro t9 w9 hT9 hV9 hO9 K9 hK9; have o9_9 := hO9 9 _ (.inl (show List.contains _ _ = false from by kernel_rfl)) rfl; clear hV9 hO9; go_simp
              (refine hK9 _ _ (Grow.refl _) ?_; exact rfl)
            · rw [if_pos (by decide)]; trivial
          case s3_9 =>
            rw [if_neg (by decide)]
            constructor
            · rw [if_neg (by decide)]; intro t9 w9 hT9 hV9 hO9 K9 hK9; obtain ⟨x9_7, p9_7, q9_7⟩ := hV9.g 7 91 rfl rfl (by kernel_rfl); replace q9_7 : ((fun v w' => BigV w' v (D * D * n))) x9_7 _ := q9_7; obtain ⟨x9_8, p9_8, q9_8⟩ := hV9.g 8 92 rfl rfl (by kernel_rfl); obtain rfl : x9_8 = ?v3_8 := q9_8; clear hV9 hO9; have HQ1 := Lib.hid q9_7; clear q9_7; go_simp; refine (lowest_ref false _ _ _ _ _ HQ1.out (HVQ.out.below hT9.below) (by have := HD1.out; omega) (by have := HB2.out; omega) H0.out).mono ?_; rintro e w8 ⟨hl, hb8⟩; have he := HEND.out _ (.inr ⟨by rw [HQ9.out]; exact H0.out, by rw [← HEQ.out, HQ9.out]; exact hl.toRat H0.out⟩); subst he; exact hK9 _ _ hb8 rfl
            · rw [if_pos (by decide)]; trivial
          case s3_10 =>
            rw [if_neg (by decide)]
            constructor
            · rw [if_neg (by decide)]; intro t9 w9 hT9 hV9 hO9 K9 hK9; obtain ⟨x9_9, p9_9, q9_9⟩ := hV9.g 9 93 rfl rfl (by kernel_rfl); obtain rfl : x9_9 = (.tuple #[.agg #[.bool nz, .string sz, .string tz], .int .i64 kz]) := q9_9; clear hV9 hO9; go_simp
              (refine hK9 _ _ (Grow.refl _) ?_; exact rfl)
            · rw [if_pos (by decide)]; trivial
          case s3_11 =>
            rw [if_neg (by decide)]
            constructor
            · rw [if_neg (by decide)]; intro t9 w9 hT9 hV9 hO9 K9 hK9; obtain ⟨x9_9, p9_9, q9_9⟩ := hV9.g 9 93 rfl rfl (by kernel_rfl); obtain rfl : x9_9 = (.tuple #[.agg #[.bool nz, .string sz, .string tz], .int .i64 kz]) := q9_9; clear hV9 hO9; go_simp
              (refine hK9 _ _ (Grow.refl _) ?_; exact rfl)
            · rw [if_pos (by decide)]; trivial
          case s3_12 =>
            rw [if_pos (by decide)]; intro t9 w9 hT9 hV9 hO9 K9 hK9; obtain ⟨x9_10, p9_10, q9_10⟩ := hV9.g 10 94 (by decide) rfl (by kernel_rfl); obtain rfl : x9_10 = ?v3_10 := q9_10; have o9_2 := hO9 2 _ (.inl (show List.contains _ _ = false from by kernel_rfl)) rfl; clear hV9 hO9; have og := o_r.below hT9.below o_r.lt; obtain ⟨hg0, hg1, hg2⟩ := og.cells3; obtain ⟨hf0, hf1, hf2⟩ := og.frozens3; have HE := Lib.hid (⟨Below.set3 (below6 hbw hT9.below) (g := w.heap.size + 1) (by omega) (.bool nz) (.string sz) (.string tz), og.set3 (.bool nz) (.string sz) (.string tz)⟩ : (fun w' => Below w.heap.size w w' ∧ Own w' (w.heap.size + 1) 27 [.bool nz, .string sz, .string tz]) (((w9.setCell ⟨w.heap.size + 1, 0, none⟩ (.bool nz)).setCell ⟨w.heap.size + 1, 1, none⟩ (.string sz)).setCell ⟨w.heap.size + 1, 2, none⟩ (.string tz))); go_simp; exact hK9 undef _ HE.out trivial
          case s3_13 =>
            rw [if_neg (by decide)]
            constructor
            · rw [if_pos (by rfl)]; trivial
            · rw [if_neg (by decide)]; intro t9 w9 hV9 hO9 K9 hK9; obtain ⟨x9_11, p9_11, q9_11⟩ := hV9.g 11 95 rfl rfl (by kernel_rfl); obtain ⟨_, q9_11⟩ := q9_11.pre (by decide); obtain rfl : x9_11 = ?v3_11 := q9_11; clear hV9 hO9; go_simp
              (refine hK9 _ ?_; exact rfl)
          case k3 =>
            intro i9 v9 w9 x9 h9 g9
            match i9, h9 with
            | 0, h9 => exact h9
            | 1, h9 => exact h9
            | 2, h9 => (replace h9 : (fun v w' => BigV w' v (D * D)) v9 w9 := h9); exact BigV.below h9 g9
            | 3, h9 => exact h9
            | 4, h9 => exact h9
            | 5, h9 => exact h9
            | 6, h9 => (replace h9 : (fun v w' => BigV w' v (n)) v9 w9 := h9); exact BigV.below h9 g9
            | 7, h9 => (replace h9 : (fun v w' => BigV w' v (D * D * n)) v9 w9 := h9); exact BigV.below h9 g9
            | 8, h9 => exact h9
            | 9, h9 => exact h9
            | 10, h9 => exact h9
            | 11, h9 => exact h9
            | 12, h9 => exact h9
            | 13, h9 => exact h9
            | _ + 14, h9 => exact trivial
          case m3 =>
            intro i9 v9 w9 x9 a s h
            match i9, a, s, h with
            | 0, a, _, _ => exact absurd (by decide) a
            | 1, a, _, _ => exact absurd (by decide) a
            | 2, a, _, _ => exact absurd (by decide) a
            | 3, a, _, _ => exact absurd (by decide) a
            | 4, a, _, _ => exact absurd (by decide) a
            | 5, a, _, _ => exact absurd (by decide) a
            | 6, a, _, _ => exact absurd (by decide) a
            | 7, a, _, _ => exact absurd (by decide) a
            | 8, a, _, _ => exact absurd (by decide) a
            | 9, a, _, _ => exact absurd (by decide) a
            | 10, a, _, _ => exact absurd (by decide) a
            | 11, a, _, _ => exact absurd (by decide) a
            | 12, _, s, _ => exact absurd rfl s
            | 13, _, _, h => exact False.elim h
            | _ + 14, _, _, _ => exact trivial
          intro u9 w9 hE9 hu9; obtain ⟨_, r9_0⟩ := (hu9 0 (by decide)).pre (by decide); replace r9_0 : u9 0 = ?v3_0 := r9_0; obtain ⟨_, r9_1⟩ := (hu9 1 (by decide)).pre (by decide); replace r9_1 : u9 1 = ?v3_1 := r9_1; obtain ⟨_, r9_3⟩ := (hu9 3 (by decide)).pre (by decide); replace r9_3 : u9 3 = ?v3_3 := r9_3; obtain ⟨_, r9_4⟩ := (hu9 4 (by decide)).pre (by decide); replace r9_4 : u9 4 = ?v3_4 := r9_4; obtain ⟨_, r9_5⟩ := (hu9 5 (by decide)).pre (by decide); replace r9_5 : u9 5 = (.int .u64 (n : Int)) := r9_5; obtain ⟨_, r9_8⟩ := (hu9 8 (by decide)).pre (by decide); replace r9_8 : u9 8 = ?v3_8 := r9_8; obtain ⟨_, r9_9⟩ := (hu9 9 (by decide)).pre (by decide); replace r9_9 : u9 9 = (.tuple #[.agg #[.bool nz, .string sz, .string tz], .int .i64 kz]) := r9_9; obtain ⟨_, r9_10⟩ := (hu9 10 (by decide)).pre (by decide); replace r9_10 : u9 10 = ?v3_10 := r9_10; obtain ⟨_, r9_11⟩ := (hu9 11 (by decide)).pre (by decide)
          replace r9_11 : u9 11 = ?v3_11 := r9_11; have r9_13 : u9 13 = ?w3_13 := (hu9 13 (by decide)).late (by decide); clear hu9; obtain ⟨sz9, oz⟩ := hE9
          simp only [putAll, Act.put, List.setIfInBounds_toArray, List.set_cons_succ, List.set_cons_zero, List.getD_cons_succ, List.getD_cons_zero, Nat.reduceAdd, Nat.zero_add]
          simp only [r9_0, r9_1, r9_3, r9_4, r9_5, r9_8, r9_9, r9_10, r9_11, r9_13]
          clear r9_0 r9_1 r9_3 r9_4 r9_5 r9_8 r9_9 r9_10 r9_11 r9_13
          go_wp2_with fail
          obtain ⟨z0, z1, z2⟩ := oz.cells3; exact bodyPost_ret (v := .tuple #[.agg #[.bool nz, .string sz, .string tz], .int .i64 kz]) (by simp [results, Tryz.results17, go_sem, z0, z1, z2]) rfl ⟨HRES.out, sz9⟩
end Go.Proofs.YtocknfhgjmaibaaGreatDoor
