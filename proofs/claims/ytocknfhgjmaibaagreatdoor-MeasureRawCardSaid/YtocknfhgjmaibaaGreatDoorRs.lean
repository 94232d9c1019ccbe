/- Parts of the proof: Ro8, Rs. No condition of its own. -/
import Derived.Test.YtocknfhgjmaibaaGreatDoorMs
import Derived.Test.YtocknfhgjmaibaaGreatDoorRk
import Derived.Test.YtocknfhgjmaibaaGreatDoorLk
set_option linter.unusedSimpArgs false
set_option linter.unusedVariables false
set_option linter.unusedSectionVars false
set_option maxRecDepth 100000
set_option maxHeartbeats 4000000
namespace Go.Proofs.YtocknfhgjmaibaaGreatDoor
open Go.RowKit Dg

theorem rmv_yes {a p q n : Nat} (hv : VC a p q n) : ∀ w, Calls Tryz.prog 9 #[.agg #[.int .i64 (a : Int), .int .i64 (p : Int), .int .i64 (q : Int), .int .i64 (n : Int)]] w fun e w' => e = .returned (.bool true) ∧ Below w.heap.size w w' := by
  intro w; obtain ⟨o_c, hbw⟩ := new1 w [.int .i64 (a : Int), .int .i64 (p : Int), .int .i64 (q : Int), .int .i64 (n : Int)] 23
  go_enter Tryz.func9, Tryz.ntmps9
  go_upto_region 1 with (fail)
  generalize (w.alloc (.cells #[.int .i64 (a : Int), .int .i64 (p : Int), .int .i64 (q : Int), .int .i64 (n : Int)] 23)) = wb at o_c hbw ⊢; have t1 : decide ((1 : Int) ≤ (n : Int)) = true := decide_eq_true (by have := hv.n1; omega); have t2 : decide ((n : Int) ≤ 2147483648) = true := decide_eq_true (by have := hv.n2; omega); have t3 : decide ((p : Int) ≤ (n : Int)) = true := decide_eq_true (by have := hv.pn; omega); have t3' : decide (p ≤ n) = true := decide_eq_true hv.pn; have t4 : decide ((q : Int) ≤ (n : Int)) = true := decide_eq_true (by have := hv.qn; omega); have t4' : decide (q ≤ n) = true := decide_eq_true hv.qn; have z1 : IntKind.i64.wrap ((p : Int) + (q : Int)) = (p : Int) + (q : Int) := IntWalk.i64_in _ (by have := hv.all; omega); have z2 : IntKind.i64.wrap ((p : Int) + (q : Int) - (n : Int)) = (p : Int) + (q : Int) - (n : Int) := IntWalk.i64_in _ (by have := hv.all; omega); have t6 : decide ((p : Int) + (q : Int) - (n : Int) ≤ (a : Int)) = true := decide_eq_true (by have := hv.pq; omega)
  have h1 := hv.n1; have h1' := hv.n2; have h2 := hv.pn; have h3 := hv.qn; have h4 := hv.ap; have h5 := hv.aq; have h6 := hv.pq; clear hv; obtain ⟨qc_0, qc_1, qc_2, qc_3⟩ := o_c.cells4
  go_wp2
  go_ret
  exact ⟨ret_bool (by simp <;> omega), hbw⟩
theorem dk_zero_of {n : Nat} (h : dk n = []) : n = 0 := by
  have h1 := val_dg b10k n; unfold dk at h; rw [h] at h1
  simpa [val] using h1.symm
theorem of38_ref (B1 : Option Addr) (l1 : List Int) (m1 : List Nat) (c1 : Nat) (B2 : Option Addr) (l2 : List Int) (m2 : List Nat) (c2 : Nat) (w : World) (hA1 : Ints w B1 l1) (he1 : l1 = m1.map fun (x : Nat) => (x : Int)) (hc1 : l1.length ≤ c1) (hm1 : c1 ≤ maxLen) (hs1 : Smalls m1)
    (hA2 : Ints w B2 l2) (he2 : l2 = m2.map fun (x : Nat) => (x : Int)) (hc2 : l2.length ≤ c2) (hm2 : c2 ≤ maxLen) (hs2 : Smalls m2) :
    Calls Tryz.prog 29 #[.slice B1 l1.length c1, .slice B2 l2.length c2] w fun e w' => QRes (prodN m1) (prodN m2) e ∧ Below w.heap.size w w' := by
  have hn1 : l1.length = m1.length := by rw [he1, List.length_map]
  have hn2 : l2.length = m2.length := by rw [he2, List.length_map]
  have hl1 := hs1.1; have hl2 := hs2.1; have HB1 : Hid ((dk (prodN m1)).length ≤ 20000) := by
    have := hs1.all; exact Lib.hid (OkN.dk (by unfold OkN; omega))
  have HB2 : Hid ((dk (prodN m2)).length ≤ 20000) := by
    have := hs2.all; exact Lib.hid (OkN.dk (by unfold OkN; omega))
  have A1 := Lib.hid hA1; have A2 := Lib.hid hA2; have e1 := Lib.hid he1; have e2 := Lib.hid he2; have S1 := Lib.hid hs1; have S2 := Lib.hid hs2; have O1 : Hid (∀ w : World, Calls Tryz.prog 35 #[.int .u64 1] w fun e w' => ∃ v, e = .returned v ∧ BigV w' v 1 ∧ Below w.heap.size w w') := Lib.hid (fun w => of64_ref 1 (by decide) w); obtain ⟨N1, hN1⟩ : ∃ N, l1.length = N := ⟨_, rfl⟩; obtain ⟨N2, hN2⟩ : ∃ N, l2.length = N := ⟨_, rfl⟩; have HN1 : Hid (N1 = m1.length ∧ l1.length = N1) := ⟨by omega, hN1⟩; have HN2 : Hid (N2 = m2.length ∧ l2.length = N2) := ⟨by omega, hN2⟩; have b1 : N1 ≤ 6 := by omega
  have b2 : N2 ≤ 6 := by omega
  rw [hN1] at hc1 ⊢; rw [hN2] at hc2 ⊢; unfold maxLen at hm1 hm2; clear hA1 hA2 he1 he2 hs1 hs2 hn1 hn2 hN1 hN2 hl1 hl2; obtain ⟨o_r, hbw⟩ := new1 w [.bool false, .string ⟨#[]⟩, .string ⟨#[]⟩] 27
  go_enter Tryz.func29, Tryz.ntmps29
  go_upto_region 1 with (fail)
  generalize (w.alloc (.cells #[.bool false, .string ⟨#[]⟩, .string ⟨#[]⟩] 27)) = wb at o_r hbw ⊢
  go_wp2_with fail
  refine (O1.out _).mono ?_; rintro e w1 ⟨v6, rfl, hv6, hb1⟩; replace o_r := o_r.below hb1 o_r.lt; replace hbw := below6 hbw hb1; clear hb1
  go_wp2_with fail
  refine (O1.out _).mono ?_; rintro e w2 ⟨v7, rfl, hv7, hb2⟩; replace hv6 := hv6.below hb2; replace o_r := o_r.below hb2 o_r.lt; replace hbw := below6 hbw hb2; clear hb2
  go_upto_region 3 with (fail)
  go_loopg [6, 16] m1.length (fun qn vv vi wr => ∃ k : Nat, qn = m1.length - k ∧ k ≤ m1.length ∧ vi = .int .i64 (k : Int) ∧ BigV wr vv (prodN (m1.take k)) ∧ BigV wr v7 1 ∧ Own wr w.heap.size 27 [.bool false, .string ⟨#[]⟩, .string ⟨#[]⟩] ∧ Below w.heap.size w wr)
  case atStart => exact ⟨0, rfl, Nat.zero_le _, rfl, hv6, hv7, o_r, hbw⟩
  case round =>
    clear hv6 hv7 o_r hbw; obtain ⟨k, hq, hk, rfl, hv6, hv7, o_r, hbw⟩ := hrel; have HQ := Lib.hid hq; clear hq
    by_cases hlt : k < m1.length
    · have hki : k < l1.length := by have := HN1.out; omega
      have hkN : k < N1 := by have := HN1.out; omega
      obtain ⟨b, off, hAe, hcell⟩ := (Ints.below A1.out hbw).get hki; have hx : l1[k] = ((m1[k] : Nat) : Int) := by
        have := e1.out; subst this
        simp
      rw [hx] at hcell; have HX : Hid (m1[k] ≤ 4611686018427387904) := S1.out.2 _ (List.getElem_mem hlt); have HPT : Hid (prodN (m1.take (k + 1)) = prodN (m1.take k) * m1[k]) := prodN_take hlt; have HO1 := Lib.hid (S1.out.okn k).dk; have HO2 : Hid ((dk m1[k]).length ≤ 20000) := by
        have : (dec m1[k]).length ≤ 20 := dec_len_le (by decide) (by have := HX.out; omega); exact Lib.hid (OkN.dk (by unfold OkN; omega))
      clear hx; generalize m1[k] = x at *; subst hAe; have hu : IntKind.u64.wrap (x : Int) = (x : Int) := IntWalk.u64_in _ (by have := HX.out; omega)
      go_wp2_with fail
      refine (of64_ref x (by have := HX.out; omega) _).mono ?_; rintro e w1 ⟨vx, rfl, hvx, hb1⟩; replace hv6 := hv6.below hb1; replace hv7 := hv7.below hb1; replace o_r := o_r.below hb1 o_r.lt; replace hbw := below6 hbw hb1; clear hb1 hcell hu
      go_wp2_with fail
      refine (times_ref _ hv6 hvx (by have := HO1.out; omega) (by have := HO2.out; omega)).mono ?_; rintro e w2 ⟨vy, rfl, hvy, hb2⟩; rw [← HPT.out] at hvy; replace hv7 := hv7.below hb2; replace o_r := o_r.below hb2 o_r.lt; replace hbw := below6 hbw hb2; clear hb2 hv6 hvx; have HVY := Lib.hid hvy; clear hvy
      go_wp2_with fail
      go_roundg (m1.length - (k + 1))
      case measure => have := HQ.out; omega
      case rel => exact ⟨k + 1, rfl, by omega, by go_num, HVY.out, hv7, o_r, hbw⟩
    · have hkk : m1.take k = m1 := List.take_of_length_le (by omega); rw [hkk] at hv6; have hkN : ¬ (k < N1) := by have := HN1.out; omega
      clear hkk
      go_upto_region 8 with (fail)
      go_loopg [7, 28] m2.length (fun qn vv vi wr => ∃ k : Nat, qn = m2.length - k ∧ k ≤ m2.length ∧ vi = .int .i64 (k : Int) ∧ BigV wr vv (prodN (m2.take k)) ∧ BigV wr u6 (prodN m1) ∧ Own wr w.heap.size 27 [.bool false, .string ⟨#[]⟩, .string ⟨#[]⟩] ∧ Below w.heap.size w wr)
      case atStart => exact ⟨0, rfl, Nat.zero_le _, rfl, hv7, hv6, o_r, hbw⟩
      case round =>
        clear hv7 hv6 o_r hbw; obtain ⟨k, hq, hk, rfl, hv7, hv6, o_r, hbw⟩ := hrel; have HQ := Lib.hid hq; clear hq
        by_cases hlt : k < m2.length
        · have hki : k < l2.length := by have := HN2.out; omega
          have hkN : k < N2 := by have := HN2.out; omega
          obtain ⟨b, off, hAe, hcell⟩ := (Ints.below A2.out hbw).get hki; have hx : l2[k] = ((m2[k] : Nat) : Int) := by
            have := e2.out; subst this
            simp
          rw [hx] at hcell; have HX : Hid (m2[k] ≤ 4611686018427387904) := S2.out.2 _ (List.getElem_mem hlt); have HPT : Hid (prodN (m2.take (k + 1)) = prodN (m2.take k) * m2[k]) := prodN_take hlt; have HO1 := Lib.hid (S2.out.okn k).dk; have HO2 : Hid ((dk m2[k]).length ≤ 20000) := by
            have : (dec m2[k]).length ≤ 20 := dec_len_le (by decide) (by have := HX.out; omega); exact Lib.hid (OkN.dk (by unfold OkN; omega))
          clear hx; generalize m2[k] = x at *; subst hAe; have hu : IntKind.u64.wrap (x : Int) = (x : Int) := IntWalk.u64_in _ (by have := HX.out; omega)
          go_wp2_with fail
          refine (of64_ref x (by have := HX.out; omega) _).mono ?_; rintro e w1 ⟨vx, rfl, hvx, hb1⟩; replace hv7 := hv7.below hb1; replace hv6 := hv6.below hb1; replace o_r := o_r.below hb1 o_r.lt; replace hbw := below6 hbw hb1; clear hb1 hcell hu
          go_wp2_with fail
          refine (times_ref _ hv7 hvx (by have := HO1.out; omega) (by have := HO2.out; omega)).mono ?_; rintro e w2 ⟨vy, rfl, hvy, hb2⟩; rw [← HPT.out] at hvy; replace hv6 := hv6.below hb2; replace o_r := o_r.below hb2 o_r.lt; replace hbw := below6 hbw hb2; clear hb2 hv7 hvx; have HVY := Lib.hid hvy; clear hvy
          go_wp2_with fail
          go_roundg (m2.length - (k + 1))
          case measure => have := HQ.out; omega
          case rel => exact ⟨k + 1, rfl, by omega, by go_num, HVY.out, hv6, o_r, hbw⟩
        · have hkk : m2.take k = m2 := List.take_of_length_le (by omega); rw [hkk] at hv7; have hkN : ¬ (k < N2) := by have := HN2.out; omega
          clear hkk
          go_upto_region 12 with (fail)
          obtain ⟨Q, hQ⟩ : ∃ Q, prodN m2 = Q := ⟨_, rfl⟩; rw [hQ] at hv7 HB2; have HQ9 := Lib.hid hQ; clear hQ; obtain ⟨wf, hwf⟩ : ∃ x : World, x = wr := ⟨_, rfl⟩; rw [← hwf] at hv6 hv7 o_r hbw ⊢; clear hwf
          rcases Nat.eq_zero_or_pos Q with h0 | h0
          · subst h0; obtain ⟨A7, c7, rfl, -⟩ := hv7; have hz : (dk 0).length = 0 := rfl; rw [hz]; clear hz hv6; obtain ⟨qr_0, qr_1, qr_2⟩ := o_r.cells3; obtain ⟨fr_0, fr_1, fr_2⟩ := o_r.frozens3; have oz := o_r.set3 (.bool false) (.string ⟨#[]⟩) (.string ⟨#[]⟩); have sz9 := Below.set3 hbw (g := w.heap.size) (Nat.le_refl _) (.bool false) (.string ⟨#[]⟩) (.string ⟨#[]⟩)
            go_wp2_with fail
            generalize (((wf.setCell ⟨w.heap.size, 0, none⟩ (.bool false)).setCell ⟨w.heap.size, 1, none⟩ (.string ⟨#[]⟩)).setCell ⟨w.heap.size, 2, none⟩ (.string ⟨#[]⟩)) = wz at oz sz9 ⊢; obtain ⟨z0, z1, z2⟩ := oz.cells3; exact bodyPost_ret (v := .tuple #[.agg #[.bool false, .string ⟨#[]⟩, .string ⟨#[]⟩], .int .i64 25]) (by simp [results, Tryz.results29, go_sem, z0, z1, z2]) rfl ⟨.inl ⟨HQ9.out, rfl⟩, sz9⟩
          · obtain ⟨nz, sz, tz, kz, hend, hres⟩ := qres_one (prodN m1) Q; have HEND := Lib.hid hend; have HRES := Lib.hid hres; have H0 := Lib.hid h0; have HV6 := Lib.hid hv6; have HV7 := Lib.hid hv7; clear hend hres; have hl : 0 < (dk Q).length := by
              rcases Nat.eq_zero_or_pos (dk Q).length with h | h
              · have := dk_zero_of (List.eq_nil_of_length_eq_zero h)
                omega
              · exact h
            clear h0 hv6; obtain ⟨A7, c7, rfl, -⟩ := hv7; have t1 : ((((dk Q).length : Nat) : Int) == 0) = false := beq_eq_false_iff_ne.2 (by omega); have t2 : decide ((((dk Q).length : Nat) : Int) = 0) = false := decide_eq_false (by omega); have t3 : ((dk Q).length == 0) = false := beq_eq_false_iff_ne.2 (by omega); have t4 : decide ((dk Q).length = 0) = false := decide_eq_false (by omega); clear hl
            go_wp2_with fail
            refine (lowest_ref false _ _ _ _ _ HV6.out HV7.out (by have := HB1.out; omega) (by have := HB2.out; omega) H0.out).mono ?_; rintro e w5 ⟨hl, hb5⟩; have he := HEND.out _ (.inr ⟨H0.out, hl.toRat H0.out⟩); subst he; replace o_r := o_r.below hb5 o_r.lt; replace hbw := below6 hbw hb5; clear hb5 hl t1 t2 t3 t4; obtain ⟨qr_0, qr_1, qr_2⟩ := o_r.cells3; obtain ⟨fr_0, fr_1, fr_2⟩ := o_r.frozens3; have oz := o_r.set3 (.bool nz) (.string sz) (.string tz); have sz9 := Below.set3 hbw (g := w.heap.size) (Nat.le_refl _) (.bool nz) (.string sz) (.string tz)
            go_wp2_with fail
            generalize (((w5.setCell ⟨w.heap.size, 0, none⟩ (.bool nz)).setCell ⟨w.heap.size, 1, none⟩ (.string sz)).setCell ⟨w.heap.size, 2, none⟩ (.string tz)) = wz at oz sz9 ⊢; obtain ⟨z0, z1, z2⟩ := oz.cells3; exact bodyPost_ret (v := .tuple #[.agg #[.bool nz, .string sz, .string tz], .int .i64 kz]) (by simp [results, Tryz.results29, go_sem, z0, z1, z2]) rfl ⟨by rw [HQ9.out]; exact HRES.out, sz9⟩
open Go.RowKit Dg

theorem u64_in' {n : Nat} (h : n < 18446744073709551616) : IntKind.u64.wrap (n : Int) = (n : Int) := IntWalk.u64_in _ (by omega)
theorem u64_pow {m : Nat} (h : m ≤ 63) : IntKind.u64.wrap (2 ^ m) = ((2 ^ m : Nat) : Int) := by
  have e : (2 : Int) ^ m = ((2 ^ m : Nat) : Int) := by simp
  rw [e]; exact u64_in' (Nat.lt_of_le_of_lt (Nat.pow_le_pow_right (by decide) h) (by decide))
theorem dk_two (n : Nat) : (dk (2 ^ n)).length ≤ n + 1 := by
  refine dg_le b10k ?_; have h1 : 2 ^ n ≤ 10000 ^ n := Nat.pow_le_pow_left (by decide) n; have h2 : 10000 ^ n < 10000 ^ (n + 1) := Nat.pow_lt_pow_right (by decide) (by omega)
  omega
theorem two_ref (n : Nat) (w : World) (hn : n ≤ 400000) : Calls Tryz.prog 106 #[.int .i64 (n : Int)] w fun e w' => ∃ v, e = .returned v ∧ BigV w' v (2 ^ n) ∧ Below w.heap.size w w' := by
  have HT := Lib.hid dk_two
  go_enter Tryz.func106, Tryz.ntmps106
  go_wp2_with fail
  refine (of64_ref 1 (by decide) _).mono ?_; rintro e w1 ⟨v1, rfl, hv1, hb1⟩
  go_wp2_with fail
  go_loopg [0, 3] n (fun q v0 v3 wr => ∃ m : Nat, q = m ∧ m ≤ n ∧ v0 = .int .i64 (m : Int) ∧ BigV wr v3 (2 ^ (n - m)) ∧ Below w.heap.size w wr)
  case atStart => exact ⟨n, rfl, Nat.le_refl _, rfl, by rw [Nat.sub_self]; exact hv1, hb1⟩
  case round =>
    clear hv1 hb1; obtain ⟨m, hq, hm, rfl, hv, hbw⟩ := hrel; have HQ := Lib.hid hq; clear hq
    have hd := HT.out (n - m)
    by_cases h40 : 40 ≤ m
    · have hI : (40 : Int) ≤ (m : Int) := by omega
      have hd2 := HT.out 40; have HP : Hid (2 ^ (n - m) * 1099511627776 = 2 ^ (n - (m - 40))) := by
        show _ = _
        have e : n - (m - 40) = n - m + 40 := by omega
        rw [e, Nat.pow_add]
      go_wp2_with fail
      refine (of64_ref 1099511627776 (by decide) _).mono ?_; rintro e w2 ⟨v2, rfl, hv2, hb2⟩; replace hv := hv.below hb2; replace hbw := below6 hbw hb2; clear hb2
      go_wp2_with fail
      refine (times_ref _ hv hv2 (by omega) (by have : (dk 1099511627776).length ≤ 41 := hd2; omega)).mono ?_; rintro e w3 ⟨v3, rfl, hv3, hb3⟩; replace hbw := below6 hbw hb3; rw [HP.out] at hv3
      go_wp2_with fail
      go_roundg (m - 40)
      case measure => have := HQ.out; omega
      case rel => exact ⟨m - 40, rfl, by omega, by go_num, hv3, hbw⟩
    · have hI : ¬ (40 : Int) ≤ (m : Int) := by omega
      have h2 : 2 ^ m ≤ 2 ^ 39 := Nat.pow_le_pow_right (by decide) (by omega); have hd2 := HT.out m; have HP : Hid (2 ^ (n - m) * 2 ^ m = 2 ^ n) := by
        show _ = _
        rw [← Nat.pow_add]
        congr 1; omega
      have ZW : Hid (IntKind.u64.wrap (2 ^ m) = ((2 ^ m : Nat) : Int)) := u64_pow (by omega); have HO : Hid (∀ w, Calls Tryz.prog 35 #[.int .u64 ((2 ^ m : Nat) : Int)] w fun e w' => ∃ v, e = .returned v ∧ BigV w' v (2 ^ m) ∧ Below w.heap.size w w') := fun w => of64_ref (2 ^ m) (by omega) w
      go_wp2_with fail
      rw [ZW.out]; refine (HO.out _).mono ?_; rintro e w2 ⟨v2, rfl, hv2, hb2⟩; replace hv := hv.below hb2; replace hbw := below6 hbw hb2; clear hb2 HO
      go_wp2_with fail
      refine (times_ref _ hv hv2 (by omega) (by omega)).mono ?_; rintro e w3 ⟨v3, rfl, hv3, hb3⟩; rw [HP.out] at hv3
      go_wp2
      go_ret
      exact ⟨v3, rfl, hv3, below6 hbw hb3⟩
theorem dk_short {n N : Nat} (h : (dec n).length ≤ 4 * N) : (dk n).length ≤ N := by
  refine dg_le b10k ?_; have h1 := dec_lt n; have h2 : 10 ^ (dec n).length ≤ 10 ^ (4 * N) := Nat.pow_le_pow_right (by decide) h; have h3 : 10 ^ (4 * N) = 10000 ^ N := by rw [Nat.pow_mul]
  omega
theorem below_ref {v1 v2 : Value} {P Q : Nat} (n : Int) (z : Int) (hz : cmpR (p2 n) (rat false P Q) = z) (w : World) (h1 : BigV w v1 P) (h2 : BigV w v2 Q) (hQ : 0 < Q) (hn1 : -400000 ≤ n) (hn2 : n ≤ 400000) (l1 : (dk P).length ≤ 600000) (l2 : (dk Q).length ≤ 600000) :
    Calls Tryz.prog 92 #[.int .i64 n, v1, v2] w fun e w' => e = .returned (.tuple #[.bool (decide (z ≤ 0)), .bool (z == 0)]) ∧ Below w.heap.size w w' := by
  by_cases hn : n < 0
  · obtain ⟨j, rfl⟩ : ∃ j : Nat, n = -(j : Int) := ⟨(-n).toNat, by omega⟩; have hj : j ≤ 400000 := by omega
    have HR := Lib.hid ((cmpR_of (times_neg hQ j (P := P)).1 (times_neg hQ j (P := P)).2).symm.trans hz); have HT := Lib.hid (two_ref j w hj); have H1 := Lib.hid h1; have H2 := Lib.hid h2; have hd := dk_two j; have z1 : IntKind.i64.wrap (-(-(j : Int))) = (j : Int) := by rw [Int.neg_neg]; exact IntWalk.i64_in _ (by omega)
    have z2 : -(-(j : Int)) = (j : Int) := Int.neg_neg _; clear h1 h2 hQ hz
    go_enter Tryz.func92, Tryz.ntmps92
    go_wp2_with fail
    refine HT.out.mono ?_; rintro e w1 ⟨v3, rfl, hv3, hb1⟩
    go_wp2_with fail
    refine (times_ref _ (H1.out.below hb1) hv3 (by omega) (by omega)).mono ?_; rintro e w2 ⟨v4, rfl, hv4, hb2⟩
    go_wp2_with fail
    refine (less_ref _ ((H2.out.below hb1).below hb2) hv4).mono ?_; rintro e w3 ⟨he, hb3⟩; rw [HR.out] at he; subst he
    go_wp2
    go_ret2
    exact ⟨rfl, below6 (below6 hb1 hb2) hb3⟩
  · obtain ⟨j, rfl⟩ : ∃ j : Nat, n = (j : Int) := ⟨n.toNat, by omega⟩; have hj : j ≤ 400000 := by omega
    have HR := Lib.hid ((cmpR_of (times_pos hQ j (P := P)).1 (times_pos hQ j (P := P)).2).symm.trans hz); have HT := Lib.hid (two_ref j w hj); have H1 := Lib.hid h1; have H2 := Lib.hid h2; have hd := dk_two j; clear h1 h2 hQ hz
    go_enter Tryz.func92, Tryz.ntmps92
    go_wp2_with fail
    refine HT.out.mono ?_; rintro e w1 ⟨v3, rfl, hv3, hb1⟩
    go_wp2_with fail
    refine (times_ref _ (H2.out.below hb1) hv3 (by omega) (by omega)).mono ?_; rintro e w2 ⟨v4, rfl, hv4, hb2⟩
    go_wp2_with fail
    refine (less_ref _ hv4 ((H1.out.below hb1).below hb2)).mono ?_; rintro e w3 ⟨he, hb3⟩; rw [HR.out] at he; subst he
    go_wp2
    go_ret2
    exact ⟨rfl, below6 (below6 hb1 hb2) hb3⟩
end Go.Proofs.YtocknfhgjmaibaaGreatDoor
