/- Parts of the proof: Re8. No condition of its own. -/
import Derived.Test.YtocknfhgjmaibaaGreatDoorRq8
import Derived.Test.YtocknfhgjmaibaaGreatDoorLl
set_option linter.unusedSimpArgs false
set_option linter.unusedVariables false
set_option linter.unusedSectionVars false
set_option maxRecDepth 100000
set_option maxHeartbeats 4000000
namespace Go.Proofs.YtocknfhgjmaibaaGreatDoor
open Go.RowKit Dg

def RStep (o r c n k : Nat) (O : Int) (nf : Nat → Bool) (sf tf : Nat → ByteArray) (ng : Nat → Bool) (sg tg : Nat → ByteArray) (i : Nat) : Prop :=
  (o = 0 ∧ nf (i + 1) = nf i ∧ sf (i + 1) = sf i ∧ tf (i + 1) = tf i ∧ ng (i + 1) = ng i ∧ sg (i + 1) = sg i ∧ tg (i + 1) = tg i) ∨
  (0 < o ∧ ∃ (nx : Bool) (sx tx : ByteArray) (ny : Bool) (sy ty : ByteArray) (nz : Bool) (sz tz : ByteArray) (nh : Bool) (sh th : ByteArray) (nu : Bool) (su tu : ByteArray) (nv : Bool) (sv tv : ByteArray), (∀ e, QRes (prodN [o, n]) (prodN [r, c]) e → e = .returned (.tuple #[.agg #[.bool nx, .string sx, .string tx], .int .i64 0])) ∧
    RetV 46 #[.agg #[.bool nx, .string sx, .string tx], .int .i64 (k : Int)] (.tuple #[.agg #[.bool ny, .string sy, .string ty, .bool nz, .string sz, .string tz], .int .i64 0]) ∧ RetV 39 #[.int .i64 (2 * O), .int .i64 1] (.tuple #[.agg #[.bool nh, .string sh, .string th], .int .i64 0]) ∧
    RetV 51 #[.agg #[.bool ny, .string sy, .string ty, .bool nz, .string sz, .string tz], .agg #[.bool nh, .string sh, .string th]] (.tuple #[.agg #[.bool nu, .string su, .string tu, .bool nv, .string sv, .string tv], .int .i64 0]) ∧ RetV 52 #[.agg #[.bool (nf i), .string (sf i), .string (tf i), .bool (ng i), .string (sg i), .string (tg i)], .agg #[.bool nu, .string su, .string tu, .bool nv, .string sv, .string tv]] (.tuple #[.agg #[.bool (nf (i + 1)), .string (sf (i + 1)), .string (tf (i + 1)), .bool (ng (i + 1)), .string (sg (i + 1)), .string (tg (i + 1))], .int .i64 0]))
theorem re_idx {a p q n : Nat} (hv : VC a p q n) (k : Nat) (hk : k < 4) : ∃ (O R C : Int), O = ((fo a p q n k : Nat) : Int) ∧ R = ((fr p n k : Nat) : Int) ∧ C = ((fc q n k : Nat) : Int) ∧
    ([.int .i64 ((a : Int)), .int .i64 ((p : Int) - (a : Int)), .int .i64 ((q : Int) - (a : Int)), .int .i64 ((n : Int) - (p : Int) - (q : Int) + (a : Int))] : List Value)[k]? = some (.int .i64 O) ∧ ([.int .i64 ((p : Int)), .int .i64 ((q : Int)), .int .i64 ((p : Int)), .int .i64 ((n : Int) - (q : Int)), .int .i64 ((n : Int) - (p : Int)), .int .i64 ((q : Int)), .int .i64 ((n : Int) - (p : Int)), .int .i64 ((n : Int) - (q : Int))] : List Value)[k * 2]? = some (.int .i64 R) ∧ ([.int .i64 ((p : Int)), .int .i64 ((q : Int)), .int .i64 ((p : Int)), .int .i64 ((n : Int) - (q : Int)), .int .i64 ((n : Int) - (p : Int)), .int .i64 ((q : Int)), .int .i64 ((n : Int) - (p : Int)), .int .i64 ((n : Int) - (q : Int))] : List Value)[k * 2 + 1]? = some (.int .i64 C) := by
  have g1 := hv.pn; have g2 := hv.qn; have g3 := hv.n2; have g4 := hv.ap; have g5 := hv.aq; have g6 := hv.pq; have g7 := hv.n1
  have hk8 : k = 0 ∨ k = 1 ∨ k = 2 ∨ k = 3 := by omega
  rcases hk8 with rfl | rfl | rfl | rfl
  · exact ⟨(a : Int), (p : Int), (q : Int), by simp only [fo] <;> omega, by simp only [fr] <;> omega, by simp only [fc] <;> omega, rfl, rfl, rfl⟩
  · exact ⟨(p : Int) - (a : Int), (p : Int), (n : Int) - (q : Int), by simp only [fo] <;> omega, by simp only [fr] <;> omega, by simp only [fc] <;> omega, rfl, rfl, rfl⟩
  · exact ⟨(q : Int) - (a : Int), (n : Int) - (p : Int), (q : Int), by simp only [fo] <;> omega, by simp only [fr] <;> omega, by simp only [fc] <;> omega, rfl, rfl, rfl⟩
  · exact ⟨(n : Int) - (p : Int) - (q : Int) + (a : Int), (n : Int) - (p : Int), (n : Int) - (q : Int), by simp only [fo] <;> omega, by simp only [fr] <;> omega, by simp only [fc] <;> omega, rfl, rfl, rfl⟩
theorem llr_core {a p q n k : Nat} (nq : Bool) (sq tq : ByteArray) (nf : Nat → Bool) (sf tf : Nat → ByteArray) (ng : Nat → Bool) (sg tg : Nat → ByteArray) (hv : VC a p q n) (hk : k ≤ 8) (hm : RetV 39 #[.int .i64 0, .int .i64 1] (.tuple #[.agg #[.bool nq, .string sq, .string tq], .int .i64 0])) (hx : RetV 50 #[.agg #[.bool nq, .string sq, .string tq]] (.tuple #[.agg #[.bool (nf 0), .string (sf 0), .string (tf 0), .bool (ng 0), .string (sg 0), .string (tg 0)], .int .i64 0]))
    (hs : ∀ k' : Nat, k' < 4 → ∀ O : Int, O = ((fo a p q n k' : Nat) : Int) → RStep (fo a p q n k') (fr p n k') (fc q n k') n k O nf sf tf ng sg tg k')
    (w : World) :
    Calls Tryz.prog 25 #[.agg #[.int .i64 (a : Int), .int .i64 (p : Int), .int .i64 (q : Int), .int .i64 (n : Int)], .int .i64 (k : Int)] w fun e w' => e = .returned (.tuple #[.agg #[.bool (nf 4), .string (sf 4), .string (tf 4), .bool (ng 4), .string (sg 4), .string (tg 4)], .int .i64 0]) ∧ Below w.heap.size w w' := by
  have HV := Lib.hid hv; have HK := Lib.hid hk; have HMZ := Lib.hid hm; have HEX := Lib.hid hx; have HS := Lib.hid hs; clear hv hk hm hx hs; obtain ⟨o_c, o_r, hbw⟩ := new2 w [.int .i64 (a : Int), .int .i64 (p : Int), .int .i64 (q : Int), .int .i64 (n : Int)] [.bool false, .string ⟨#[]⟩, .string ⟨#[]⟩, .bool false, .string ⟨#[]⟩, .string ⟨#[]⟩] 23 33
  go_enter Tryz.func25, Tryz.ntmps25
  go_upto_region 1 with (fail)
  generalize ((w.alloc (.cells #[.int .i64 (a : Int), .int .i64 (p : Int), .int .i64 (q : Int), .int .i64 (n : Int)] 23)).alloc (.cells #[.bool false, .string ⟨#[]⟩, .string ⟨#[]⟩, .bool false, .string ⟨#[]⟩, .string ⟨#[]⟩] 33)) = wb at o_c o_r hbw ⊢; obtain ⟨qc_0, qc_1, qc_2, qc_3⟩ := o_c.cells4
  go_wp2_with fail
  clear qc_0 qc_1 qc_2 qc_3; refine (may_ref HV.out HK.out _).mono ?_; rintro e w1 ⟨rfl, hb1⟩; replace o_c := o_c.below hb1 o_c.lt; replace o_r := o_r.below hb1 o_r.lt; replace hbw := below6 hbw hb1; clear hb1
  go_wp2_with fail
  refine (HMZ.out _).mono ?_; rintro e w2 ⟨rfl, hb2⟩; replace o_c := o_c.below hb2 o_c.lt; replace o_r := o_r.below hb2 o_r.lt; replace hbw := below6 hbw hb2; clear hb2; obtain ⟨o_z, hz3⟩ := new1 w2 [.bool nq, .string sq, .string tq] 27; replace o_c := o_c.alloc (.cells #[.bool nq, .string sq, .string tq] 27); replace o_r := o_r.alloc (.cells #[.bool nq, .string sq, .string tq] 27); replace hbw := below6 hbw hz3; clear hz3
  go_upto_region 5 with (fail)
  generalize (w2.alloc (.cells #[.bool nq, .string sq, .string tq] 27)) = wa4 at o_c o_r o_z hbw ⊢; generalize w2.heap.size = g4 at o_z ⊢; obtain ⟨qz_0, qz_1, qz_2⟩ := o_z.cells3
  go_wp2_with fail
  clear qz_0 qz_1 qz_2; refine (HEX.out _).mono ?_; rintro e w5 ⟨rfl, hb5⟩; replace o_c := o_c.below hb5 o_c.lt; replace o_r := o_r.below hb5 o_r.lt; replace o_z := o_z.below hb5 o_z.lt; replace hbw := below6 hbw hb5; clear hb5; have lt_c := o_c.lt; have lt_r := o_r.lt; have lt_z := o_z.lt; have hs_s := hbw.size; obtain ⟨o_s, hz6⟩ := new1 w5 [.bool (nf 0), .string (sf 0), .string (tf 0), .bool (ng 0), .string (sg 0), .string (tg 0)] 33; replace o_c := o_c.alloc (.cells #[.bool (nf 0), .string (sf 0), .string (tf 0), .bool (ng 0), .string (sg 0), .string (tg 0)] 33); replace o_r := o_r.alloc (.cells #[.bool (nf 0), .string (sf 0), .string (tf 0), .bool (ng 0), .string (sg 0), .string (tg 0)] 33); replace o_z := o_z.alloc (.cells #[.bool (nf 0), .string (sf 0), .string (tf 0), .bool (ng 0), .string (sg 0), .string (tg 0)] 33); replace hbw := below6 hbw hz6; clear hz6
  go_upto_region 6 with (fail)
  generalize (w5.alloc (.cells #[.bool (nf 0), .string (sf 0), .string (tf 0), .bool (ng 0), .string (sg 0), .string (tg 0)] 33)) = wa7 at o_c o_r o_z o_s hbw ⊢; generalize w5.heap.size = g7 at o_s hs_s lt_c lt_r lt_z ⊢; clear o_z; have nes_c : w.heap.size ≠ g7 := by omega
  have nes_r : w.heap.size + 1 ≠ g7 := by omega
  clear lt_c lt_r lt_z; have ltS := o_s.lt; obtain ⟨qc_0, qc_1, qc_2, qc_3⟩ := o_c.cells4
  go_wp2_with fail
  clear qc_0 qc_1 qc_2 qc_3; refine (fields_ref HV.out _).mono ?_; rintro e w8 ⟨bo, br, rfl, o_o, o_w, hgo, hgw, hb8⟩; replace o_c := o_c.below hb8 o_c.lt; replace o_r := o_r.below hb8 o_r.lt; replace o_s := o_s.below hb8 o_s.lt; replace hbw := below6 hbw hb8; clear hb8; have nes_o : bo ≠ g7 := by omega
  have nes_w : br ≠ g7 := by omega
  clear hgo hgw ltS
  go_upto_region 8 with (fail)
  go_loopg [44] 4 (fun qn v44 wr => ∃ k : Nat, qn = 4 - k ∧ k ≤ 4 ∧ v44 = .int .i64 (k : Int) ∧ Own wr (w.heap.size) 23 [.int .i64 (a : Int), .int .i64 (p : Int), .int .i64 (q : Int), .int .i64 (n : Int)] ∧ Own wr (w.heap.size + 1) 33 [.bool false, .string ⟨#[]⟩, .string ⟨#[]⟩, .bool false, .string ⟨#[]⟩, .string ⟨#[]⟩] ∧ Own wr (bo) 3 [.int .i64 ((a : Int)), .int .i64 ((p : Int) - (a : Int)), .int .i64 ((q : Int) - (a : Int)), .int .i64 ((n : Int) - (p : Int) - (q : Int) + (a : Int))] ∧ Own wr (br) 54 [.int .i64 ((p : Int)), .int .i64 ((q : Int)), .int .i64 ((p : Int)), .int .i64 ((n : Int) - (q : Int)), .int .i64 ((n : Int) - (p : Int)), .int .i64 ((q : Int)), .int .i64 ((n : Int) - (p : Int)), .int .i64 ((n : Int) - (q : Int))] ∧ Own wr (g7) 33 [.bool (nf k), .string (sf k), .string (tf k), .bool (ng k), .string (sg k), .string (tg k)] ∧ Below w.heap.size w wr)
  case atStart => exact ⟨0, rfl, by decide, rfl, o_c, o_r, o_o, o_w, o_s, hbw⟩
  case round =>
    clear o_c o_r o_o o_w o_s hbw; obtain ⟨k, hq, hk9, rfl, o_c, o_r, o_o, o_w, o_s, hbw⟩ := hrel; have HQ := Lib.hid hq; clear hq
    by_cases hk4 : k < 4
    · obtain ⟨O, R, C, hO, hR, hC, hOO, hAR, hBC⟩ := re_idx HV.out k hk4; have hcO : wr.cell? ⟨bo, k, none⟩ = some (.int .i64 O) := (o_o.cell k).trans hOO; have hA : wr.cell? ⟨br, k * 2, none⟩ = some (.int .i64 R) := (o_w.cell (k * 2)).trans hAR; have hB : wr.cell? ⟨br, k * 2 + 1, none⟩ = some (.int .i64 C) := (o_w.cell (k * 2 + 1)).trans hBC; have hS := HS.out k hk4 O hO; obtain ⟨fO, hfO⟩ : ∃ x, x = fo a p q n k := ⟨_, rfl⟩; obtain ⟨fR, hfR⟩ : ∃ x, x = fr p n k := ⟨_, rfl⟩; obtain ⟨fC, hfC⟩ : ∃ x, x = fc q n k := ⟨_, rfl⟩; rw [← hfO, ← hfR, ← hfC] at hS; rw [← hfO] at hO; rw [← hfR] at hR; rw [← hfC] at hC; have HO : Hid (O = (fO : Int) ∧ R = (fR : Int) ∧ C = (fC : Int) ∧ fO ≤ 4294967296 ∧ fR ≤ 4294967296 ∧ fC ≤ 4294967296 ∧ n ≤ 4294967296) := by
        have h9 := HV.out.fo_le k; rw [← hfO, ← hfR, ← hfC] at h9; exact Lib.hid ⟨hO, hR, hC, by omega, by omega, by omega, by omega⟩
      have hkI : (k : Int) < 4 := by omega
      clear hOO hAR hBC hO hR hC hfO hfR hfC
      rcases hS with ⟨h0, e1, e2, e3, e4, e5, e6⟩ | ⟨h0, nx, sx, tx, ny, sy, ty, nz, sz, tz, nh, sh, th, nu, su, tu, nv, sv, tv, HEND, HBI, HWH, HSC, HAD⟩
      · skip
        have ho : O = 0 := by have := HO.out; omega
        have o1 : (O == 0) = true := beq_iff_eq.2 ho; have o2 : decide (O = 0) = true := decide_eq_true ho; clear ho h0 hA hB
        go_wp2_with fail
        go_roundg (3 - k)
        case measure => have := HQ.out; omega
        case rel => exact ⟨k + 1, by omega, by omega, by go_num, o_c, o_r, o_o, o_w, by rw [e1, e2, e3, e4, e5, e6]; exact o_s, hbw⟩
      · skip
        have ho : 0 < O := by have := HO.out; omega
        have o1 : (O == 0) = false := beq_eq_false_iff_ne.2 (by omega); have o2 : decide (O = 0) = false := decide_eq_false (by omega); clear ho h0; replace HEND := Lib.hid HEND; replace HBI := Lib.hid HBI; replace HWH := Lib.hid HWH; replace HSC := Lib.hid HSC; replace HAD := Lib.hid HAD; have y3 : IntKind.i64.wrap (2 * O) = 2 * O := IntWalk.i64_in _ (by have := HO.out; omega)
        go_upto_region 11 with (fail)
        have E1 : Hid ([O, (n : Int)] = [fO, n].map fun (x : Nat) => (x : Int)) := by
          have := HO.out; exact Lib.hid (by simp <;> omega)
        have M1 : Hid (Smalls [fO, n]) := by
          have := HO.out; exact Lib.hid ⟨by simp, by simp <;> omega⟩
        have E2 : Hid ([R, C] = [fR, fC].map fun (x : Nat) => (x : Int)) := by
          have := HO.out; exact Lib.hid (by simp <;> omega)
        have M2 : Hid (Smalls [fR, fC]) := by
          have := HO.out; exact Lib.hid ⟨by simp, by simp <;> omega⟩
        obtain ⟨qc_0, qc_1, qc_2, qc_3⟩ := o_c.cells4; refine wp_reg_st [some 52, some 53, some 54, some 55, some 56, some 57, some 58, some 59, some 60, some 61, some 62, some 63, some 64, some 65, some 66, some 67, some 51, some 68, some 69, some 15, none, some 16] [isV ?v1_0, isV ?v1_1, isV ?v1_2, (fun v w' => ∃ b5, v = .slice (some ⟨b5, 0, none⟩) 2 2 ∧ Own w' b5 3 [.int .i64 (O), .int .i64 ((n : Int))]), isV ?v1_4, isV ?v1_5, isV ?v1_6, isV ?v1_7, isV ?v1_8, isV ?v1_9, isV ?v1_10, isV ?v1_11, isV ?v1_12, isV ?v1_13, (fun v w' => ∃ b5, v = .slice (some ⟨b5, 0, none⟩) 2 2 ∧ Own w' b5 3 [.int .i64 (R), .int .i64 (C)]), isV (.tuple #[.agg #[.bool nx, .string sx, .string tx], .int .i64 0]), isV ?v1_16, isV ?v1_17, isV ?v1_18, (fun v w' => ∃ b5, v = .pointer (some ⟨b5, 0, none⟩) ∧ wr.heap.size ≤ b5 ∧ Own w' b5 27 [.bool false, .string ⟨#[]⟩, .string ⟨#[]⟩]), fun _ _ => False, fun _ _ => False] [anyV, anyV, anyV, anyV, anyV, anyV, anyV, anyV, anyV, anyV, anyV, anyV, anyV, anyV, anyV, anyV, anyV, anyV, isV ?v1_18, anyV, anyV, isV ?w1_21] 20 [0, 1, 2, 3, 4, 5, 6, 7, 8, 9, 10, 11, 12, 13, 14, 15, 16, 17, 19] (fun u w' => ∃ b5, u 19 = .pointer (some ⟨b5, 0, none⟩) ∧ Own w' b5 27 [.bool nx, .string sx, .string tx] ∧ Below wr.heap.size wr w') rfl (by kernel_rfl) rfl rfl (by decide) (by kernel_rfl) (by kernel_rfl) (by rintro u u' w9 h ⟨b5, e, hrest⟩; exact ⟨b5, (h 19 (by decide) rfl).symm.trans e, hrest⟩) ?k1 ?m1 ⟨?s1_0, ?s1_1, ?s1_2, ?s1_3, ?s1_4, ?s1_5, ?s1_6, ?s1_7, ?s1_8, ?s1_9, ?s1_10, ?s1_11, ?s1_12, ?s1_13, ?s1_14, ?s1_15, ?s1_16, ?s1_17, ?s1_18, ?s1_19, ?s1_20, ?s1_21, trivial⟩ ?p1
        case s1_0 =>
          rw [if_neg (by decide)]
          constructor
          · rw [if_neg (by decide)]; intro t9 w9 hT9 hV9 hO9 K9 hK9; have o9_14 := hO9 14 _ (.inl (show List.contains _ _ = false from by kernel_rfl)) rfl; clear hV9 hO9; go_simp
            (refine hK9 _ _ (Grow.refl _) ?_; exact rfl)
          · rw [if_pos (by decide)]; trivial
        case s1_1 =>
          rw [if_neg (by decide)]
          constructor
          · rw [if_neg (by decide)]; intro t9 w9 hT9 hV9 hO9 K9 hK9; have o9_2 := hO9 2 _ (.inl (show List.contains _ _ = false from by kernel_rfl)) rfl; clear hV9 hO9; go_simp
            (refine hK9 _ _ (Grow.refl _) ?_; exact rfl)
          · rw [if_pos (by decide)]; trivial
        case s1_2 =>
          rw [if_neg (by decide)]
          constructor
          · rw [if_neg (by decide)]; intro t9 w9 hT9 hV9 hO9 K9 hK9; obtain ⟨x9_1, p9_1, q9_1⟩ := hV9.g 1 53 rfl rfl (by kernel_rfl); obtain rfl : x9_1 = ?v1_1 := q9_1; clear hV9 hO9; have d9_0 := grow_cell hT9 qc_0; have d9_1 := grow_cell hT9 qc_1; have d9_2 := grow_cell hT9 qc_2; have d9_3 := grow_cell hT9 qc_3; have d9_4 := grow_cell hT9 hA; have d9_5 := grow_cell hT9 hB; go_simp
            (refine hK9 _ _ (Grow.refl _) ?_; exact rfl)
          · rw [if_pos (by decide)]; trivial
        case s1_3 =>
          rw [if_neg (by decide)]
          constructor
          · rw [if_neg (by decide)]; intro t9 w9 hT9 hV9 hO9 K9 hK9; obtain ⟨x9_0, p9_0, q9_0⟩ := hV9.g 0 52 rfl rfl (by kernel_rfl); obtain rfl : x9_0 = ?v1_0 := q9_0; obtain ⟨x9_2, p9_2, q9_2⟩ := hV9.g 2 54 rfl rfl (by kernel_rfl); obtain rfl : x9_2 = ?v1_2 := q9_2; clear hV9 hO9; go_simp; have g8 := (Grow.refl w9).al (.cells #[.int .i64 (O), .int .i64 ((n : Int))] 3); exact hK9 _ _ g8 ⟨_, rfl, Own.new _ _ [_, _]⟩
          · rw [if_pos (by decide)]; trivial
        case s1_4 =>
          rw [if_neg (by decide)]
          constructor
          · rw [if_neg (by decide)]; intro t9 w9 hT9 hV9 hO9 K9 hK9; have o9_12 := hO9 12 _ (.inl (show List.contains _ _ = false from by kernel_rfl)) rfl; clear hV9 hO9; go_simp
            (refine hK9 _ _ (Grow.refl _) ?_; exact rfl)
          · rw [if_pos (by decide)]; trivial
        case s1_5 =>
          rw [if_neg (by decide)]
          constructor
          · rw [if_neg (by decide)]; intro t9 w9 hT9 hV9 hO9 K9 hK9; have o9_13 := hO9 13 _ (.inl (show List.contains _ _ = false from by kernel_rfl)) rfl; clear hV9 hO9; go_simp
            (refine hK9 _ _ (Grow.refl _) ?_; exact rfl)
          · rw [if_pos (by decide)]; trivial
        case s1_6 =>
          rw [if_neg (by decide)]
          constructor
          · rw [if_neg (by decide)]; intro t9 w9 hT9 hV9 hO9 K9 hK9; obtain ⟨x9_4, p9_4, q9_4⟩ := hV9.g 4 56 rfl rfl (by kernel_rfl); obtain rfl : x9_4 = ?v1_4 := q9_4; obtain ⟨x9_5, p9_5, q9_5⟩ := hV9.g 5 57 rfl rfl (by kernel_rfl); obtain rfl : x9_5 = ?v1_5 := q9_5; clear hV9 hO9; go_simp
            (refine hK9 _ _ (Grow.refl _) ?_; exact rfl)
          · rw [if_pos (by decide)]; trivial
        case s1_7 =>
          rw [if_neg (by decide)]
          constructor
          · rw [if_neg (by decide)]; intro t9 w9 hT9 hV9 hO9 K9 hK9; obtain ⟨x9_6, p9_6, q9_6⟩ := hV9.g 6 58 rfl rfl (by kernel_rfl); obtain rfl : x9_6 = ?v1_6 := q9_6; clear hV9 hO9; go_simp
            (refine hK9 _ _ (Grow.refl _) ?_; exact rfl)
          · rw [if_pos (by decide)]; trivial
        case s1_8 =>
          rw [if_neg (by decide)]
          constructor
          · rw [if_neg (by decide)]; intro t9 w9 hT9 hV9 hO9 K9 hK9; obtain ⟨x9_7, p9_7, q9_7⟩ := hV9.g 7 59 rfl rfl (by kernel_rfl); obtain rfl : x9_7 = ?v1_7 := q9_7; clear hV9 hO9; have d9_0 := grow_cell hT9 qc_0; have d9_1 := grow_cell hT9 qc_1; have d9_2 := grow_cell hT9 qc_2; have d9_3 := grow_cell hT9 qc_3; have d9_4 := grow_cell hT9 hA; have d9_5 := grow_cell hT9 hB; go_simp
            (refine hK9 _ _ (Grow.refl _) ?_; exact rfl)
          · rw [if_pos (by decide)]; trivial
        case s1_9 =>
          rw [if_neg (by decide)]
          constructor
          · rw [if_neg (by decide)]; intro t9 w9 hT9 hV9 hO9 K9 hK9; have o9_12 := hO9 12 _ (.inl (show List.contains _ _ = false from by kernel_rfl)) rfl; clear hV9 hO9; go_simp
            (refine hK9 _ _ (Grow.refl _) ?_; exact rfl)
          · rw [if_pos (by decide)]; trivial
        case s1_10 =>
          rw [if_neg (by decide)]
          constructor
          · rw [if_neg (by decide)]; intro t9 w9 hT9 hV9 hO9 K9 hK9; have o9_13 := hO9 13 _ (.inl (show List.contains _ _ = false from by kernel_rfl)) rfl; clear hV9 hO9; go_simp
            (refine hK9 _ _ (Grow.refl _) ?_; exact rfl)
          · rw [if_pos (by decide)]; trivial
        case s1_11 =>
          rw [if_neg (by decide)]
          constructor
          · rw [if_neg (by decide)]; intro t9 w9 hT9 hV9 hO9 K9 hK9; obtain ⟨x9_9, p9_9, q9_9⟩ := hV9.g 9 61 rfl rfl (by kernel_rfl); obtain rfl : x9_9 = ?v1_9 := q9_9; obtain ⟨x9_10, p9_10, q9_10⟩ := hV9.g 10 62 rfl rfl (by kernel_rfl); obtain rfl : x9_10 = ?v1_10 := q9_10; clear hV9 hO9; go_simp
            (refine hK9 _ _ (Grow.refl _) ?_; exact rfl)
          · rw [if_pos (by decide)]; trivial
        case s1_12 =>
          rw [if_neg (by decide)]
          constructor
          · rw [if_neg (by decide)]; intro t9 w9 hT9 hV9 hO9 K9 hK9; obtain ⟨x9_11, p9_11, q9_11⟩ := hV9.g 11 63 rfl rfl (by kernel_rfl); obtain rfl : x9_11 = ?v1_11 := q9_11; clear hV9 hO9; go_simp
            (refine hK9 _ _ (Grow.refl _) ?_; exact rfl)
          · rw [if_pos (by decide)]; trivial
        case s1_13 =>
          rw [if_neg (by decide)]
          constructor
          · rw [if_neg (by decide)]; intro t9 w9 hT9 hV9 hO9 K9 hK9; obtain ⟨x9_12, p9_12, q9_12⟩ := hV9.g 12 64 rfl rfl (by kernel_rfl); obtain rfl : x9_12 = ?v1_12 := q9_12; clear hV9 hO9; have d9_0 := grow_cell hT9 qc_0; have d9_1 := grow_cell hT9 qc_1; have d9_2 := grow_cell hT9 qc_2; have d9_3 := grow_cell hT9 qc_3; have d9_4 := grow_cell hT9 hA; have d9_5 := grow_cell hT9 hB; go_simp
            (refine hK9 _ _ (Grow.refl _) ?_; exact rfl)
          · rw [if_pos (by decide)]; trivial
        case s1_14 =>
          rw [if_neg (by decide)]
          constructor
          · rw [if_neg (by decide)]; intro t9 w9 hT9 hV9 hO9 K9 hK9; obtain ⟨x9_8, p9_8, q9_8⟩ := hV9.g 8 60 rfl rfl (by kernel_rfl); obtain rfl : x9_8 = ?v1_8 := q9_8; obtain ⟨x9_13, p9_13, q9_13⟩ := hV9.g 13 65 rfl rfl (by kernel_rfl); obtain rfl : x9_13 = ?v1_13 := q9_13; clear hV9 hO9; go_simp; have g8 := (Grow.refl w9).al (.cells #[.int .i64 (R), .int .i64 (C)] 3); exact hK9 _ _ g8 ⟨_, rfl, Own.new _ _ [_, _]⟩
          · rw [if_pos (by decide)]; trivial
        case s1_15 =>
          rw [if_neg (by decide)]
          constructor
          · rw [if_neg (by decide)]; intro t9 w9 hT9 hV9 hO9 K9 hK9; obtain ⟨x9_3, p9_3, q9_3⟩ := hV9.g 3 55 rfl rfl (by kernel_rfl); replace q9_3 : ((fun v w' => ∃ b5, v = .slice (some ⟨b5, 0, none⟩) 2 2 ∧ Own w' b5 3 [.int .i64 (O), .int .i64 ((n : Int))])) x9_3 _ := q9_3; obtain ⟨x9_14, p9_14, q9_14⟩ := hV9.g 14 66 rfl rfl (by kernel_rfl); replace q9_14 : ((fun v w' => ∃ b5, v = .slice (some ⟨b5, 0, none⟩) 2 2 ∧ Own w' b5 3 [.int .i64 (R), .int .i64 (C)])) x9_14 _ := q9_14; clear hV9 hO9; obtain ⟨b4, hx4, ho4⟩ := q9_3; subst hx4; obtain ⟨b3, hx3, ho3⟩ := q9_14; subst hx3; have HR4 := Lib.hid ho4.rd0; have HR3 := Lib.hid ho3.rd0; go_simp; refine (of38_ref (some ⟨b4, 0, none⟩) [O, (n : Int)] [fO, n] 2 (some ⟨b3, 0, none⟩) [R, C] [fR, fC] 2 _ HR4.out E1.out (by simp) (by decide) M1.out HR3.out E2.out (by simp) (by decide) M2.out).mono ?_; rintro e w8 ⟨hq, hb8⟩; have he := HEND.out _ hq; subst he
            exact hK9 _ _ hb8 rfl
          · rw [if_pos (by decide)]; trivial
        case s1_16 =>
          rw [if_neg (by decide)]
          constructor
          · rw [if_neg (by decide)]; intro t9 w9 hT9 hV9 hO9 K9 hK9; obtain ⟨x9_15, p9_15, q9_15⟩ := hV9.g 15 67 rfl rfl (by kernel_rfl); obtain rfl : x9_15 = (.tuple #[.agg #[.bool nx, .string sx, .string tx], .int .i64 0]) := q9_15; clear hV9 hO9; go_simp
            (refine hK9 _ _ (Grow.refl _) ?_; exact rfl)
          · rw [if_pos (by decide)]; trivial
        case s1_17 =>
          rw [if_neg (by decide)]
          constructor
          · rw [if_neg (by decide)]; intro t9 w9 hT9 hV9 hO9 K9 hK9; obtain ⟨x9_16, p9_16, q9_16⟩ := hV9.g 16 51 rfl rfl (by kernel_rfl); obtain rfl : x9_16 = ?v1_16 := q9_16; clear hV9 hO9; go_simp
            (refine hK9 _ _ (Grow.refl _) ?_; exact rfl)
          · rw [if_pos (by decide)]; trivial
        case s1_18 =>
          rw [if_neg (by decide)]
          constructor
          · rw [if_neg (by decide)]; intro t9 w9 hT9 hV9 hO9 K9 hK9; obtain ⟨x9_16, p9_16, q9_16⟩ := hV9.g 16 51 rfl rfl (by kernel_rfl); obtain rfl : x9_16 = ?v1_16 := q9_16; clear hV9 hO9; go_simp
            (refine hK9 _ _ (Grow.refl _) ?_; exact rfl)
          · rw [if_neg (by decide)]; intro t9 w9 hV9 hO9 K9 hK9; obtain ⟨x9_16, p9_16, q9_16⟩ := hV9.g 16 51 rfl rfl (by kernel_rfl); obtain ⟨_, q9_16⟩ := q9_16.pre (by decide); obtain rfl : x9_16 = ?v1_16 := q9_16; clear hV9 hO9; go_simp
            (refine hK9 _ ?_; exact rfl)
        case s1_19 =>
          rw [if_neg (by decide)]
          constructor
          · rw [if_neg (by decide)]; intro t9 w9 hT9 hV9 hO9 K9 hK9; clear hV9 hO9; go_simp; have g8 := (Grow.refl w9).al (.cells #[.bool false, .string ⟨#[]⟩, .string ⟨#[]⟩] 27); exact hK9 _ _ g8 ⟨_, rfl, hT9.below.size, Own.new _ _ [_, _, _]⟩
          · rw [if_pos (by decide)]; trivial
        case s1_20 =>
          rw [if_pos (by decide)]; intro t9 w9 hT9 hV9 hO9 K9 hK9; obtain ⟨x9_17, p9_17, q9_17⟩ := hV9.g 17 68 (by decide) rfl (by kernel_rfl); obtain rfl : x9_17 = ?v1_17 := q9_17; obtain ⟨x9_19, p9_19, q9_19⟩ := hV9.g 19 15 (by decide) rfl (by kernel_rfl); replace q9_19 : ((fun v w' => ∃ b5, v = .pointer (some ⟨b5, 0, none⟩) ∧ wr.heap.size ≤ b5 ∧ Own w' b5 27 [.bool false, .string ⟨#[]⟩, .string ⟨#[]⟩])) x9_19 _ := q9_19; clear hV9 hO9; obtain ⟨b5, hx5, hb5, hg⟩ := q9_19; subst hx5; obtain ⟨hg0, hg1, hg2⟩ := hg.cells3; obtain ⟨hf0, hf1, hf2⟩ := hg.frozens3; have HE := Lib.hid (⟨b5, fval_of p9_19 rfl, hg.set3 (.bool nx) (.string sx) (.string tx), Below.set3 hT9.below hb5 (.bool nx) (.string sx) (.string tx)⟩ : (fun u w' => ∃ b5, u 19 = .pointer (some ⟨b5, 0, none⟩) ∧ Own w' b5 27 [.bool nx, .string sx, .string tx] ∧ Below wr.heap.size wr w') (fval [some 52, some 53, some 54, some 55, some 56, some 57, some 58, some 59, some 60, some 61, some 62, some 63, some 64, some 65, some 66, some 67, some 51, some 68, some 69, some 15, none, some 16] t9) (((w9.setCell ⟨b5, 0, none⟩ (.bool nx)).setCell ⟨b5, 1, none⟩ (.string sx)).setCell ⟨b5, 2, none⟩ (.string tx)))
          go_simp; exact hK9 undef _ HE.out trivial
        case s1_21 =>
          rw [if_neg (by decide)]
          constructor
          · rw [if_pos (by rfl)]; trivial
          · rw [if_neg (by decide)]; intro t9 w9 hV9 hO9 K9 hK9; obtain ⟨x9_18, p9_18, q9_18⟩ := hV9.g 18 69 rfl rfl (by kernel_rfl); have q9_18 := q9_18.late (by decide); obtain rfl : x9_18 = ?v1_18 := q9_18; clear hV9 hO9; go_simp
            (refine hK9 _ ?_; exact rfl)
        case k1 =>
          intro i9 v9 w9 x9 h9 g9
          match i9, h9 with
          | 0, h9 => exact h9
          | 1, h9 => exact h9
          | 2, h9 => exact h9
          | 3, h9 => (replace h9 : (fun v w' => ∃ b5, v = .slice (some ⟨b5, 0, none⟩) 2 2 ∧ Own w' b5 3 [.int .i64 (O), .int .i64 ((n : Int))]) v9 w9 := h9); obtain ⟨b5, rfl, h8⟩ := h9; exact ⟨b5, rfl, h8.below g9 h8.lt⟩
          | 4, h9 => exact h9
          | 5, h9 => exact h9
          | 6, h9 => exact h9
          | 7, h9 => exact h9
          | 8, h9 => exact h9
          | 9, h9 => exact h9
          | 10, h9 => exact h9
          | 11, h9 => exact h9
          | 12, h9 => exact h9
          | 13, h9 => exact h9
          | 14, h9 => (replace h9 : (fun v w' => ∃ b5, v = .slice (some ⟨b5, 0, none⟩) 2 2 ∧ Own w' b5 3 [.int .i64 (R), .int .i64 (C)]) v9 w9 := h9); obtain ⟨b5, rfl, h8⟩ := h9; exact ⟨b5, rfl, h8.below g9 h8.lt⟩
          | 15, h9 => exact h9
          | 16, h9 => exact h9
          | 17, h9 => exact h9
          | 18, h9 => exact h9
          | 19, h9 => (replace h9 : (fun v w' => ∃ b5, v = .pointer (some ⟨b5, 0, none⟩) ∧ wr.heap.size ≤ b5 ∧ Own w' b5 27 [.bool false, .string ⟨#[]⟩, .string ⟨#[]⟩]) v9 w9 := h9); obtain ⟨b5, rfl, h7, h8⟩ := h9; exact ⟨b5, rfl, h7, h8.below g9 h8.lt⟩
          | 20, h9 => exact h9
          | 21, h9 => exact h9
          | _ + 22, h9 => exact trivial
        case m1 =>
          intro i9 v9 w9 x9 a s h
          match i9, a, s, h with
          | 0, a, _, _ => exact absurd (by decide) a
          | 1, a, _, _ => exact absurd (by decide) a
          | 2, a, _, _ => exact absurd (by decide) a
          | 3, a, _, _ => exact absurd (by decide) a
          | 4, a, _, _ => exact absurd (by decide) a
          | 5, a, _, _ => exact absurd (by decide) a
          | 6, a, _, _ => exact absurd (by decide) a
          | 7, a, _, _ => exact absurd (by decide) a
          | 8, a, _, _ => exact absurd (by decide) a
          | 9, a, _, _ => exact absurd (by decide) a
          | 10, a, _, _ => exact absurd (by decide) a
          | 11, a, _, _ => exact absurd (by decide) a
          | 12, a, _, _ => exact absurd (by decide) a
          | 13, a, _, _ => exact absurd (by decide) a
          | 14, a, _, _ => exact absurd (by decide) a
          | 15, a, _, _ => exact absurd (by decide) a
          | 16, a, _, _ => exact absurd (by decide) a
          | 17, a, _, _ => exact absurd (by decide) a
          | 18, _, _, h => exact h
          | 19, a, _, _ => exact absurd (by decide) a
          | 20, _, s, _ => exact absurd rfl s
          | 21, _, _, h => exact False.elim h
          | _ + 22, _, _, _ => exact trivial
        intro u9 w9 hE9 hu9; obtain ⟨_, r9_0⟩ := (hu9 0 (by decide)).pre (by decide); replace r9_0 : u9 0 = ?v1_0 := r9_0; obtain ⟨_, r9_1⟩ := (hu9 1 (by decide)).pre (by decide); replace r9_1 : u9 1 = ?v1_1 := r9_1; obtain ⟨_, r9_2⟩ := (hu9 2 (by decide)).pre (by decide); replace r9_2 : u9 2 = ?v1_2 := r9_2; obtain ⟨_, r9_4⟩ := (hu9 4 (by decide)).pre (by decide); replace r9_4 : u9 4 = ?v1_4 := r9_4; obtain ⟨_, r9_5⟩ := (hu9 5 (by decide)).pre (by decide); replace r9_5 : u9 5 = ?v1_5 := r9_5; obtain ⟨_, r9_6⟩ := (hu9 6 (by decide)).pre (by decide); replace r9_6 : u9 6 = ?v1_6 := r9_6; obtain ⟨_, r9_7⟩ := (hu9 7 (by decide)).pre (by decide); replace r9_7 : u9 7 = ?v1_7 := r9_7; obtain ⟨_, r9_8⟩ := (hu9 8 (by decide)).pre (by decide); replace r9_8 : u9 8 = ?v1_8 := r9_8; obtain ⟨_, r9_9⟩ := (hu9 9 (by decide)).pre (by decide); replace r9_9 : u9 9 = ?v1_9 := r9_9; obtain ⟨_, r9_10⟩ := (hu9 10 (by decide)).pre (by decide)
        replace r9_10 : u9 10 = ?v1_10 := r9_10; obtain ⟨_, r9_11⟩ := (hu9 11 (by decide)).pre (by decide); replace r9_11 : u9 11 = ?v1_11 := r9_11; obtain ⟨_, r9_12⟩ := (hu9 12 (by decide)).pre (by decide); replace r9_12 : u9 12 = ?v1_12 := r9_12; obtain ⟨_, r9_13⟩ := (hu9 13 (by decide)).pre (by decide); replace r9_13 : u9 13 = ?v1_13 := r9_13; obtain ⟨_, r9_15⟩ := (hu9 15 (by decide)).pre (by decide); replace r9_15 : u9 15 = (.tuple #[.agg #[.bool nx, .string sx, .string tx], .int .i64 0]) := r9_15; obtain ⟨_, r9_16⟩ := (hu9 16 (by decide)).pre (by decide); replace r9_16 : u9 16 = ?v1_16 := r9_16; obtain ⟨_, r9_17⟩ := (hu9 17 (by decide)).pre (by decide); replace r9_17 : u9 17 = ?v1_17 := r9_17; have r9_18 : u9 18 = ?v1_18 := (hu9 18 (by decide)).late (by decide); have r9_21 : u9 21 = ?w1_21 := (hu9 21 (by decide)).late (by decide); clear hu9; obtain ⟨gx, hu18, o_x, hbE⟩ := hE9
        simp only [putAll, Act.put, List.setIfInBounds_toArray, List.set_cons_succ, List.set_cons_zero, List.getD_cons_succ, List.getD_cons_zero, Nat.reduceAdd, Nat.zero_add]
        simp only [r9_0, r9_1, r9_2, r9_4, r9_5, r9_6, r9_7, r9_8, r9_9, r9_10, r9_11, r9_12, r9_13, r9_15, r9_16, r9_17, r9_18, r9_21]
        clear r9_0 r9_1 r9_2 r9_4 r9_5 r9_6 r9_7 r9_8 r9_9 r9_10 r9_11 r9_12 r9_13 r9_15 r9_16 r9_17 r9_18 r9_21; rw [hu18]; clear hu18 qc_0 qc_1 qc_2 qc_3 hA hB; replace o_c := o_c.below hbE o_c.lt; replace o_r := o_r.below hbE o_r.lt; replace o_o := o_o.below hbE o_o.lt; replace o_w := o_w.below hbE o_w.lt; replace o_s := o_s.below hbE o_s.lt; replace hbw := below6 hbw hbE; clear hbE; obtain ⟨wq8, hwq8⟩ : ∃ x : World, x = w9 := ⟨_, rfl⟩; rw [← hwq8] at o_c o_r o_o o_w o_s o_x hbw ⊢; clear hwq8 w9
        go_upto_region 12 with (fail)
        obtain ⟨qx_0, qx_1, qx_2⟩ := o_x.cells3
        go_wp2_with fail
        clear qx_0 qx_1 qx_2; refine (HBI.out _).mono ?_; rintro e w9 ⟨rfl, hb9⟩; replace o_c := o_c.below hb9 o_c.lt; replace o_r := o_r.below hb9 o_r.lt; replace o_o := o_o.below hb9 o_o.lt; replace o_w := o_w.below hb9 o_w.lt; replace o_s := o_s.below hb9 o_s.lt; replace o_x := o_x.below hb9 o_x.lt; replace hbw := below6 hbw hb9; clear hb9; have lt_c := o_c.lt; have lt_r := o_r.lt; have lt_o := o_o.lt; have lt_w := o_w.lt; have lt_s := o_s.lt; have lt_x := o_x.lt; have hs_y := hbw.size; obtain ⟨o_y, hz10⟩ := new1 w9 [.bool ny, .string sy, .string ty, .bool nz, .string sz, .string tz] 33; replace o_c := o_c.alloc (.cells #[.bool ny, .string sy, .string ty, .bool nz, .string sz, .string tz] 33); replace o_r := o_r.alloc (.cells #[.bool ny, .string sy, .string ty, .bool nz, .string sz, .string tz] 33); replace o_o := o_o.alloc (.cells #[.bool ny, .string sy, .string ty, .bool nz, .string sz, .string tz] 33)
        replace o_w := o_w.alloc (.cells #[.bool ny, .string sy, .string ty, .bool nz, .string sz, .string tz] 33); replace o_s := o_s.alloc (.cells #[.bool ny, .string sy, .string ty, .bool nz, .string sz, .string tz] 33); replace o_x := o_x.alloc (.cells #[.bool ny, .string sy, .string ty, .bool nz, .string sz, .string tz] 33); replace hbw := below6 hbw hz10; clear hz10
        go_upto_region 15 with (fail)
        generalize (w9.alloc (.cells #[.bool ny, .string sy, .string ty, .bool nz, .string sz, .string tz] 33)) = wa11 at o_c o_r o_o o_w o_s o_x o_y hbw ⊢; generalize w9.heap.size = g11 at o_y hs_y lt_c lt_r lt_o lt_w lt_s lt_x ⊢; clear o_x; have ney_c : w.heap.size ≠ g11 := by omega
        have ney_r : w.heap.size + 1 ≠ g11 := by omega
        have ney_o : bo ≠ g11 := by omega
        have ney_w : br ≠ g11 := by omega
        have ney_s : g7 ≠ g11 := by omega
        go_wp2_with fail
        refine (HWH.out _).mono ?_; rintro e w12 ⟨rfl, hb12⟩; replace o_c := o_c.below hb12 o_c.lt; replace o_r := o_r.below hb12 o_r.lt; replace o_o := o_o.below hb12 o_o.lt; replace o_w := o_w.below hb12 o_w.lt; replace o_s := o_s.below hb12 o_s.lt; replace o_y := o_y.below hb12 o_y.lt; replace hbw := below6 hbw hb12; clear hb12; have hs_h := hbw.size; obtain ⟨o_h, hz13⟩ := new1 w12 [.bool nh, .string sh, .string th] 27; replace o_c := o_c.alloc (.cells #[.bool nh, .string sh, .string th] 27); replace o_r := o_r.alloc (.cells #[.bool nh, .string sh, .string th] 27); replace o_o := o_o.alloc (.cells #[.bool nh, .string sh, .string th] 27); replace o_w := o_w.alloc (.cells #[.bool nh, .string sh, .string th] 27); replace o_s := o_s.alloc (.cells #[.bool nh, .string sh, .string th] 27); replace o_y := o_y.alloc (.cells #[.bool nh, .string sh, .string th] 27); replace hbw := below6 hbw hz13
        clear hz13
        go_upto_region 16 with (fail)
        generalize (w12.alloc (.cells #[.bool nh, .string sh, .string th] 27)) = wa14 at o_c o_r o_o o_w o_s o_y o_h hbw ⊢; generalize w12.heap.size = g14 at o_h hs_h ⊢; obtain ⟨qy_0, qy_1, qy_2, qy_3, qy_4, qy_5⟩ := o_y.cells6; obtain ⟨qh_0, qh_1, qh_2⟩ := o_h.cells3
        go_wp2_with fail
        clear qy_0 qy_1 qy_2 qy_3 qy_4 qy_5 qh_0 qh_1 qh_2; refine (HSC.out _).mono ?_; rintro e w15 ⟨rfl, hb15⟩; replace o_c := o_c.below hb15 o_c.lt; replace o_r := o_r.below hb15 o_r.lt; replace o_o := o_o.below hb15 o_o.lt; replace o_w := o_w.below hb15 o_w.lt; replace o_s := o_s.below hb15 o_s.lt; replace o_y := o_y.below hb15 o_y.lt; replace o_h := o_h.below hb15 o_h.lt; replace hbw := below6 hbw hb15; clear hb15; clear o_h; obtain ⟨qy_0, qy_1, qy_2, qy_3, qy_4, qy_5⟩ := o_y.cells6; obtain ⟨fy_0, fy_1, fy_2, fy_3, fy_4, fy_5⟩ := o_y.frozens6; have oz := o_y.set6 (.bool nu) (.string su) (.string tu) (.bool nv) (.string sv) (.string tv); have sz9 := Below.set6 hbw (g := g11) (by omega) (.bool nu) (.string su) (.string tu) (.bool nv) (.string sv) (.string tv); replace o_c := o_c.far6 ney_c (.bool nu) (.string su) (.string tu) (.bool nv) (.string sv) (.string tv); replace o_r := o_r.far6 ney_r (.bool nu) (.string su) (.string tu) (.bool nv) (.string sv) (.string tv)
        replace o_o := o_o.far6 ney_o (.bool nu) (.string su) (.string tu) (.bool nv) (.string sv) (.string tv); replace o_w := o_w.far6 ney_w (.bool nu) (.string su) (.string tu) (.bool nv) (.string sv) (.string tv); replace o_s := o_s.far6 ney_s (.bool nu) (.string su) (.string tu) (.bool nv) (.string sv) (.string tv)
        go_upto_region 17 with (fail)
        generalize ((((((w15.setCell ⟨g11, 0, none⟩ (.bool nu)).setCell ⟨g11, 1, none⟩ (.string su)).setCell ⟨g11, 2, none⟩ (.string tu)).setCell ⟨g11, 3, none⟩ (.bool nv)).setCell ⟨g11, 4, none⟩ (.string sv)).setCell ⟨g11, 5, none⟩ (.string tv)) = ws16 at oz sz9 o_c o_r o_o o_w o_s ⊢; clear qy_0 fy_0 qy_1 fy_1 qy_2 fy_2 qy_3 fy_3 qy_4 fy_4 qy_5 fy_5 o_y hbw; have o_y := oz; have hbw := sz9; clear oz sz9; obtain ⟨qs_0, qs_1, qs_2, qs_3, qs_4, qs_5⟩ := o_s.cells6; obtain ⟨qy_0, qy_1, qy_2, qy_3, qy_4, qy_5⟩ := o_y.cells6
        go_wp2_with fail
        clear qs_0 qs_1 qs_2 qs_3 qs_4 qs_5 qy_0 qy_1 qy_2 qy_3 qy_4 qy_5; refine (HAD.out _).mono ?_; rintro e w17 ⟨rfl, hb17⟩; replace o_c := o_c.below hb17 o_c.lt; replace o_r := o_r.below hb17 o_r.lt; replace o_o := o_o.below hb17 o_o.lt; replace o_w := o_w.below hb17 o_w.lt; replace o_s := o_s.below hb17 o_s.lt; replace o_y := o_y.below hb17 o_y.lt; replace hbw := below6 hbw hb17; clear hb17; obtain ⟨qs_0, qs_1, qs_2, qs_3, qs_4, qs_5⟩ := o_s.cells6; obtain ⟨fs_0, fs_1, fs_2, fs_3, fs_4, fs_5⟩ := o_s.frozens6; have oz := o_s.set6 (.bool (nf (k + 1))) (.string (sf (k + 1))) (.string (tf (k + 1))) (.bool (ng (k + 1))) (.string (sg (k + 1))) (.string (tg (k + 1))); have sz9 := Below.set6 hbw (g := g7) (by omega) (.bool (nf (k + 1))) (.string (sf (k + 1))) (.string (tf (k + 1))) (.bool (ng (k + 1))) (.string (sg (k + 1))) (.string (tg (k + 1))); replace o_c := o_c.far6 nes_c (.bool (nf (k + 1))) (.string (sf (k + 1))) (.string (tf (k + 1))) (.bool (ng (k + 1))) (.string (sg (k + 1))) (.string (tg (k + 1)))
        replace o_r := o_r.far6 nes_r (.bool (nf (k + 1))) (.string (sf (k + 1))) (.string (tf (k + 1))) (.bool (ng (k + 1))) (.string (sg (k + 1))) (.string (tg (k + 1))); replace o_o := o_o.far6 nes_o (.bool (nf (k + 1))) (.string (sf (k + 1))) (.string (tf (k + 1))) (.bool (ng (k + 1))) (.string (sg (k + 1))) (.string (tg (k + 1))); replace o_w := o_w.far6 nes_w (.bool (nf (k + 1))) (.string (sf (k + 1))) (.string (tf (k + 1))) (.bool (ng (k + 1))) (.string (sg (k + 1))) (.string (tg (k + 1)))
        go_wp2_with fail
        go_roundg (3 - k)
        case measure => have := HQ.out; omega
        case rel => exact ⟨k + 1, by omega, by omega, by go_num, o_c, o_r, o_o, o_w, oz, sz9⟩
    · obtain rfl : k = 4 := by omega
      obtain ⟨qs_0, qs_1, qs_2, qs_3, qs_4, qs_5⟩ := o_s.cells6; obtain ⟨qr_0, qr_1, qr_2, qr_3, qr_4, qr_5⟩ := o_r.cells6; obtain ⟨fr_0, fr_1, fr_2, fr_3, fr_4, fr_5⟩ := o_r.frozens6; have oz := o_r.set6 (.bool (nf 4)) (.string (sf 4)) (.string (tf 4)) (.bool (ng 4)) (.string (sg 4)) (.string (tg 4)); have sz9 := Below.set6 hbw (g := w.heap.size + 1) (by omega) (.bool (nf 4)) (.string (sf 4)) (.string (tf 4)) (.bool (ng 4)) (.string (sg 4)) (.string (tg 4))
      go_wp2_with fail
      generalize ((((((wr.setCell ⟨w.heap.size + 1, 0, none⟩ (.bool (nf 4))).setCell ⟨w.heap.size + 1, 1, none⟩ (.string (sf 4))).setCell ⟨w.heap.size + 1, 2, none⟩ (.string (tf 4))).setCell ⟨w.heap.size + 1, 3, none⟩ (.bool (ng 4))).setCell ⟨w.heap.size + 1, 4, none⟩ (.string (sg 4))).setCell ⟨w.heap.size + 1, 5, none⟩ (.string (tg 4))) = wz at oz sz9 ⊢; obtain ⟨z0, z1, z2, z3, z4, z5⟩ := oz.cells6; exact bodyPost_ret (v := .tuple #[.agg #[.bool (nf 4), .string (sf 4), .string (tf 4), .bool (ng 4), .string (sg 4), .string (tg 4)], .int .i64 0]) (by simp [results, Tryz.results25, go_sem, z0, z1, z2, z3, z4, z5]) rfl ⟨rfl, sz9⟩
end Go.Proofs.YtocknfhgjmaibaaGreatDoor
