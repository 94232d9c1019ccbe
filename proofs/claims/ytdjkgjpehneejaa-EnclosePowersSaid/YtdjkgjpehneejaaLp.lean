/- The law EnclosePowers as a walk. -/
import Derived.Test.YtdjkgjpehneejaaLj
namespace Go.Proofs.Ytdjkgjpehneejaa
set_option linter.unusedSimpArgs false
set_option linter.unusedVariables false
set_option linter.unusedSectionVars false
open Go.RowKit Dg

theorem few_powr {x : Rat} {j : Nat} (hj : 0 < j) (hx : Few j x) (K : Nat) (hK : 0 < K) : Few (j * K) (x ^ K) := by
  refine ⟨?_, ?_⟩
  · rw [Rat.num_pow, Int.natAbs_pow]
    exact pow_dec (Nat.mul_pos hj hK) hx.1
  · rw [Rat.den_pow]
    exact pow_dec (Nat.mul_pos hj hK) hx.2
theorem few_p2 (n : Int) (m : Nat) (h1 : -(m : Int) ≤ n) (h2 : n ≤ m) : Few (m + 1) (p2 n) := by
  have key : ∀ j : Nat, j ≤ m → (dec (2 ^ j)).length ≤ m + 1 := fun j hj => dec_len_le (by omega) (by
    have h1 : 2 ^ j ≤ 10 ^ j := Nat.pow_le_pow_left (by decide) j
    have h2 : 10 ^ j ≤ 10 ^ m := Nat.pow_le_pow_right (by decide) hj
    have h3 : 10 ^ m < 10 ^ (m + 1) := Nat.pow_lt_pow_right (by decide) (by omega)
    omega)
  have one : (dec 1).length ≤ m + 1 := by have : (dec 1).length = 1 := by decide
                                          omega
  rcases Int.lt_or_le n 0 with h | h
  · obtain ⟨j, rfl⟩ : ∃ j : Nat, n = -(j : Int) := ⟨(-n).toNat, by omega⟩
    rw [(p2_quo j).2]
    exact few_rat (Nat.pow_pos (by decide)) one (key j (by omega))
  · obtain ⟨j, rfl⟩ : ∃ j : Nat, n = (j : Int) := ⟨n.toNat, by omega⟩
    rw [(p2_quo j).1]
    exact few_rat (by decide) (key j (by omega)) one
/-- How large the logarithm is. -/
theorem log_bound {X : Rat} {n : Int} {j : Nat} (h : IsLog X n) (hX : Few j X) (h0 : 0 < X) : -(4 * j : Nat) - 1 ≤ n ∧ n ≤ (4 * j : Nat) := by
  have e := rat_self X
  have hn := pos_num h0
  have e2 : decide (X.num < 0) = false := decide_eq_false (by omega)
  rw [e2] at e
  have hP : 0 < X.num.natAbs := by omega
  have g1 := blen_dec hX.1
  have g2 := blen_dec hX.2
  obtain ⟨l1, l2⟩ := log_guess hP (den_pos X)
  rw [e] at l1 l2
  have k1 : p2 n < p2 ((blen X.num.natAbs : Int) - blen X.den + 1) := by have := h.1; grind
  have k2 : p2 ((blen X.num.natAbs : Int) - blen X.den - 1) < p2 (n + 1) := by have := h.2; grind
  have k1 := p2_lt_iff.1 k1
  have k2 := p2_lt_iff.1 k2
  have hq := blen_pos (den_pos X)
  have hp := blen_pos hP
  omega
theorem RV_two : RV 2 = .agg #[.bool false, .string ⟨#[50]⟩, .string ⟨#[49]⟩] := rfl
theorem few_two : Few 1 (2 : Rat) := by unfold Few; decide
theorem step_mul {i : Int} (h1 : -400 ≤ i) (h2 : i ≤ 400) : RetV 14 #[RV (p2 i), .agg #[.bool false, .string ⟨#[50]⟩, .string ⟨#[49]⟩]] (.tuple #[RV (p2 (i + 1)), .int .i64 0]) := by
  intro w
  have hf := few_p2 i 400 h1 h2
  have hf2 := few_p2 (i + 1) 401 (by omega) (by omega)
  refine (rmul_yes (hf.ok (by decide)) (few_two.ok (by decide)) w).mono fun e w' ⟨g, hb⟩ => ⟨?_, hb⟩
  have e : p2 i * 2 = p2 (i + 1) := by rw [p2_add, p2_one]
  rw [e] at g
  exact g.ok (hf2.ok (by decide))
theorem step_quo {i : Int} (h1 : -400 ≤ i) (h2 : i ≤ 400) : RetV 17 #[RV (p2 i), .agg #[.bool false, .string ⟨#[50]⟩, .string ⟨#[49]⟩]] (.tuple #[RV (p2 (i - 1)), .int .i64 0]) := by
  intro w
  have hf := few_p2 i 400 h1 h2
  have hf2 := few_p2 (i - 1) 401 (by omega) (by omega)
  refine (rquo_yes (hf.ok (by decide)) (few_two.ok (by decide)) (by decide) w).mono fun e w' ⟨g, hb⟩ => ⟨?_, hb⟩
  have e : p2 i / 2 = p2 (i - 1) := by
    have h : p2 i = p2 (i - 1) * 2 := by
      have := p2_add (i - 1) 1
      rw [p2_one] at this
      rw [← this]; congr 1; omega
    rw [h]
    exact Rat.mul_div_cancel (by decide)
  rw [e] at g
  exact g.ok (hf2.ok (by decide))
/-- The cells of a ratio. -/
abbrev rc (x : Rat) : List Value := [.bool (decide (x.num < 0)), .string (S x.num.natAbs), .string (S x.den)]

set_option maxRecDepth 100000 in
set_option maxHeartbeats 8000000 in
theorem law_powers (A : Option Addr) (l : List Int) (c : Nat) (k0 : Int) (w : World) (hA : Ints w A l) (hl : l.length ≤ c) (hc : c ≤ maxLen) (hw : Wide l) (hk1 : -9223372036854775808 ≤ k0) (hk2 : k0 ≤ 9223372036854775807) :
    Calls Try.prog 7 #[.slice A l.length c, .int .i64 k0] w (Holds w) := by
  have HN := Lib.hid (new_any A l c w hA hl hc hw)
  obtain ⟨kk, hkk, hmod⟩ := mod_small k0 5 hk1 hk2 (by decide) (by decide)
  have HM := Lib.hid hmod
  clear hA hw hmod hk1 hk2
  go_enter Try.func7, Try.ntmps7
  go_wp2_with fail
  refine HN.out.mono ?_
  rintro e w1 ⟨rfl, ⟨l', hT⟩, hbw⟩
  have hS : ∀ k, k < w.heap.size → ¬ (k = w.heap.size) := fun k hk e => by omega
  have HS := Lib.hid hS
  clear HN hS
  generalize hpp : w.heap.size = p at hT HS ⊢
  rw [← hpp] at HS
  have HPP := Lib.hid hpp
  clear hpp
  go_wp2_with fail
  refine (some37 true p A l' c 0 _ hT).mono ?_
  rintro e ws1 ⟨⟨x, rfl, fx, px⟩, ⟨a1, hT'⟩, hc1⟩
  replace hbw := hbw.trans (hc1.below (B := w.heap.size) (fun k hk e => HS.out k hk (by rw [HPP.out]; exact e)) hbw.size)
  clear hT hc1
  have hT := hT'
  clear hT'
  clear hT HS HPP
  have x0 := px (by simp)
  obtain ⟨n, ha, -, -, hla, -⟩ := ebits_yes (k := kk) (fx.mono (by decide)) x0 (by omega) w
  have hfp : ∀ i, i ≤ kk → Few 96 (x ^ (2 ^ i)) := fun i hi => (few_powr (by decide) fx (2 ^ i) (Nat.pow_pos (by decide))).mono (by
    have : 2 ^ i ≤ 2 ^ 4 := Nat.pow_le_pow_right (by decide) (by omega)
    omega)
  have HFP := Lib.hid hfp
  obtain ⟨hb1, hb2⟩ := log_bound ha (hfp kk (Nat.le_refl _)) (Rat.pow_pos x0)
  have hn1 : -390 ≤ n := by omega
  have hn2 : n ≤ 390 := by omega
  have HLG := Lib.hid ha
  generalize hex : decide (p2 n = x ^ 2 ^ kk) = ex at hla
  have HEX := Lib.hid hex
  have HLA := Lib.hid hla
  have hkI : (kk : Int) < 5 := by omega
  have HX0 := Lib.hid x0
  clear hla ha hfp hb1 hb2 fx x0 px hex
  obtain ⟨nx, sx, tx, hx⟩ := rv_open' x
  rw [hx] at HLA ⊢
  obtain ⟨o_x, hz1⟩ := new1 ws1 [.bool nx, .string sx, .string tx] 26
  replace hbw := below6 hbw hz1
  clear hz1
  go_wp2_with fail
  generalize (ws1.alloc (.cells #[.bool nx, .string sx, .string tx] 26)) = wa2 at o_x hbw ⊢
  generalize ws1.heap.size = g2 at o_x ⊢
  refine (HM.out _).mono ?_
  rintro e wm ⟨rfl, rfl⟩
  have qx_0 : wa2.cell? ⟨g2, 0, none⟩ = some (.bool nx) := o_x.cell 0
  have qx_1 : wa2.cell? ⟨g2, 1, none⟩ = some (.string sx) := o_x.cell 1
  have qx_2 : wa2.cell? ⟨g2, 2, none⟩ = some (.string tx) := o_x.cell 2
  go_wp2_with fail
  clear qx_0 qx_1 qx_2
  refine (HLA.out _).mono ?_
  rintro e w3 ⟨rfl, hb3⟩
  replace o_x := o_x.below hb3 o_x.lt
  replace hbw := below6 hbw hb3
  clear hb3
  have qx_0 : w3.cell? ⟨g2, 0, none⟩ = some (.bool nx) := o_x.cell 0
  have qx_1 : w3.cell? ⟨g2, 1, none⟩ = some (.string sx) := o_x.cell 1
  have qx_2 : w3.cell? ⟨g2, 2, none⟩ = some (.string tx) := o_x.cell 2
  go_wp2_with fail
  clear qx_0 qx_1 qx_2
  have hs_y := hbw.size
  obtain ⟨o_y, hz4⟩ := new1 w3 [.bool nx, .string sx, .string tx] 26
  replace o_x := o_x.alloc (.cells #[.bool nx, .string sx, .string tx] 26)
  replace hbw := below6 hbw hz4
  clear hz4
  generalize (w3.alloc (.cells #[.bool nx, .string sx, .string tx] 26)) = wa5 at o_x o_y hbw ⊢
  generalize w3.heap.size = g5 at o_y hs_y ⊢
  have oy0 : Own wa5 (g5) 26 (rc (x ^ (2 ^ 0))) := by
    have e : x ^ (2 ^ 0) = x := by simp
    rw [e]
    have hx2 : rc x = [.bool nx, .string sx, .string tx] := by injection hx with hx; exact congrArg Array.toList hx
    rw [hx2]
    exact o_y
  have HGY : Hid (w.heap.size ≤ g5) := by show _ ≤ _; omega
  clear o_x o_y hx
  go_loopg [8, 10] kk (fun q v8 v10 wr => ∃ i : Nat, q = kk - i ∧ i ≤ kk ∧ v8 = .int .i64 0 ∧ v10 = .int .i64 (i : Int) ∧ Own wr (g5) 26 (rc (x ^ (2 ^ i))) ∧ Below w.heap.size w wr)
  case atStart => exact ⟨0, rfl, Nat.zero_le _, rfl, rfl, oy0, hbw⟩
  case round =>
    clear oy0 hbw
    obtain ⟨i, hq, hi, rfl, rfl, oy, hbw⟩ := hrel
    have HQ := Lib.hid hq
    clear hq
    have f1 := HFP.out i hi
    have e2 : x ^ (2 ^ i) * x ^ (2 ^ i) = x ^ (2 ^ (i + 1)) := by
      rw [Nat.pow_succ, Nat.mul_two]
      generalize 2 ^ i = K
      induction K with
      | zero => simp
      | succ K ih =>
        have e3 : K + 1 + (K + 1) = K + K + 1 + 1 := by omega
        rw [e3, Rat.pow_succ, Rat.pow_succ, Rat.pow_succ, ← ih]; grind
    by_cases hlt : i < kk
    · have f2 := HFP.out (i + 1) (by omega)
      have HMU : Hid (RetV 14 #[RV (x ^ (2 ^ i)), RV (x ^ (2 ^ i))] (.tuple #[RV (x ^ (2 ^ (i + 1))), .int .i64 0])) := fun w => (rmul_yes (f1.ok (by decide)) (f1.ok (by decide)) w).mono fun e w' ⟨g, hb⟩ => ⟨by rw [e2] at g; exact g.ok (f2.ok (by decide)), hb⟩
      clear f1 f2 e2
      obtain ⟨nu, su, tu, e4, e5⟩ : ∃ n s t, RV (x ^ (2 ^ i)) = .agg #[.bool n, .string s, .string t] ∧ rc (x ^ (2 ^ i)) = [.bool n, .string s, .string t] := ⟨_, _, _, rfl, rfl⟩
      obtain ⟨nv, sv, tv, e6, e7⟩ : ∃ n s t, RV (x ^ (2 ^ (i + 1))) = .agg #[.bool n, .string s, .string t] ∧ rc (x ^ (2 ^ (i + 1))) = [.bool n, .string s, .string t] := ⟨_, _, _, rfl, rfl⟩
      rw [e4, e6] at HMU
      rw [e5] at oy
      have E7 := Lib.hid e7
      clear e4 e5 e6 e7
      have q0 : wr.cell? ⟨g5, 0, none⟩ = some (.bool nu) := oy.cell 0
      have q1 : wr.cell? ⟨g5, 1, none⟩ = some (.string su) := oy.cell 1
      have q2 : wr.cell? ⟨g5, 2, none⟩ = some (.string tu) := oy.cell 2
      have hI : (i : Int) < kk := by omega
      go_wp2_with fail
      refine (HMU.out _).mono ?_
      rintro e ws ⟨rfl, hb⟩
      replace oy := oy.below hb oy.lt
      replace hbw := below6 hbw hb
      clear hb q0 q1 q2
      have q0 : ws.cell? ⟨g5, 0, none⟩ = some (.bool nu) := oy.cell 0
      have q1 : ws.cell? ⟨g5, 1, none⟩ = some (.string su) := oy.cell 1
      have q2 : ws.cell? ⟨g5, 2, none⟩ = some (.string tu) := oy.cell 2
      have fq0 := oy.frozen 0
      have fq1 := oy.frozen 1
      have fq2 := oy.frozen 2
      have oy2 := oy.set3 (.bool nv) (.string sv) (.string tv)
      have hbw2 := Below.set3 hbw (g := g5) HGY.out (.bool nv) (.string sv) (.string tv)
      clear oy hbw
      go_wp2_with fail
      go_roundg (kk - (i + 1))
      case measure => have := HQ.out; omega
      case rel => exact ⟨i + 1, rfl, by omega, rfl, by go_num, by rw [E7.out]; exact oy2, hbw2⟩
    · obtain rfl : kk = i := by omega
      clear e2 hlt HQ
      have HFY := Lib.hid f1
      obtain ⟨ny, sy, ty, hy, hy2⟩ : ∃ n s t, RV (x ^ (2 ^ kk)) = .agg #[.bool n, .string s, .string t] ∧ rc (x ^ (2 ^ kk)) = [.bool n, .string s, .string t] := ⟨_, _, _, rfl, rfl⟩
      rw [hy2] at oy
      have HY := Lib.hid hy
      have o_y := oy
      clear hy hy2 oy f1 HFP
      have hs_yy := o_y.lt
      have hs_two := hbw.size
      obtain ⟨o_two, o_p, hz6⟩ := new2 wr [.bool false, .string ⟨#[50]⟩, .string ⟨#[49]⟩] [.bool false, .string ⟨#[49]⟩, .string ⟨#[49]⟩] 26 26
      replace o_y := o_y.alloc (.cells #[.bool false, .string ⟨#[50]⟩, .string ⟨#[49]⟩] 26)
      replace o_y := o_y.alloc (.cells #[.bool false, .string ⟨#[49]⟩, .string ⟨#[49]⟩] 26)
      replace hbw := below6 hbw hz6
      clear hz6
      go_wp2_with fail
      generalize ((wr.alloc (.cells #[.bool false, .string ⟨#[50]⟩, .string ⟨#[49]⟩] 26)).alloc (.cells #[.bool false, .string ⟨#[49]⟩, .string ⟨#[49]⟩] 26)) = wa7 at o_y o_two o_p hbw ⊢
      generalize wr.heap.size = g7 at o_two o_p hs_two hs_yy ⊢
      have HGP : Hid (w.heap.size ≤ g7 + 1) := by show _ ≤ _; omega
      have HNT : Hid (g7 ≠ g7 + 1) := by show _ ≠ _; omega
      have HNY : Hid (g5 ≠ g7 + 1) := by show _ ≠ _; omega
      have om : Own wa7 (g7 + 1) 26 (rc (p2 ((0 : Nat) : Int))) := by
        have e : p2 ((0 : Nat) : Int) = 1 := p2_zero
        rw [e]; exact o_p
      clear o_p
      go_loopg [13] n.toNat (fun q v13 wr2 => ∃ i : Nat, q = n.toNat - i ∧ i ≤ n.toNat ∧ v13 = .int .i64 (i : Int) ∧ Own wr2 (g7 + 1) 26 (rc (p2 (i : Int))) ∧ Own wr2 (g7) 26 [.bool false, .string ⟨#[50]⟩, .string ⟨#[49]⟩] ∧ Own wr2 (g5) 26 [.bool ny, .string sy, .string ty] ∧ Below w.heap.size w wr2)
      case atStart => exact ⟨0, rfl, Nat.zero_le _, rfl, om, o_two, o_y, hbw⟩
      case round =>
        clear om o_two o_y hbw
        obtain ⟨i2, hq, hi2, rfl, om, o_two, o_y, hbw⟩ := hrel
        have HQ := Lib.hid hq
        clear hq
        by_cases hlt : (i2 : Int) < n
        · have hlt2 : (i2 : Int) < 2000 := by omega
          have hst := step_mul (i := (i2 : Int)) (by omega) (by omega)
          obtain ⟨nu, su, tu, e4, e5⟩ : ∃ n s t, RV (p2 (i2 : Int)) = .agg #[.bool n, .string s, .string t] ∧ rc (p2 (i2 : Int)) = [.bool n, .string s, .string t] := ⟨_, _, _, rfl, rfl⟩
          obtain ⟨nv, sv, tv, e6, e7⟩ : ∃ n s t, RV (p2 ((i2 : Int) + 1)) = .agg #[.bool n, .string s, .string t] ∧ rc (p2 ((i2 : Int) + 1)) = [.bool n, .string s, .string t] := ⟨_, _, _, rfl, rfl⟩
          rw [e4, e6] at hst
          rw [e5] at om
          have HST := Lib.hid hst
          have E7 := Lib.hid e7
          clear e4 e5 e6 e7 hst
          have qtwo0 : wr.cell? ⟨g7, 0, none⟩ = some (.bool false) := o_two.cell 0
          have qtwo1 : wr.cell? ⟨g7, 1, none⟩ = some (.string ⟨#[50]⟩) := o_two.cell 1
          have qtwo2 : wr.cell? ⟨g7, 2, none⟩ = some (.string ⟨#[49]⟩) := o_two.cell 2
          have qp0 : wr.cell? ⟨g7 + 1, 0, none⟩ = some (.bool nu) := om.cell 0
          have qp1 : wr.cell? ⟨g7 + 1, 1, none⟩ = some (.string su) := om.cell 1
          have qp2 : wr.cell? ⟨g7 + 1, 2, none⟩ = some (.string tu) := om.cell 2
          go_wp2_with fail
          refine (HST.out _).mono ?_
          rintro e ws2 ⟨rfl, hb⟩
          replace om := om.below hb om.lt
          replace o_two := o_two.below hb o_two.lt
          replace o_y := o_y.below hb o_y.lt
          replace hbw := below6 hbw hb
          clear qtwo0 qtwo1 qtwo2 qp0 qp1 qp2
          clear hb
          have fq0 := om.frozen 0
          have fq1 := om.frozen 1
          have fq2 := om.frozen 2
          have om2 := om.set3 (.bool nv) (.string sv) (.string tv)
          have hbw2 := Below.set3 hbw (g := g7 + 1) HGP.out (.bool nv) (.string sv) (.string tv)
          have ot2 := ((o_two.far (p := ⟨g7 + 1, 0, none⟩) HNT.out (.bool nv)).far (p := ⟨g7 + 1, 1, none⟩) HNT.out (.string sv)).far (p := ⟨g7 + 1, 2, none⟩) HNT.out (.string tv)
          have oy2 := ((o_y.far (p := ⟨g7 + 1, 0, none⟩) HNY.out (.bool nv)).far (p := ⟨g7 + 1, 1, none⟩) HNY.out (.string sv)).far (p := ⟨g7 + 1, 2, none⟩) HNY.out (.string tv)
          have qp0 : ws2.cell? ⟨g7 + 1, 0, none⟩ = some (.bool nu) := om.cell 0
          have qp1 : ws2.cell? ⟨g7 + 1, 1, none⟩ = some (.string su) := om.cell 1
          have qp2 : ws2.cell? ⟨g7 + 1, 2, none⟩ = some (.string tu) := om.cell 2
          clear o_y o_two om hbw
          go_wp2_with fail
          go_roundg (n.toNat - (i2 + 1))
          case measure => have := HQ.out; omega
          case rel =>
            refine ⟨i2 + 1, rfl, by omega, by go_num, ?_, ot2, oy2, hbw2⟩
            have e : ((i2 + 1 : Nat) : Int) = (i2 : Int) + 1 := by simp
            rw [e, E7.out]; exact om2
        · have hi3 : i2 = n.toNat := by omega
          clear HQ hi2
          go_wp2_with fail
          go_loopg [14] (-n).toNat (fun q v14 wr3 => ∃ j : Nat, q = (-n).toNat - j ∧ j ≤ (-n).toNat ∧ v14 = .int .i64 (-(j : Int)) ∧ Own wr3 (g7 + 1) 26 (rc (p2 ((i2 : Int) - (j : Int)))) ∧ Own wr3 (g7) 26 [.bool false, .string ⟨#[50]⟩, .string ⟨#[49]⟩] ∧ Own wr3 (g5) 26 [.bool ny, .string sy, .string ty] ∧ Below w.heap.size w wr3)
          case atStart => exact ⟨0, rfl, Nat.zero_le _, rfl, by simpa using om, o_two, o_y, hbw⟩
          case round =>
            clear om o_two o_y hbw
            obtain ⟨j, hq, hj, rfl, om, o_two, o_y, hbw⟩ := hrel
            have HQ := Lib.hid hq
            clear hq
            by_cases hlt3 : n < -(j : Int)
            · have hlt2 : -2000 < -(j : Int) := by omega
              have hst := step_quo (i := (i2 : Int) - j) (by omega) (by omega)
              obtain ⟨nu, su, tu, e4, e5⟩ : ∃ n s t, RV (p2 ((i2 : Int) - (j : Int))) = .agg #[.bool n, .string s, .string t] ∧ rc (p2 ((i2 : Int) - (j : Int))) = [.bool n, .string s, .string t] := ⟨_, _, _, rfl, rfl⟩
              obtain ⟨nv, sv, tv, e6, e7⟩ : ∃ n s t, RV (p2 ((i2 : Int) - (j : Int) - 1)) = .agg #[.bool n, .string s, .string t] ∧ rc (p2 ((i2 : Int) - (j : Int) - 1)) = [.bool n, .string s, .string t] := ⟨_, _, _, rfl, rfl⟩
              rw [e4, e6] at hst
              rw [e5] at om
              have HST := Lib.hid hst
              have E7 := Lib.hid e7
              clear e4 e5 e6 e7 hst
              have qtwo0 : wr.cell? ⟨g7, 0, none⟩ = some (.bool false) := o_two.cell 0
              have qtwo1 : wr.cell? ⟨g7, 1, none⟩ = some (.string ⟨#[50]⟩) := o_two.cell 1
              have qtwo2 : wr.cell? ⟨g7, 2, none⟩ = some (.string ⟨#[49]⟩) := o_two.cell 2
              have qp0 : wr.cell? ⟨g7 + 1, 0, none⟩ = some (.bool nu) := om.cell 0
              have qp1 : wr.cell? ⟨g7 + 1, 1, none⟩ = some (.string su) := om.cell 1
              have qp2 : wr.cell? ⟨g7 + 1, 2, none⟩ = some (.string tu) := om.cell 2
              go_wp2_with fail
              refine (HST.out _).mono ?_
              rintro e ws3 ⟨rfl, hb⟩
              replace om := om.below hb om.lt
              replace o_two := o_two.below hb o_two.lt
              replace o_y := o_y.below hb o_y.lt
              replace hbw := below6 hbw hb
              clear qtwo0 qtwo1 qtwo2 qp0 qp1 qp2
              clear hb
              have fq0 := om.frozen 0
              have fq1 := om.frozen 1
              have fq2 := om.frozen 2
              have om2 := om.set3 (.bool nv) (.string sv) (.string tv)
              have hbw2 := Below.set3 hbw (g := g7 + 1) HGP.out (.bool nv) (.string sv) (.string tv)
              have ot2 := ((o_two.far (p := ⟨g7 + 1, 0, none⟩) HNT.out (.bool nv)).far (p := ⟨g7 + 1, 1, none⟩) HNT.out (.string sv)).far (p := ⟨g7 + 1, 2, none⟩) HNT.out (.string tv)
              have oy2 := ((o_y.far (p := ⟨g7 + 1, 0, none⟩) HNY.out (.bool nv)).far (p := ⟨g7 + 1, 1, none⟩) HNY.out (.string sv)).far (p := ⟨g7 + 1, 2, none⟩) HNY.out (.string tv)
              have qp0 : ws3.cell? ⟨g7 + 1, 0, none⟩ = some (.bool nu) := om.cell 0
              have qp1 : ws3.cell? ⟨g7 + 1, 1, none⟩ = some (.string su) := om.cell 1
              have qp2 : ws3.cell? ⟨g7 + 1, 2, none⟩ = some (.string tu) := om.cell 2
              clear o_y o_two om hbw
              go_wp2_with fail
              go_roundg ((-n).toNat - (j + 1))
              case measure => have := HQ.out; omega
              case rel =>
                refine ⟨j + 1, rfl, by omega, by go_num, ?_, ot2, oy2, hbw2⟩
                have e : (i2 : Int) - ((j + 1 : Nat) : Int) = (i2 : Int) - j - 1 := by omega
                rw [e, E7.out]; exact om2
            · have en : (i2 : Int) - (j : Int) = n := by omega
              rw [en] at om
              clear HQ hj en hi3
              obtain ⟨np, sp, tp, hp, hp2⟩ : ∃ m s t, RV (p2 n) = .agg #[.bool m, .string s, .string t] ∧ rc (p2 n) = [.bool m, .string s, .string t] := ⟨_, _, _, rfl, rfl⟩
              obtain ⟨nz, sz, tz, hz⟩ := rv_open' (p2 (n + 1))
              rw [hp2] at om
              have hst := step_mul (i := n) (by omega) (by omega)
              have fy := HFY.out
              have fp := few_p2 n 400 (by omega) (by omega)
              have fz := few_p2 (n + 1) 400 (by omega) (by omega)
              have hc1 : RetV 23 #[RV (p2 n), RV (x ^ (2 ^ kk))] _ := fun w => rcmp_yes (fp.ok (by decide)) (fy.ok (by decide)) w
              have hc2 : RetV 23 #[RV (x ^ (2 ^ kk)), RV (p2 (n + 1))] _ := fun w => rcmp_yes (fy.ok (by decide)) (fz.ok (by decide)) w
              have e2 : cmpR (x ^ (2 ^ kk)) (p2 (n + 1)) = -1 := by unfold cmpR; rw [if_pos HLG.out.2]
              have e1 : (ex = true ∧ cmpR (p2 n) (x ^ (2 ^ kk)) = 0) ∨ (ex = false ∧ cmpR (p2 n) (x ^ (2 ^ kk)) = -1) := by
                have g := HLG.out.1
                have h := HEX.out
                by_cases he : p2 n = x ^ 2 ^ kk
                · rw [decide_eq_true he] at h
                  exact .inl ⟨h.symm, by rw [← he]; unfold cmpR; rw [if_neg Rat.lt_irrefl, if_pos rfl]⟩
                · rw [decide_eq_false he] at h
                  exact .inr ⟨h.symm, by unfold cmpR; rw [if_pos (by grind)]⟩
              rw [e2, HY.out, hz] at hc2
              rw [hp, HY.out] at hc1
              rw [hp, hz] at hst
              have HST := Lib.hid hst
              have HC2 := Lib.hid hc2
              have o_p := om
              have HE1 := Lib.hid e1
              clear om hst hc2 hp hp2 hz fy fp fz e1 e2 HFY HY HEX HLG HNT HNY
              rcases HE1.out with ⟨rfl, e1⟩ | ⟨rfl, e1⟩
              · rw [e1] at hc1
                have HC1 := Lib.hid hc1
                clear hc1 e1 HE1
                have qtwo_0 : wr.cell? ⟨g7, 0, none⟩ = some (.bool false) := o_two.cell 0
                have qtwo_1 : wr.cell? ⟨g7, 1, none⟩ = some (.string ⟨#[50]⟩) := o_two.cell 1
                have qtwo_2 : wr.cell? ⟨g7, 2, none⟩ = some (.string ⟨#[49]⟩) := o_two.cell 2
                have qp_0 : wr.cell? ⟨g7 + 1, 0, none⟩ = some (.bool np) := o_p.cell 0
                have qp_1 : wr.cell? ⟨g7 + 1, 1, none⟩ = some (.string sp) := o_p.cell 1
                have qp_2 : wr.cell? ⟨g7 + 1, 2, none⟩ = some (.string tp) := o_p.cell 2
                go_wp2_with fail
                clear qtwo_0 qtwo_1 qtwo_2 qp_0 qp_1 qp_2
                refine (HST.out _).mono ?_
                rintro e w8 ⟨rfl, hb8⟩
                replace o_y := o_y.below hb8 o_y.lt
                replace o_two := o_two.below hb8 o_two.lt
                replace o_p := o_p.below hb8 o_p.lt
                replace hbw := below6 hbw hb8
                clear hb8
                obtain ⟨o_z, hz9⟩ := new1 w8 [.bool nz, .string sz, .string tz] 26
                replace o_y := o_y.alloc (.cells #[.bool nz, .string sz, .string tz] 26)
                replace o_two := o_two.alloc (.cells #[.bool nz, .string sz, .string tz] 26)
                replace o_p := o_p.alloc (.cells #[.bool nz, .string sz, .string tz] 26)
                replace hbw := below6 hbw hz9
                clear hz9
                have qp_0 : (w8.alloc (.cells #[.bool nz, .string sz, .string tz] 26)).cell? ⟨g7 + 1, 0, none⟩ = some (.bool np) := o_p.cell 0
                have qp_1 : (w8.alloc (.cells #[.bool nz, .string sz, .string tz] 26)).cell? ⟨g7 + 1, 1, none⟩ = some (.string sp) := o_p.cell 1
                have qp_2 : (w8.alloc (.cells #[.bool nz, .string sz, .string tz] 26)).cell? ⟨g7 + 1, 2, none⟩ = some (.string tp) := o_p.cell 2
                have qy_0 : (w8.alloc (.cells #[.bool nz, .string sz, .string tz] 26)).cell? ⟨g5, 0, none⟩ = some (.bool ny) := o_y.cell 0
                have qy_1 : (w8.alloc (.cells #[.bool nz, .string sz, .string tz] 26)).cell? ⟨g5, 1, none⟩ = some (.string sy) := o_y.cell 1
                have qy_2 : (w8.alloc (.cells #[.bool nz, .string sz, .string tz] 26)).cell? ⟨g5, 2, none⟩ = some (.string ty) := o_y.cell 2
                go_wp2_with fail
                generalize (w8.alloc (.cells #[.bool nz, .string sz, .string tz] 26)) = wa10 at o_y o_two o_p o_z hbw ⊢
                generalize w8.heap.size = g10 at o_z ⊢
                clear qp_0 qp_1 qp_2 qy_0 qy_1 qy_2
                refine (HC1.out _).mono ?_
                rintro e w11 ⟨rfl, hb11⟩
                replace o_y := o_y.below hb11 o_y.lt
                replace o_two := o_two.below hb11 o_two.lt
                replace o_p := o_p.below hb11 o_p.lt
                replace o_z := o_z.below hb11 o_z.lt
                replace hbw := below6 hbw hb11
                clear hb11
                have qp_0 : w11.cell? ⟨g7 + 1, 0, none⟩ = some (.bool np) := o_p.cell 0
                have qp_1 : w11.cell? ⟨g7 + 1, 1, none⟩ = some (.string sp) := o_p.cell 1
                have qp_2 : w11.cell? ⟨g7 + 1, 2, none⟩ = some (.string tp) := o_p.cell 2
                have qy_0 : w11.cell? ⟨g5, 0, none⟩ = some (.bool ny) := o_y.cell 0
                have qy_1 : w11.cell? ⟨g5, 1, none⟩ = some (.string sy) := o_y.cell 1
                have qy_2 : w11.cell? ⟨g5, 2, none⟩ = some (.string ty) := o_y.cell 2
                go_wp2_with fail
                clear qp_0 qp_1 qp_2 qy_0 qy_1 qy_2
                refine (HC1.out _).mono ?_
                rintro e w12 ⟨rfl, hb12⟩
                replace o_y := o_y.below hb12 o_y.lt
                replace o_two := o_two.below hb12 o_two.lt
                replace o_p := o_p.below hb12 o_p.lt
                replace o_z := o_z.below hb12 o_z.lt
                replace hbw := below6 hbw hb12
                clear hb12
                have qy_0 : w12.cell? ⟨g5, 0, none⟩ = some (.bool ny) := o_y.cell 0
                have qy_1 : w12.cell? ⟨g5, 1, none⟩ = some (.string sy) := o_y.cell 1
                have qy_2 : w12.cell? ⟨g5, 2, none⟩ = some (.string ty) := o_y.cell 2
                have qz_0 : w12.cell? ⟨g10, 0, none⟩ = some (.bool nz) := o_z.cell 0
                have qz_1 : w12.cell? ⟨g10, 1, none⟩ = some (.string sz) := o_z.cell 1
                have qz_2 : w12.cell? ⟨g10, 2, none⟩ = some (.string tz) := o_z.cell 2
                go_wp2_with fail
                clear qy_0 qy_1 qy_2 qz_0 qz_1 qz_2
                refine (HC2.out _).mono ?_
                rintro e w13 ⟨rfl, hb13⟩
                replace o_y := o_y.below hb13 o_y.lt
                replace o_two := o_two.below hb13 o_two.lt
                replace o_p := o_p.below hb13 o_p.lt
                replace o_z := o_z.below hb13 o_z.lt
                replace hbw := below6 hbw hb13
                clear hb13
                go_wp2_with fail
                refine (known37 _).mono ?_
                rintro e w9 ⟨rfl, hb9⟩
                go_wp2
                go_ret
                exact ⟨rfl, below6 hbw hb9⟩
              · rw [e1] at hc1
                have HC1 := Lib.hid hc1
                clear hc1 e1 HE1
                have qtwo_0 : wr.cell? ⟨g7, 0, none⟩ = some (.bool false) := o_two.cell 0
                have qtwo_1 : wr.cell? ⟨g7, 1, none⟩ = some (.string ⟨#[50]⟩) := o_two.cell 1
                have qtwo_2 : wr.cell? ⟨g7, 2, none⟩ = some (.string ⟨#[49]⟩) := o_two.cell 2
                have qp_0 : wr.cell? ⟨g7 + 1, 0, none⟩ = some (.bool np) := o_p.cell 0
                have qp_1 : wr.cell? ⟨g7 + 1, 1, none⟩ = some (.string sp) := o_p.cell 1
                have qp_2 : wr.cell? ⟨g7 + 1, 2, none⟩ = some (.string tp) := o_p.cell 2
                go_wp2_with fail
                clear qtwo_0 qtwo_1 qtwo_2 qp_0 qp_1 qp_2
                refine (HST.out _).mono ?_
                rintro e w8 ⟨rfl, hb8⟩
                replace o_y := o_y.below hb8 o_y.lt
                replace o_two := o_two.below hb8 o_two.lt
                replace o_p := o_p.below hb8 o_p.lt
                replace hbw := below6 hbw hb8
                clear hb8
                obtain ⟨o_z, hz9⟩ := new1 w8 [.bool nz, .string sz, .string tz] 26
                replace o_y := o_y.alloc (.cells #[.bool nz, .string sz, .string tz] 26)
                replace o_two := o_two.alloc (.cells #[.bool nz, .string sz, .string tz] 26)
                replace o_p := o_p.alloc (.cells #[.bool nz, .string sz, .string tz] 26)
                replace hbw := below6 hbw hz9
                clear hz9
                have qp_0 : (w8.alloc (.cells #[.bool nz, .string sz, .string tz] 26)).cell? ⟨g7 + 1, 0, none⟩ = some (.bool np) := o_p.cell 0
                have qp_1 : (w8.alloc (.cells #[.bool nz, .string sz, .string tz] 26)).cell? ⟨g7 + 1, 1, none⟩ = some (.string sp) := o_p.cell 1
                have qp_2 : (w8.alloc (.cells #[.bool nz, .string sz, .string tz] 26)).cell? ⟨g7 + 1, 2, none⟩ = some (.string tp) := o_p.cell 2
                have qy_0 : (w8.alloc (.cells #[.bool nz, .string sz, .string tz] 26)).cell? ⟨g5, 0, none⟩ = some (.bool ny) := o_y.cell 0
                have qy_1 : (w8.alloc (.cells #[.bool nz, .string sz, .string tz] 26)).cell? ⟨g5, 1, none⟩ = some (.string sy) := o_y.cell 1
                have qy_2 : (w8.alloc (.cells #[.bool nz, .string sz, .string tz] 26)).cell? ⟨g5, 2, none⟩ = some (.string ty) := o_y.cell 2
                go_wp2_with fail
                generalize (w8.alloc (.cells #[.bool nz, .string sz, .string tz] 26)) = wa10 at o_y o_two o_p o_z hbw ⊢
                generalize w8.heap.size = g10 at o_z ⊢
                clear qp_0 qp_1 qp_2 qy_0 qy_1 qy_2
                refine (HC1.out _).mono ?_
                rintro e w11 ⟨rfl, hb11⟩
                replace o_y := o_y.below hb11 o_y.lt
                replace o_two := o_two.below hb11 o_two.lt
                replace o_p := o_p.below hb11 o_p.lt
                replace o_z := o_z.below hb11 o_z.lt
                replace hbw := below6 hbw hb11
                clear hb11
                have qp_0 : w11.cell? ⟨g7 + 1, 0, none⟩ = some (.bool np) := o_p.cell 0
                have qp_1 : w11.cell? ⟨g7 + 1, 1, none⟩ = some (.string sp) := o_p.cell 1
                have qp_2 : w11.cell? ⟨g7 + 1, 2, none⟩ = some (.string tp) := o_p.cell 2
                have qy_0 : w11.cell? ⟨g5, 0, none⟩ = some (.bool ny) := o_y.cell 0
                have qy_1 : w11.cell? ⟨g5, 1, none⟩ = some (.string sy) := o_y.cell 1
                have qy_2 : w11.cell? ⟨g5, 2, none⟩ = some (.string ty) := o_y.cell 2
                go_wp2_with fail
                clear qp_0 qp_1 qp_2 qy_0 qy_1 qy_2
                refine (HC1.out _).mono ?_
                rintro e w12 ⟨rfl, hb12⟩
                replace o_y := o_y.below hb12 o_y.lt
                replace o_two := o_two.below hb12 o_two.lt
                replace o_p := o_p.below hb12 o_p.lt
                replace o_z := o_z.below hb12 o_z.lt
                replace hbw := below6 hbw hb12
                clear hb12
                have qy_0 : w12.cell? ⟨g5, 0, none⟩ = some (.bool ny) := o_y.cell 0
                have qy_1 : w12.cell? ⟨g5, 1, none⟩ = some (.string sy) := o_y.cell 1
                have qy_2 : w12.cell? ⟨g5, 2, none⟩ = some (.string ty) := o_y.cell 2
                have qz_0 : w12.cell? ⟨g10, 0, none⟩ = some (.bool nz) := o_z.cell 0
                have qz_1 : w12.cell? ⟨g10, 1, none⟩ = some (.string sz) := o_z.cell 1
                have qz_2 : w12.cell? ⟨g10, 2, none⟩ = some (.string tz) := o_z.cell 2
                go_wp2_with fail
                clear qy_0 qy_1 qy_2 qz_0 qz_1 qz_2
                refine (HC2.out _).mono ?_
                rintro e w13 ⟨rfl, hb13⟩
                replace o_y := o_y.below hb13 o_y.lt
                replace o_two := o_two.below hb13 o_two.lt
                replace o_p := o_p.below hb13 o_p.lt
                replace o_z := o_z.below hb13 o_z.lt
                replace hbw := below6 hbw hb13
                clear hb13
                go_wp2_with fail
                refine (known37 _).mono ?_
                rintro e w9 ⟨rfl, hb9⟩
                go_wp2
                go_ret
                exact ⟨rfl, below6 hbw hb9⟩
end Go.Proofs.Ytdjkgjpehneejaa
