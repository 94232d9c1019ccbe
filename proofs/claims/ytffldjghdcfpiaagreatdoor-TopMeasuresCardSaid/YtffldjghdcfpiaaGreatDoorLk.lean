/- Parts of the proof: Lc, Bi, Ls, Lf, Lh, Li, Lk. No condition of its own. -/
import Derived.Test.YtffldjghdcfpiaaGreatDoorJa
import Derived.Test.YtffldjghdcfpiaaGreatDoorLa
import Derived.Test.YtffldjghdcfpiaaGreatDoorMem
import Derived.Test.YtffldjghdcfpiaaGreatDoorLq
set_option linter.unusedSimpArgs false
set_option linter.unusedVariables false
set_option linter.unusedSectionVars false
set_option maxRecDepth 100000
set_option maxHeartbeats 4000000
namespace Go.Proofs.YtffldjghdcfpiaaGreatDoor
open Go.RowKit Dg

def Few (k : Nat) (x : Rat) : Prop := (dec x.num.natAbs).length ≤ k ∧ (dec x.den).length ≤ k
theorem dec_mono {m n k : Nat} (h : m ≤ n) (hn : (dec n).length ≤ k) : (dec m).length ≤ k := by
  rcases Nat.lt_or_ge (dec n).length (dec m).length with h1 | h1
  · have := dec_lt_of_len h1; omega
  · omega
theorem few_rat {neg : Bool} {m n k : Nat} (hn : 0 < n) (h1 : (dec m).length ≤ k) (h2 : (dec n).length ≤ k) : Few k (rat neg m n) := by
  refine ⟨?_, ?_⟩
  · rw [rat_abs neg hn]; exact dec_mono (Nat.div_le_self _ _) h1
  · rw [rat_den neg hn]; exact dec_mono (Nat.div_le_self _ _) h2
theorem Few.ok {k : Nat} {x : Rat} (h : Few k x) (hk : k ≤ 20000) : OkR x := ⟨Nat.le_trans h.1 hk, Nat.le_trans h.2 hk⟩
open Go.RowKit Dg

theorem rat_pow {x : Rat} (h : 0 < x) (K : Nat) : rat false (x.num.natAbs ^ K) (x.den ^ K) = x ^ K := by
  have h0 : 0 ≤ (x ^ K).num := Rat.num_nonneg.2 (Rat.pow_nonneg (Rat.le_of_lt h)); have e := rat_self (x ^ K); have e2 : decide ((x ^ K).num < 0) = false := decide_eq_false (by omega); rw [e2, Rat.num_pow, Rat.den_pow, Int.natAbs_pow] at e; exact e
theorem pow_dec {n j K : Nat} (hj : 0 < j * K) (h : (dec n).length ≤ j) : (dec (n ^ K)).length ≤ j * K := by
  refine dec_len_le hj ?_
  rcases Nat.eq_zero_or_pos K with rfl | hK
  · omega
  · rw [Nat.pow_mul]; exact Nat.pow_lt_pow_left (Nat.lt_of_lt_of_le (dec_lt n) (Nat.pow_le_pow_right (by decide) h)) (by omega)
theorem few_pow {x : Rat} {k : Nat} (hx : Few 70 x) (hk : k ≤ 8) : OkN (x.num.natAbs ^ (2 ^ k)) ∧ OkN (x.den ^ (2 ^ k)) := by
  have h1 : 2 ^ k ≤ 256 := Nat.le_trans (Nat.pow_le_pow_right (by decide) hk) (by decide); have h2 : 0 < 2 ^ k := Nat.pow_pos (by decide); generalize 2 ^ k = K at *; unfold OkN; refine ⟨?_, ?_⟩
  · have := pow_dec (K := K) (show 0 < 70 * K by omega) hx.1; omega
  · have := pow_dec (K := K) (show 0 < 70 * K by omega) hx.2; omega
theorem pos_num {x : Rat} (h : 0 < x) : 0 < x.num := by
  rcases Int.lt_trichotomy x.num 0 with h1 | h1 | h1
  · have h2 : 0 ≤ x.num := Rat.num_nonneg.2 (Rat.le_of_lt h)
    omega
  · rw [Rat.num_eq_zero.1 h1] at h; exact absurd h Rat.lt_irrefl
  · exact h1
theorem elog_yes {x : Rat} {k : Nat} (hx : Few 70 x) (h0 : 0 < x) (hk : k ≤ 8) (w : World) :
    Calls Tryz.prog 47 #[RV x, .int .i64 (k : Int)] w fun e w' => LogRes (x ^ (2 ^ k)) e ∧ Below w.heap.size w w' := by
  have ok := hx.ok (by omega : 70 ≤ 20000); have op := few_pow hx hk; have hn := pos_num h0; have e : decide (x.num < 0) = false := decide_eq_false (by omega); have hP : 0 < x.num.natAbs ^ (2 ^ k) := Nat.pow_pos (by omega); have hQ : 0 < x.den ^ (2 ^ k) := Nat.pow_pos (den_pos x); rw [← rat_pow h0]
  show Calls _ _ #[.agg #[.bool (decide (x.num < 0)), .string (S x.num.natAbs), .string (S x.den)], _] _ _
  have hy : RetV 35 #[.agg #[.bool (decide (x.num < 0)), .string (S x.num.natAbs), .string (S x.den)]] (.bool true) := fun w => isratio_yes w ok; rw [e] at hy ⊢; refine log_core _ _ k _ _ w hy (str_ne (by rw [← okS_0]; exact S_ne_0 (by omega))) hk (fun w => power_any _ k w ok.1 hk op.1) (fun w => power_any _ k w ok.2 hk op.2) hP hQ op.1.dw op.2.dw ?_ ?_
  · have := blen_dec op.1; omega
  · have := blen_dec op.2; omega
theorem rv_open' (x : Rat) : ∃ n s t, RV x = .agg #[.bool n, .string s, .string t] := ⟨_, _, _, rfl⟩
def uq (n : Int) (k : Nat) : Rat := rat (decide (n < 0)) n.natAbs (2 ^ k)
theorem uq_eq (n : Int) (k : Nat) : uq n k = (n : Rat) / ((2 ^ k : Nat) : Rat) := by
  unfold uq rat; have e : (if decide (n < 0) = true then -((n.natAbs : Nat) : Int) else (n.natAbs : Int)) = n := by
    by_cases h : n < 0
    · rw [if_pos (by simpa using h)]; omega
    · rw [if_neg (by simpa using h)]; omega
  rw [e, Rat.mkRat_eq_div]
theorem uq_few {n : Int} {k : Nat} (h1 : -2000000 ≤ n) (h2 : n ≤ 2000000) (hk : k ≤ 8) : Few 7 (uq n k) := by
  have h3 : 2 ^ k ≤ 256 := Nat.le_trans (Nat.pow_le_pow_right (by decide) hk) (by decide); exact few_rat (Nat.pow_pos (by decide)) (dec_len_le (by decide) (by omega)) (dec_len_le (by decide) (by omega))
theorem unit_any (n : Int) (k : Nat) (h1 : -2000000 ≤ n) (h2 : n ≤ 2000000) (hk : k ≤ 8) : RetV 48 #[.int .i64 n, .int .i64 (k : Int)] (RV (uq n k)) := by
  intro w; have hk2 : 2 ^ k ≤ 256 := Nat.le_trans (Nat.pow_le_pow_right (by decide) hk) (by decide); have zw : wrap64 ((2 : Int) ^ k) = ((2 ^ k : Nat) : Int) := by
    have e : (2 : Int) ^ k = ((2 ^ k : Nat) : Int) := by simp
    rw [e]; have h9 : ∀ K : Nat, K ≤ 256 → wrap64 (K : Int) = K := fun K h => by unfold wrap64; omega
    exact h9 _ hk2
  have ZW := Lib.hid zw; clear zw; have hfew := uq_few h1 h2 hk; have HM : Hid (RetV 7 #[.int .i64 n, .int .i64 ((2 ^ k : Nat) : Int)] (.tuple #[RV (uq n k), .int .i64 0])) := by
    intro w; have h2p : 0 < 2 ^ k := Nat.pow_pos (by decide); refine (make_any n ((2 ^ k : Nat) : Int) w (by omega) (by omega) (by omega) (by omega) (by omega)).mono ?_; rintro e w' ⟨hl, hb⟩; have e1 : decide (((2 ^ k : Nat) : Int) < 0) = false := decide_eq_false (by omega); have e2 : (((2 ^ k : Nat) : Int)).natAbs = 2 ^ k := Int.natAbs_natCast _; rw [e1, e2, Bool.bne_false] at hl; exact ⟨(hl.toRat h2p).ok (hfew.ok (by decide)), hb⟩
  obtain ⟨nu, su, tu, hu⟩ := rv_open' (uq n k); rw [hu] at HM ⊢; have hkI : (k : Int) ≤ 8 := by omega
  have hkI0 : (0 : Int) ≤ (k : Int) := by omega
  clear hu hfew hk2; obtain ⟨o_r, hbw⟩ := new1 w [.bool false, .string ⟨#[]⟩, .string ⟨#[]⟩] 26
  go_enter Tryz.func48, Tryz.ntmps48
  go_upto_region 1 with (fail)
  generalize (w.alloc (.cells #[.bool false, .string ⟨#[]⟩, .string ⟨#[]⟩] 26)) = wb at o_r hbw ⊢
  go_wp2_with fail
  rw [ZW.out]; refine (HM.out _).mono ?_; rintro e w1 ⟨rfl, hb1⟩; replace o_r := o_r.below hb1 o_r.lt; replace hbw := below6 hbw hb1; clear hb1; obtain ⟨o_u, hz2⟩ := new1 w1 [.bool nu, .string su, .string tu] 26; replace o_r := o_r.alloc (.cells #[.bool nu, .string su, .string tu] 26); replace hbw := below6 hbw hz2; clear hz2; obtain ⟨qu_0, qu_1, qu_2⟩ := o_u.cells3; obtain ⟨qr_0, qr_1, qr_2⟩ := o_r.cells3; obtain ⟨fr_0, fr_1, fr_2⟩ := o_r.frozens3; have oz := o_r.set3 (.bool nu) (.string su) (.string tu); have sz9 := Below.set3 hbw (g := w.heap.size) (by omega) (.bool nu) (.string su) (.string tu)
  go_wp2_with fail
  generalize ((((w1.alloc (.cells #[.bool nu, .string su, .string tu] 26)).setCell ⟨w.heap.size, 0, none⟩ (.bool nu)).setCell ⟨w.heap.size, 1, none⟩ (.string su)).setCell ⟨w.heap.size, 2, none⟩ (.string tu)) = wz at oz sz9 ⊢; obtain ⟨z0, z1, z2⟩ := oz.cells3; exact bodyPost_ret (v := .agg #[.bool nu, .string su, .string tu]) (by simp [results, Tryz.results48, go_sem, z0, z1, z2]) rfl ⟨rfl, sz9⟩
theorem bits_exact (nx : Bool) (sx tx : ByteArray) (nu : Bool) (su tu : ByteArray) (nv : Bool) (sv tv : ByteArray) (n : Int) (k : Nat) (h1 : -1000000 ≤ n) (h2 : n ≤ 1000000) (hk : k ≤ 8) (hl : RetV 47 #[.agg #[.bool nx, .string sx, .string tx], .int .i64 (k : Int)] (.tuple #[.int .i64 n, .bool true, .int .i64 0]))
    (hu : RetV 48 #[.int .i64 n, .int .i64 (k : Int)] (.agg #[.bool nu, .string su, .string tu])) (hv : RetV 48 #[.int .i64 (n + 1), .int .i64 (k : Int)] (.agg #[.bool nv, .string sv, .string tv])) :
    RetV 29 #[.agg #[.bool nx, .string sx, .string tx], .int .i64 (k : Int)] (.tuple #[.agg #[.bool nu, .string su, .string tu, .bool nu, .string su, .string tu], .int .i64 0]) := by
  intro w; have HL := Lib.hid hl; have HU := Lib.hid hu; have HV := Lib.hid hv; have zn : IntKind.i64.wrap (n + 1) = n + 1 := IntWalk.i64_in _ (by omega); clear hl hu hv; obtain ⟨o_x, o_r, hbw⟩ := new2 w [.bool nx, .string sx, .string tx] [.bool false, .string ⟨#[]⟩, .string ⟨#[]⟩, .bool false, .string ⟨#[]⟩, .string ⟨#[]⟩] 26 34
  go_enter Tryz.func29, Tryz.ntmps29
  go_upto_region 1 with (fail)
  generalize ((w.alloc (.cells #[.bool nx, .string sx, .string tx] 26)).alloc (.cells #[.bool false, .string ⟨#[]⟩, .string ⟨#[]⟩, .bool false, .string ⟨#[]⟩, .string ⟨#[]⟩] 34)) = wb at o_x o_r hbw ⊢; obtain ⟨qx_0, qx_1, qx_2⟩ := o_x.cells3
  go_wp2_with fail
  clear qx_0 qx_1 qx_2; refine (HL.out _).mono ?_; rintro e w1 ⟨rfl, hb1⟩; replace o_x := o_x.below hb1 o_x.lt; replace o_r := o_r.below hb1 o_r.lt; replace hbw := below6 hbw hb1; clear hb1; obtain ⟨qx_0, qx_1, qx_2⟩ := o_x.cells3
  go_wp2_with fail
  clear qx_0 qx_1 qx_2; refine (HU.out _).mono ?_; rintro e w2 ⟨rfl, hb2⟩; replace o_x := o_x.below hb2 o_x.lt; replace o_r := o_r.below hb2 o_r.lt; replace hbw := below6 hbw hb2; clear hb2; obtain ⟨qx_0, qx_1, qx_2⟩ := o_x.cells3
  go_wp2_with fail
  clear qx_0 qx_1 qx_2; refine (HU.out _).mono ?_; rintro e w3 ⟨rfl, hb3⟩; replace o_x := o_x.below hb3 o_x.lt; replace o_r := o_r.below hb3 o_r.lt; replace hbw := below6 hbw hb3; clear hb3; obtain ⟨qr_0, qr_1, qr_2, qr_3, qr_4, qr_5⟩ := o_r.cells6; obtain ⟨fr_0, fr_1, fr_2, fr_3, fr_4, fr_5⟩ := o_r.frozens6; have oz := o_r.set6 (.bool nu) (.string su) (.string tu) (.bool nu) (.string su) (.string tu); have sz9 := Below.set6 hbw (g := w.heap.size + 1) (by omega) (.bool nu) (.string su) (.string tu) (.bool nu) (.string su) (.string tu)
  go_wp2_with fail
  generalize ((((((w3.setCell ⟨w.heap.size + 1, 0, none⟩ (.bool nu)).setCell ⟨w.heap.size + 1, 1, none⟩ (.string su)).setCell ⟨w.heap.size + 1, 2, none⟩ (.string tu)).setCell ⟨w.heap.size + 1, 3, none⟩ (.bool nu)).setCell ⟨w.heap.size + 1, 4, none⟩ (.string su)).setCell ⟨w.heap.size + 1, 5, none⟩ (.string tu)) = wz at oz sz9 ⊢; obtain ⟨z0, z1, z2, z3, z4, z5⟩ := oz.cells6; exact bodyPost_ret (v := .tuple #[.agg #[.bool nu, .string su, .string tu, .bool nu, .string su, .string tu], .int .i64 0]) (by simp [results, Tryz.results29, go_sem, z0, z1, z2, z3, z4, z5]) rfl ⟨rfl, sz9⟩
theorem bits_open (nx : Bool) (sx tx : ByteArray) (nu : Bool) (su tu : ByteArray) (nv : Bool) (sv tv : ByteArray) (n : Int) (k : Nat) (h1 : -1000000 ≤ n) (h2 : n ≤ 1000000) (hk : k ≤ 8) (hl : RetV 47 #[.agg #[.bool nx, .string sx, .string tx], .int .i64 (k : Int)] (.tuple #[.int .i64 n, .bool false, .int .i64 0]))
    (hu : RetV 48 #[.int .i64 n, .int .i64 (k : Int)] (.agg #[.bool nu, .string su, .string tu])) (hv : RetV 48 #[.int .i64 (n + 1), .int .i64 (k : Int)] (.agg #[.bool nv, .string sv, .string tv])) :
    RetV 29 #[.agg #[.bool nx, .string sx, .string tx], .int .i64 (k : Int)] (.tuple #[.agg #[.bool nu, .string su, .string tu, .bool nv, .string sv, .string tv], .int .i64 0]) := by
  intro w; have HL := Lib.hid hl; have HU := Lib.hid hu; have HV := Lib.hid hv; have zn : IntKind.i64.wrap (n + 1) = n + 1 := IntWalk.i64_in _ (by omega); clear hl hu hv; obtain ⟨o_x, o_r, hbw⟩ := new2 w [.bool nx, .string sx, .string tx] [.bool false, .string ⟨#[]⟩, .string ⟨#[]⟩, .bool false, .string ⟨#[]⟩, .string ⟨#[]⟩] 26 34
  go_enter Tryz.func29, Tryz.ntmps29
  go_upto_region 1 with (fail)
  generalize ((w.alloc (.cells #[.bool nx, .string sx, .string tx] 26)).alloc (.cells #[.bool false, .string ⟨#[]⟩, .string ⟨#[]⟩, .bool false, .string ⟨#[]⟩, .string ⟨#[]⟩] 34)) = wb at o_x o_r hbw ⊢; obtain ⟨qx_0, qx_1, qx_2⟩ := o_x.cells3
  go_wp2_with fail
  clear qx_0 qx_1 qx_2; refine (HL.out _).mono ?_; rintro e w1 ⟨rfl, hb1⟩; replace o_x := o_x.below hb1 o_x.lt; replace o_r := o_r.below hb1 o_r.lt; replace hbw := below6 hbw hb1; clear hb1; obtain ⟨qx_0, qx_1, qx_2⟩ := o_x.cells3
  go_wp2_with fail
  clear qx_0 qx_1 qx_2; refine (HU.out _).mono ?_; rintro e w2 ⟨rfl, hb2⟩; replace o_x := o_x.below hb2 o_x.lt; replace o_r := o_r.below hb2 o_r.lt; replace hbw := below6 hbw hb2; clear hb2; obtain ⟨qx_0, qx_1, qx_2⟩ := o_x.cells3
  go_wp2_with fail
  clear qx_0 qx_1 qx_2; refine (HV.out _).mono ?_; rintro e w3 ⟨rfl, hb3⟩; replace o_x := o_x.below hb3 o_x.lt; replace o_r := o_r.below hb3 o_r.lt; replace hbw := below6 hbw hb3; clear hb3; obtain ⟨qr_0, qr_1, qr_2, qr_3, qr_4, qr_5⟩ := o_r.cells6; obtain ⟨fr_0, fr_1, fr_2, fr_3, fr_4, fr_5⟩ := o_r.frozens6; have oz := o_r.set6 (.bool nu) (.string su) (.string tu) (.bool nv) (.string sv) (.string tv); have sz9 := Below.set6 hbw (g := w.heap.size + 1) (by omega) (.bool nu) (.string su) (.string tu) (.bool nv) (.string sv) (.string tv)
  go_wp2_with fail
  generalize ((((((w3.setCell ⟨w.heap.size + 1, 0, none⟩ (.bool nu)).setCell ⟨w.heap.size + 1, 1, none⟩ (.string su)).setCell ⟨w.heap.size + 1, 2, none⟩ (.string tu)).setCell ⟨w.heap.size + 1, 3, none⟩ (.bool nv)).setCell ⟨w.heap.size + 1, 4, none⟩ (.string sv)).setCell ⟨w.heap.size + 1, 5, none⟩ (.string tv)) = wz at oz sz9 ⊢; obtain ⟨z0, z1, z2, z3, z4, z5⟩ := oz.cells6; exact bodyPost_ret (v := .tuple #[.agg #[.bool nu, .string su, .string tu, .bool nv, .string sv, .string tv], .int .i64 0]) (by simp [results, Tryz.results29, go_sem, z0, z1, z2, z3, z4, z5]) rfl ⟨rfl, sz9⟩
abbrev IV (x y : Rat) : Value := .agg #[.bool (decide (x.num < 0)), .string (S x.num.natAbs), .string (S x.den), .bool (decide (y.num < 0)), .string (S y.num.natAbs), .string (S y.den)]
theorem ebits_yes {x : Rat} {k : Nat} (hx : Few 70 x) (h0 : 0 < x) (hk : k ≤ 8) (w0 : World) : ∃ n : Int, IsLog (x ^ (2 ^ k)) n ∧ -1000000 ≤ n ∧ n ≤ 1000000 ∧
    RetV 47 #[RV x, .int .i64 (k : Int)] (.tuple #[.int .i64 n, .bool (decide (p2 n = x ^ (2 ^ k))), .int .i64 0]) ∧
    RetV 29 #[RV x, .int .i64 (k : Int)] (.tuple #[IV (uq n k) (if p2 n = x ^ (2 ^ k) then uq n k else uq (n + 1) k), .int .i64 0]) := by
  have hx2 : ∃ n : Int, IsLog (x ^ (2 ^ k)) n ∧ -1000000 ≤ n ∧ n ≤ 1000000 := by
    have hn := pos_num h0; have op := few_pow hx hk; have hP : 0 < x.num.natAbs ^ (2 ^ k) := Nat.pow_pos (by omega); have hQ : 0 < x.den ^ (2 ^ k) := Nat.pow_pos (den_pos x); have g1 := blen_dec op.1; have g2 := blen_dec op.2; rw [← rat_pow h0]
    by_cases h : p2 ((blen (x.num.natAbs ^ (2 ^ k)) : Int) - blen (x.den ^ (2 ^ k))) ≤ rat false (x.num.natAbs ^ (2 ^ k)) (x.den ^ (2 ^ k))
    · exact ⟨_, log_up hP hQ h, by omega, by omega⟩
    · exact ⟨_, log_down hP hQ (Rat.not_le.1 h), by omega, by omega⟩
  obtain ⟨n, hn, h1, h2⟩ := hx2; have hl : RetV 47 #[RV x, .int .i64 (k : Int)] (.tuple #[.int .i64 n, .bool (decide (p2 n = x ^ (2 ^ k))), .int .i64 0]) := fun w =>
    (elog_yes hx h0 hk w).mono fun e w' ⟨he, hb⟩ => ⟨he.eq ⟨n, rfl, hn, h1, h2⟩, hb⟩
  refine ⟨n, hn, h1, h2, hl, ?_⟩
  by_cases he : p2 n = x ^ (2 ^ k)
  · rw [if_pos he]; have e : decide (p2 n = x ^ (2 ^ k)) = true := decide_eq_true he; rw [e] at hl; exact bits_exact _ _ _ _ _ _ _ _ _ n k h1 h2 hk hl (unit_any n k (by omega) (by omega) hk) (unit_any (n + 1) k (by omega) (by omega) hk)
  · rw [if_neg he]; have e : decide (p2 n = x ^ (2 ^ k)) = false := decide_eq_false he; rw [e] at hl; exact bits_open _ _ _ _ _ _ _ _ _ n k h1 h2 hk hl (unit_any n k (by omega) (by omega) hk) (unit_any (n + 1) k (by omega) (by omega) hk)
open Go.RowKit Dg

theorem Chg.fresh {S : Nat → Prop} {w w' : World} (h : Chg S w w') {g : Nat} (hg : w.heap.size ≤ g) (i : Nat) (u : Value) : Chg S w (w'.setCell ⟨g, i, none⟩ u) :=
  ⟨h.os, h.tape, h.output, by have := h.size; simpa [World.setCell] using this, fun k hk hs => (Below.heap_setCell _ _ _ _ (fun e => by have e2 : k = g := e; omega)).trans (h.block k hk hs)⟩
open Go.RowKit Dg

theorem Few.mono {j k : Nat} {x : Rat} (h : Few j x) (hjk : j ≤ k) : Few k x := ⟨Nat.le_trans h.1 hjk, Nat.le_trans h.2 hjk⟩
theorem few_mul' {j k : Nat} (h0 : 0 < j + k) {x y : Rat} (hx : Few j x) (hy : Few k y) : Few (j + k) (x * y) := by
  have e : x * y = rat (decide (x.num < 0) != decide (y.num < 0)) (x.num.natAbs * y.num.natAbs) (x.den * y.den) := by rw [rat_mul, rat_self, rat_self]
  have hd : 0 < x.den * y.den := Nat.mul_pos (den_pos x) (den_pos y); have few_lt : ∀ {n k : Nat}, (dec n).length ≤ k → n < 10 ^ k := fun h => Nat.lt_of_lt_of_le (dec_lt _) (Nat.pow_le_pow_right (by decide) h); rw [e]; refine few_rat hd (dec_len_le h0 ?_) (dec_len_le h0 ?_)
  · rw [Nat.pow_add]; exact Nat.mul_lt_mul'' (few_lt hx.1) (few_lt hy.1)
  · rw [Nat.pow_add]; exact Nat.mul_lt_mul'' (few_lt hx.2) (few_lt hy.2)
open Go.RowKit Dg

theorem cmpR_le {x y : Rat} : cmpR x y ≤ 0 ↔ x ≤ y := by
  have h := cmpR_gt (x := x) (y := y); rw [← Rat.not_lt, ← h]; omega
theorem uq_le {a b : Int} {j k : Nat} : uq a j ≤ uq b k ↔ a * ((2 ^ k : Nat) : Int) ≤ b * ((2 ^ j : Nat) : Int) := by
  rw [uq_eq, uq_eq]; have hj : (0 : Rat) < ((2 ^ j : Nat) : Rat) := Rat.natCast_pos.2 (Nat.pow_pos (by decide)); have hk : (0 : Rat) < ((2 ^ k : Nat) : Rat) := Rat.natCast_pos.2 (Nat.pow_pos (by decide)); rw [← Rat.not_lt, Rat.lt_div_iff hj]; have e : ∀ p q r : Rat, p / q * r = p * r / q := by intro p q r; rw [Rat.div_def, Rat.div_def, Rat.mul_assoc, Rat.mul_comm q⁻¹, ← Rat.mul_assoc]
  rw [e, Rat.div_lt_iff hk]; have e1 : ∀ (a : Int) (n : Nat), (a : Rat) * (n : Rat) = ((a * n : Int) : Rat) := by intro a n; rw [Rat.intCast_mul]; rfl
  rw [e1, e1, Rat.intCast_lt_intCast]
  omega
theorem evalid_yes {x y : Rat} (hx : OkR x) (hy : OkR y) : RetV 32 #[IV x y] (.bool (decide (x ≤ y))) := by
  have h := evalid_core _ _ _ _ _ _ true true (cmpR x y) (fun w => isratio_yes w hx) (fun w => isratio_yes w hy) (fun _ _ w => rcmp_yes hx hy w); have e : (true && (true && decide (cmpR x y ≤ 0))) = decide (x ≤ y) := by
    simp [cmpR_le]
  rw [e] at h; exact h
open Go.RowKit Dg

section
variable {w0 w w' : World} {p : Nat} {A : Option Addr} {l : List Int} {c a a0 : Nat}
theorem Own.far3 {g : Nat} {t : TypeId} {cs : List Value} (h : Own w g t cs) {b : Nat} (hb : g ≠ b) (x y z : Value) : Own (((w.setCell ⟨b, 0, none⟩ x).setCell ⟨b, 1, none⟩ y).setCell ⟨b, 2, none⟩ z) g t cs :=
  ((h.far (p := ⟨b, 0, none⟩) hb x).far (p := ⟨b, 1, none⟩) hb y).far (p := ⟨b, 2, none⟩) hb z
end
open Go.RowKit Dg

theorem cmpR_lt {x y : Rat} : cmpR x y < 0 ↔ x < y := by
  have h := cmpR_gt (x := y) (y := x); rw [cmpR_swap y x] at h; rw [← h]; omega
def icmp (x1 y1 x2 y2 : Rat) : Int := if y1 < x2 then -1 else if y2 < x1 then 1 else 0
theorem icmp_core (x1 y1 x2 y2 : Rat) : (if (true && true) = true then (if cmpR y1 x2 < 0 then (-1 : Int) else if cmpR y2 x1 < 0 then 1 else 0) else 0) = icmp x1 y1 x2 y2 := by
  simp only [Bool.and_self, if_true, cmpR_lt]
  rfl
theorem ecompare_yes {x1 y1 x2 y2 : Rat} (h1 : OkR x1) (h2 : OkR y1) (h3 : OkR x2) (h4 : OkR y2) (h5 : x1 ≤ y1) (h6 : x2 ≤ y2) : RetV 14 #[IV x1 y1, IV x2 y2] (.int .i64 (icmp x1 y1 x2 y2)) := by
  have v1 := evalid_yes h1 h2; have v2 := evalid_yes h3 h4; rw [decide_eq_true h5] at v1; rw [decide_eq_true h6] at v2; have h := ecompare_core _ _ _ _ _ _ _ _ _ _ _ _ true true (cmpR y1 x2) (cmpR y2 x1) v1 v2 (fun _ _ w => rcmp_yes h2 h3 w) (fun _ _ w => rcmp_yes h4 h1 w); rw [icmp_core] at h; exact h
theorem econtains_yes {x y z : Rat} (h1 : OkR x) (h2 : OkR y) (h3 : OkR z) (h5 : x ≤ y) (h6 : x ≤ z) (h7 : z ≤ y) : RetV 18 #[IV x y, RV z] (.bool true) := by
  have v1 := evalid_yes h1 h2; rw [decide_eq_true h5] at v1; have h := econtains_core _ _ _ _ _ _ _ _ _ true true (cmpR x z) (cmpR z y) v1 (fun w => isratio_yes w h3) (fun _ _ w => rcmp_yes h1 h3 w) (fun _ _ w => rcmp_yes h3 h2 w); have e : (true && (true && (decide (cmpR x z ≤ 0) && decide (cmpR z y ≤ 0)))) = true := by
    simp [cmpR_le, h6, h7]
  rw [e] at h; exact h

end Go.Proofs.YtffldjghdcfpiaaGreatDoor
