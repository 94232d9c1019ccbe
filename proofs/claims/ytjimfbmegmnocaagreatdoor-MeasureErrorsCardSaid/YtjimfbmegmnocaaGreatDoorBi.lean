/- Parts of the proof: Lc, Bi. No condition of its own. -/
import Derived.Test.YtjimfbmegmnocaaGreatDoorIt
import Derived.Test.YtjimfbmegmnocaaGreatDoorMem
import Derived.Test.YtjimfbmegmnocaaGreatDoorLq
import Derived.Test.YtjimfbmegmnocaaGreatDoorNm
set_option linter.unusedSimpArgs false
set_option linter.unusedVariables false
set_option maxRecDepth 100000
set_option maxHeartbeats 4000000
namespace Go.Proofs.YtjimfbmegmnocaaGreatDoor
open Go.RowKit Dg

def Few (k : Nat) (x : Rat) : Prop := (dec x.num.natAbs).length <= k /\ (dec x.den).length <= k
theorem dec_mono {m n k : Nat} (h : m <= n) (hn : (dec n).length <= k) : (dec m).length <= k := by
 rcases Nat.lt_or_ge (dec n).length (dec m).length with h1 | h1
 ·have := dec_lt_of_len h1; omega
 ·omega
theorem few_rat {neg : Bool} {m n k : Nat} (hn : 0 < n) (h1 : (dec m).length <= k) (h2 : (dec n).length <= k) : Few k (rat neg m n) := by
 refine ⟨?_, ?_⟩
 ·rw [rat_abs neg hn]; exact dec_mono (Nat.div_le_self _ _) h1
 ·rw [rat_den neg hn]; exact dec_mono (Nat.div_le_self _ _) h2
theorem Few.ok {k : Nat} {x : Rat} (h : Few k x) (hk : k <= 20000) : OkR x := ⟨Nat.le_trans h.1 hk, Nat.le_trans h.2 hk⟩
open Go.RowKit Dg

theorem rat_pow {x : Rat} (h : 0 < x) (K : Nat) : rat false (x.num.natAbs ^ K) (x.den ^ K) = x ^ K := by
 have h0 : 0 <= (x ^ K).num := Rat.num_nonneg.2 (Rat.pow_nonneg (Rat.le_of_lt h)); have e := rat_self (x ^ K); have e2 : decide ((x ^ K).num < 0) = false := decide_eq_false (by omega); rw [e2, Rat.num_pow, Rat.den_pow, Int.natAbs_pow] at e; exact e
theorem pow_dec {n j K : Nat} (hj : 0 < j * K) (h : (dec n).length <= j) : (dec (n ^ K)).length <= j * K := by
 refine dec_len_le hj ?_
 rcases Nat.eq_zero_or_pos K with rfl | hK
 ·omega
 ·rw [Nat.pow_mul]; exact Nat.pow_lt_pow_left (Nat.lt_of_lt_of_le (dec_lt n) (Nat.pow_le_pow_right (by decide) h)) (by omega)
theorem few_pow {x : Rat} {k : Nat} (hx : Few 70 x) (hk : k <= 8) : OkN (x.num.natAbs ^ (2 ^ k)) /\ OkN (x.den ^ (2 ^ k)) := by
 have h1 : 2 ^ k <= 256 := Nat.le_trans (Nat.pow_le_pow_right (by decide) hk) (by decide); have h2 : 0 < 2 ^ k := Nat.pow_pos (by decide); generalize 2 ^ k = K at *; unfold OkN; refine ⟨?_, ?_⟩
 ·have := pow_dec (K := K) (show 0 < 70 * K by omega) hx.1; omega
 ·have := pow_dec (K := K) (show 0 < 70 * K by omega) hx.2; omega
theorem pos_num {x : Rat} (h : 0 < x) : 0 < x.num := by
 rcases Int.lt_trichotomy x.num 0 with h1 | h1 | h1
 ·have h2 : 0 <= x.num := Rat.num_nonneg.2 (Rat.le_of_lt h)
  omega
 ·rw [Rat.num_eq_zero.1 h1] at h; exact absurd h Rat.lt_irrefl
 ·exact h1
theorem elog_yes {x : Rat} {k : Nat} (hx : Few 70 x) (h0 : 0 < x) (hk : k <= 8) (hs9 : x.den < 4294967296) (w : World) :
  Calls Tryz.prog 80 #[RV x, .int .i64 (k : Int)] w fun e w' => LogRes (x ^ (2 ^ k)) e /\ Below w.heap.size w w' := by
 have HS9 := Z' hs9; clear hs9; have ok := hx.ok (by omega : 70 <= 20000); have op := few_pow hx hk; have hn := pos_num h0; have e : decide (x.num < 0) = false := decide_eq_false (by omega); have hP : 0 < x.num.natAbs ^ (2 ^ k) := Nat.pow_pos (by omega); have hQ : 0 < x.den ^ (2 ^ k) := Nat.pow_pos (den_pos x); rw [<- rat_pow h0]
 show Calls _ _ #[.agg #[.bool (decide (x.num < 0)), .string (S x.num.natAbs), .string (S x.den)], _] _ _
 have hy : RetV 99 #[.agg #[.bool (decide (x.num < 0)), .string (S x.num.natAbs), .string (S x.den)]] (.bool true) := fun w => isratio_yes w ok HS9.out; rw [e] at hy |-; refine log_core _ _ k _ _ w hy (str_ne (by rw [<- okS_0]; exact S_ne_0 (by omega))) hk (fun w => power_any _ k w ok.1 hk op.1) (fun w => power_any _ k w ok.2 hk op.2) hP hQ op.1.dw op.2.dw ?_ ?_
 ·have := blen_dec op.1; omega
 ·have := blen_dec op.2; omega
theorem rv_open' (x : Rat) : ∃ n s t, RV x = .agg #[.bool n, .string s, .string t] := ⟨_, _, _, rfl⟩
def uq (n : Int) (k : Nat) : Rat := rat (decide (n < 0)) n.natAbs (2 ^ k)
theorem uq_few {n : Int} {k : Nat} (h1 : -2000000 <= n) (h2 : n <= 2000000) (hk : k <= 8) : Few 7 (uq n k) := by
 have h3 : 2 ^ k <= 256 := Nat.le_trans (Nat.pow_le_pow_right (by decide) hk) (by decide); exact few_rat (Nat.pow_pos (by decide)) (dec_len_le (by decide) (by omega)) (dec_len_le (by decide) (by omega))
theorem unit_any (n : Int) (k : Nat) (h1 : -2000000 <= n) (h2 : n <= 2000000) (hk : k <= 8) : RetV 81 #[.int .i64 n, .int .i64 (k : Int)] (RV (uq n k)) := by
 intro w; have hk2 : 2 ^ k <= 256 := Nat.le_trans (Nat.pow_le_pow_right (by decide) hk) (by decide); have zw : wrap64 ((2 : Int) ^ k) = ((2 ^ k : Nat) : Int) := by
  have e : (2 : Int) ^ k = ((2 ^ k : Nat) : Int) := by simp
  rw [e]; have h9 : ∀ K : Nat, K <= 256 -> wrap64 (K : Int) = K := fun K h => by unfold wrap64; omega
  exact h9 _ hk2
 have ZW := Z' zw; clear zw; have hfew := uq_few h1 h2 hk; have HM : Hid (RetV 104 #[.int .i64 n, .int .i64 ((2 ^ k : Nat) : Int)] (.tuple #[RV (uq n k), .int .i64 0])) := by
  intro w; have h2p : 0 < 2 ^ k := Nat.pow_pos (by decide); refine (make_any n ((2 ^ k : Nat) : Int) w (by omega) (by omega) (by omega) (by omega) (by omega) (by rw [Int.natAbs_natCast]; exact Nat.lt_of_le_of_lt (Nat.pow_le_pow_right (by decide) hk) (by decide))).mono ?_; rintro e w' ⟨hl, hb⟩; have e1 : decide (((2 ^ k : Nat) : Int) < 0) = false := decide_eq_false (by omega); have e2 : (((2 ^ k : Nat) : Int)).natAbs = 2 ^ k := Int.natAbs_natCast _; rw [e1, e2, Bool.bne_false] at hl; exact ⟨(hl.toRat h2p).ok (hfew.ok (by decide)), hb⟩
 obtain ⟨nu, su, tu, hu⟩ := rv_open' (uq n k); rw [hu] at HM |-; have hkI : (k : Int) <= 8 := by omega
 have hkI0 : (0 : Int) <= (k : Int) := by omega
 clear hu hfew hk2; obtain ⟨o_r, hbw⟩ := new1 w [.bool false, .string ⟨#[]⟩, .string ⟨#[]⟩] 73
 go_enter Tryz.func81, Tryz.ntmps81
 go_upto_region 1 with (fail)
 generalize (w.alloc (.cells #[.bool false, .string ⟨#[]⟩, .string ⟨#[]⟩] 73)) = wb at o_r hbw |-
 go_wp2_with fail
 rw [ZW.out]; refine (HM.out _).mono ?_; rintro e w1 ⟨rfl, hb1⟩; replace o_r := o_r.below hb1 o_r.lt; replace hbw := below6 hbw hb1; clear hb1; obtain ⟨o_u, hz2⟩ := new1 w1 [.bool nu, .string su, .string tu] 73; replace o_r := o_r.alloc (.cells #[.bool nu, .string su, .string tu] 73); replace hbw := below6 hbw hz2; clear hz2; obtain ⟨qu_0, qu_1, qu_2⟩ := o_u.cells3; obtain ⟨qr_0, qr_1, qr_2⟩ := o_r.cells3; obtain ⟨fr_0, fr_1, fr_2⟩ := o_r.frozens3; have oz := o_r.set3 (.bool nu) (.string su) (.string tu); have sz9 := Below.set3 hbw (g := w.heap.size) (by omega) (.bool nu) (.string su) (.string tu)
 go_wp2_with fail
 generalize ((((w1.alloc (.cells #[.bool nu, .string su, .string tu] 73)).setCell ⟨w.heap.size, 0, none⟩ (.bool nu)).setCell ⟨w.heap.size, 1, none⟩ (.string su)).setCell ⟨w.heap.size, 2, none⟩ (.string tu)) = wz at oz sz9 |-; obtain ⟨z0, z1, z2⟩ := oz.cells3; exact bodyPost_ret (v := .agg #[.bool nu, .string su, .string tu]) (by simp [results, Tryz.results81, go_sem, z0, z1, z2]) rfl ⟨rfl, sz9⟩
theorem bits_exact (nx : Bool) (sx tx : ByteArray) (nu : Bool) (su tu : ByteArray) (nv : Bool) (sv tv : ByteArray) (n : Int) (k : Nat) (h1 : -1000000 <= n) (h2 : n <= 1000000) (hk : k <= 8) (hl : RetV 80 #[.agg #[.bool nx, .string sx, .string tx], .int .i64 (k : Int)] (.tuple #[.int .i64 n, .bool true, .int .i64 0]))
  (hu : RetV 81 #[.int .i64 n, .int .i64 (k : Int)] (.agg #[.bool nu, .string su, .string tu])) (hv : RetV 81 #[.int .i64 (n + 1), .int .i64 (k : Int)] (.agg #[.bool nv, .string sv, .string tv])) :
  RetV 64 #[.agg #[.bool nx, .string sx, .string tx], .int .i64 (k : Int)] (.tuple #[.agg #[.bool nu, .string su, .string tu, .bool nu, .string su, .string tu], .int .i64 0]) := by
 intro w; have HL := Z' hl; have HU := Z' hu; have HV := Z' hv; have zn : IntKind.i64.wrap (n + 1) = n + 1 := IntWalk.i64_in _ (by omega); clear hl hu hv; obtain ⟨o_x, o_r, hbw⟩ := new2 w [.bool nx, .string sx, .string tx] [.bool false, .string ⟨#[]⟩, .string ⟨#[]⟩, .bool false, .string ⟨#[]⟩, .string ⟨#[]⟩] 73 77
 go_enter Tryz.func64, Tryz.ntmps64
 go_upto_region 1 with (fail)
 generalize ((w.alloc (.cells #[.bool nx, .string sx, .string tx] 73)).alloc (.cells #[.bool false, .string ⟨#[]⟩, .string ⟨#[]⟩, .bool false, .string ⟨#[]⟩, .string ⟨#[]⟩] 77)) = wb at o_x o_r hbw |-; have qx_0 := o_x.c0; have qx_1 := o_x.c1; have qx_2 := o_x.c2
 go_wp2_with fail
 clear qx_0 qx_1 qx_2; refine (HL.out _).mono ?_; rintro e w1 ⟨rfl, hb1⟩; replace o_x := o_x.below hb1 o_x.lt; replace o_r := o_r.below hb1 o_r.lt; replace hbw := below6 hbw hb1; clear hb1; have qx_0 := o_x.c0; have qx_1 := o_x.c1; have qx_2 := o_x.c2
 go_wp2_with fail
 clear qx_0 qx_1 qx_2; refine (HU.out _).mono ?_; rintro e w2 ⟨rfl, hb2⟩; replace o_x := o_x.below hb2 o_x.lt; replace o_r := o_r.below hb2 o_r.lt; replace hbw := below6 hbw hb2; clear hb2; have qx_0 := o_x.c0; have qx_1 := o_x.c1; have qx_2 := o_x.c2
 go_wp2_with fail
 clear qx_0 qx_1 qx_2; refine (HU.out _).mono ?_; rintro e w3 ⟨rfl, hb3⟩; replace o_x := o_x.below hb3 o_x.lt; replace o_r := o_r.below hb3 o_r.lt; replace hbw := below6 hbw hb3; clear hb3; obtain ⟨qr_0, qr_1, qr_2, qr_3, qr_4, qr_5⟩ := o_r.cells6; obtain ⟨fr_0, fr_1, fr_2, fr_3, fr_4, fr_5⟩ := o_r.frozens6; have oz := o_r.set6 (.bool nu) (.string su) (.string tu) (.bool nu) (.string su) (.string tu); have sz9 := Below.set6 hbw (g := w.heap.size + 1) (by omega) (.bool nu) (.string su) (.string tu) (.bool nu) (.string su) (.string tu)
 go_wp2_with fail
 generalize ((((((w3.setCell ⟨w.heap.size + 1, 0, none⟩ (.bool nu)).setCell ⟨w.heap.size + 1, 1, none⟩ (.string su)).setCell ⟨w.heap.size + 1, 2, none⟩ (.string tu)).setCell ⟨w.heap.size + 1, 3, none⟩ (.bool nu)).setCell ⟨w.heap.size + 1, 4, none⟩ (.string su)).setCell ⟨w.heap.size + 1, 5, none⟩ (.string tu)) = wz at oz sz9 |-; obtain ⟨z0, z1, z2, z3, z4, z5⟩ := oz.cells6; exact bodyPost_ret (v := .tuple #[.agg #[.bool nu, .string su, .string tu, .bool nu, .string su, .string tu], .int .i64 0]) (by simp [results, Tryz.results64, go_sem, z0, z1, z2, z3, z4, z5]) rfl ⟨rfl, sz9⟩
theorem bits_open (nx : Bool) (sx tx : ByteArray) (nu : Bool) (su tu : ByteArray) (nv : Bool) (sv tv : ByteArray) (n : Int) (k : Nat) (h1 : -1000000 <= n) (h2 : n <= 1000000) (hk : k <= 8) (hl : RetV 80 #[.agg #[.bool nx, .string sx, .string tx], .int .i64 (k : Int)] (.tuple #[.int .i64 n, .bool false, .int .i64 0]))
  (hu : RetV 81 #[.int .i64 n, .int .i64 (k : Int)] (.agg #[.bool nu, .string su, .string tu])) (hv : RetV 81 #[.int .i64 (n + 1), .int .i64 (k : Int)] (.agg #[.bool nv, .string sv, .string tv])) :
  RetV 64 #[.agg #[.bool nx, .string sx, .string tx], .int .i64 (k : Int)] (.tuple #[.agg #[.bool nu, .string su, .string tu, .bool nv, .string sv, .string tv], .int .i64 0]) := by
 intro w; have HL := Z' hl; have HU := Z' hu; have HV := Z' hv; have zn : IntKind.i64.wrap (n + 1) = n + 1 := IntWalk.i64_in _ (by omega); clear hl hu hv; obtain ⟨o_x, o_r, hbw⟩ := new2 w [.bool nx, .string sx, .string tx] [.bool false, .string ⟨#[]⟩, .string ⟨#[]⟩, .bool false, .string ⟨#[]⟩, .string ⟨#[]⟩] 73 77
 go_enter Tryz.func64, Tryz.ntmps64
 go_upto_region 1 with (fail)
 generalize ((w.alloc (.cells #[.bool nx, .string sx, .string tx] 73)).alloc (.cells #[.bool false, .string ⟨#[]⟩, .string ⟨#[]⟩, .bool false, .string ⟨#[]⟩, .string ⟨#[]⟩] 77)) = wb at o_x o_r hbw |-; have qx_0 := o_x.c0; have qx_1 := o_x.c1; have qx_2 := o_x.c2
 go_wp2_with fail
 clear qx_0 qx_1 qx_2; refine (HL.out _).mono ?_; rintro e w1 ⟨rfl, hb1⟩; replace o_x := o_x.below hb1 o_x.lt; replace o_r := o_r.below hb1 o_r.lt; replace hbw := below6 hbw hb1; clear hb1; have qx_0 := o_x.c0; have qx_1 := o_x.c1; have qx_2 := o_x.c2
 go_wp2_with fail
 clear qx_0 qx_1 qx_2; refine (HU.out _).mono ?_; rintro e w2 ⟨rfl, hb2⟩; replace o_x := o_x.below hb2 o_x.lt; replace o_r := o_r.below hb2 o_r.lt; replace hbw := below6 hbw hb2; clear hb2; have qx_0 := o_x.c0; have qx_1 := o_x.c1; have qx_2 := o_x.c2
 go_wp2_with fail
 clear qx_0 qx_1 qx_2; refine (HV.out _).mono ?_; rintro e w3 ⟨rfl, hb3⟩; replace o_x := o_x.below hb3 o_x.lt; replace o_r := o_r.below hb3 o_r.lt; replace hbw := below6 hbw hb3; clear hb3; obtain ⟨qr_0, qr_1, qr_2, qr_3, qr_4, qr_5⟩ := o_r.cells6; obtain ⟨fr_0, fr_1, fr_2, fr_3, fr_4, fr_5⟩ := o_r.frozens6; have oz := o_r.set6 (.bool nu) (.string su) (.string tu) (.bool nv) (.string sv) (.string tv); have sz9 := Below.set6 hbw (g := w.heap.size + 1) (by omega) (.bool nu) (.string su) (.string tu) (.bool nv) (.string sv) (.string tv)
 go_wp2_with fail
 generalize ((((((w3.setCell ⟨w.heap.size + 1, 0, none⟩ (.bool nu)).setCell ⟨w.heap.size + 1, 1, none⟩ (.string su)).setCell ⟨w.heap.size + 1, 2, none⟩ (.string tu)).setCell ⟨w.heap.size + 1, 3, none⟩ (.bool nv)).setCell ⟨w.heap.size + 1, 4, none⟩ (.string sv)).setCell ⟨w.heap.size + 1, 5, none⟩ (.string tv)) = wz at oz sz9 |-; obtain ⟨z0, z1, z2, z3, z4, z5⟩ := oz.cells6; exact bodyPost_ret (v := .tuple #[.agg #[.bool nu, .string su, .string tu, .bool nv, .string sv, .string tv], .int .i64 0]) (by simp [results, Tryz.results64, go_sem, z0, z1, z2, z3, z4, z5]) rfl ⟨rfl, sz9⟩
abbrev IV (x y : Rat) : Value := .agg #[.bool (decide (x.num < 0)), .string (S x.num.natAbs), .string (S x.den), .bool (decide (y.num < 0)), .string (S y.num.natAbs), .string (S y.den)]
theorem ebits_yes {x : Rat} {k : Nat} (hx : Few 70 x) (h0 : 0 < x) (hk : k <= 8) (hs9 : x.den < 4294967296) (w0 : World) : ∃ n : Int, IsLog (x ^ (2 ^ k)) n /\ -1000000 <= n /\ n <= 1000000 /\
  RetV 80 #[RV x, .int .i64 (k : Int)] (.tuple #[.int .i64 n, .bool (decide (p2 n = x ^ (2 ^ k))), .int .i64 0]) /\
  RetV 64 #[RV x, .int .i64 (k : Int)] (.tuple #[IV (uq n k) (if p2 n = x ^ (2 ^ k) then uq n k else uq (n + 1) k), .int .i64 0]) := by
 have hx2 : ∃ n : Int, IsLog (x ^ (2 ^ k)) n /\ -1000000 <= n /\ n <= 1000000 := by
  have hn := pos_num h0; have op := few_pow hx hk; have hP : 0 < x.num.natAbs ^ (2 ^ k) := Nat.pow_pos (by omega); have hQ : 0 < x.den ^ (2 ^ k) := Nat.pow_pos (den_pos x); have g1 := blen_dec op.1; have g2 := blen_dec op.2; rw [<- rat_pow h0]
  by_cases h : p2 ((blen (x.num.natAbs ^ (2 ^ k)) : Int) - blen (x.den ^ (2 ^ k))) <= rat false (x.num.natAbs ^ (2 ^ k)) (x.den ^ (2 ^ k))
  ·exact ⟨_, log_up hP hQ h, by omega, by omega⟩
  ·exact ⟨_, log_down hP hQ (Rat.not_le.1 h), by omega, by omega⟩
 obtain ⟨n, hn, h1, h2⟩ := hx2; have hl : RetV 80 #[RV x, .int .i64 (k : Int)] (.tuple #[.int .i64 n, .bool (decide (p2 n = x ^ (2 ^ k))), .int .i64 0]) := fun w =>
  (elog_yes hx h0 hk hs9 w).mono fun e w' ⟨he, hb⟩ => ⟨he.eq ⟨n, rfl, hn, h1, h2⟩, hb⟩
 refine ⟨n, hn, h1, h2, hl, ?_⟩
 by_cases he : p2 n = x ^ (2 ^ k)
 ·rw [if_pos he]; have e : decide (p2 n = x ^ (2 ^ k)) = true := decide_eq_true he; rw [e] at hl; exact bits_exact _ _ _ _ _ _ _ _ _ n k h1 h2 hk hl (unit_any n k (by omega) (by omega) hk) (unit_any (n + 1) k (by omega) (by omega) hk)
 ·rw [if_neg he]; have e : decide (p2 n = x ^ (2 ^ k)) = false := decide_eq_false he; rw [e] at hl; exact bits_open _ _ _ _ _ _ _ _ _ n k h1 h2 hk hl (unit_any n k (by omega) (by omega) hk) (unit_any (n + 1) k (by omega) (by omega) hk)
end Go.Proofs.YtjimfbmegmnocaaGreatDoor
