/- Parts of the proof: Nb. No condition of its own. -/
import Derived.Test.YtjimfbmegmnocaaGreatDoorNa
import Derived.Laws.BitsAllLaws
import Derived.Laws.ShiftsVarLaws
set_option linter.unusedSimpArgs false
set_option linter.unusedVariables false
set_option maxRecDepth 100000
set_option maxHeartbeats 4000000
namespace Go.Proofs.YtjimfbmegmnocaaGreatDoor
open Go.RowKit

theorem shl_or {o x s : Nat} (hs : s < 32) (hx : x < 4294967296) (ho : o < 2 ^ s) :
  o ||| (x * 2 ^ s) % 4294967296 = o + (x * 2 ^ s) % 4294967296 /\ o + (x * 2 ^ s) % 4294967296 < 4294967296 /\ (x * 2 ^ s) / 4294967296 < 2 ^ s := by
 have hB : (4294967296 : Nat) = 2 ^ s * 2 ^ (32 - s) := by
  rw [<- Nat.pow_add]; have : s + (32 - s) = 32 := by omega
  rw [this]
 have hd : 2 ^ s ∣ (x * 2 ^ s) % 4294967296 := by
  rw [Nat.dvd_mod_iff ⟨_, hB⟩]; exact ⟨x, Nat.mul_comm _ _⟩
 obtain ⟨a, ha⟩ := hd; have hlt : (x * 2 ^ s) % 4294967296 < 4294967296 := Nat.mod_lt _ (by decide); refine ⟨?_, ?_, ?_⟩
 ·rw [ha, Nat.or_comm, <- Nat.two_pow_add_eq_or_of_lt ho, Nat.add_comm]
 ·rw [ha] at hlt |-; have h1 : a < 2 ^ (32 - s) := by
   rw [hB] at hlt; exact Nat.lt_of_mul_lt_mul_left hlt
  have h2 : 2 ^ s * (a + 1) <= 2 ^ s * 2 ^ (32 - s) := Nat.mul_le_mul_left _ h1; rw [<- hB, Nat.mul_add, Nat.mul_one] at h2
  omega
 ·rw [Nat.div_lt_iff_lt_mul (by decide), Nat.mul_comm (2 ^ s)]; exact Nat.mul_lt_mul_of_pos_right hx (Nat.pow_pos (by decide))
theorem pow_le31 {s : Nat} (hs : s < 32) : 2 ^ s <= 2147483648 := Nat.pow_le_pow_right (show 0 < 2 by decide) (show s <= 31 by omega)
theorem shl_bound {x s : Nat} (hs : s < 32) (hx : x < 4294967296) : x * 2 ^ s < 9223372036854775808 := by
 have h1 : x * 2 ^ s <= 4294967295 * 2 ^ s := Nat.mul_le_mul_right _ (by omega); have h2 := pow_le31 hs
 omega

theorem shift_any {v1 : Value} {m n : Nat} (w : World) (h1 : NatV w v1 m) (hm : (dw m).length <= 1048576) (hn : n <= 16777216) :
  Calls Tryz.prog 124 #[v1, .int .i64 n] w fun e w' => ∃ v, e = .returned v /\ NatV w' v (m * 2 ^ n) /\ Below w.heap.size w w' := by
 obtain ⟨A, c, rfl, hc1, hc2, hA⟩ := h1; unfold maxLen at hc2; have lm : Hid (Dg.val 4294967296 (dw m) = m) := Dg.val_dg b32 m
 rcases Nat.eq_zero_or_pos (dw m).length with h0 | h0
 ·have hm0 : m = 0 := (Dg.dg_nil b32).1 (List.length_eq_zero_iff.1 h0); subst hm0; have hz : (dw 0).length = 0 := rfl; rw [hz]; clear lm h0 hm hz hc1 hA
  go_enter Tryz.func124, Tryz.ntmps124
  go_wp2
  go_ret
  exact ⟨_, rfl, by rw [Nat.zero_mul]; exact NatV.zero _, Below.refl _ _⟩
 ·have hb1 : (((dw m).length : Int) == 0) = false := by simp; exact List.length_pos_iff.1 h0
  obtain ⟨q, hq⟩ : ∃ q, q = n / 32 := ⟨_, rfl⟩; obtain ⟨s, hs⟩ : ∃ s, s = n % 32 := ⟨_, rfl⟩; have z1 : (n : Int) / 32 = (q : Int) := by omega
  have z2 : (n : Int) % 32 = (s : Int) := by omega
  have hq1 : q <= 16777216 := by omega
  have hs1 : s < 32 := by omega
  have HNq : Hid (n = 32 * q + s) := by show n = _; omega
  clear hq hs; have mk : ∀ W : World, (Instr.makeSlice 154 (.int .i64 ((q : Int) + (dw m).length + 1)) (.int .i64 ((q : Int) + (dw m).length + 1))).run Tryz.prog W = .ok (.slice (some ⟨W.heap.size, 0, none⟩) (q + (dw m).length + 1) (q + (dw m).length + 1)) (W.alloc (.cells (Array.replicate (q + (dw m).length + 1) (.int .u32 0)) 134)) := fun W => run_make_words (q + (dw m).length + 1) (by omega) W; have hown0 := own_words w (q + (dw m).length + 1); have hb0 : Below w.heap.size w (w.alloc (.cells (Array.replicate (q + (dw m).length + 1) (.int .u32 0)) 134)) := (Below.refl _ _).alloc (Nat.le_refl _) _; have hp0 : 0 < 2 ^ s := Nat.pow_pos (by decide); have HP0 := Lib.hid hp0; have HP1 := Lib.hid (pow_le31 hs1); clear hp0
  go_enter Tryz.func124, Tryz.ntmps124
  go_wp2_with fail
  generalize (w.alloc (.cells (Array.replicate (q + (dw m).length + 1) (.int .u32 0)) 134)) = wa at hown0 hb0 |-
  go_loopg [27] (dw m).length (fun q27 v27 wr => ∃ (i : Nat) (O : List Nat), q27 = (dw m).length - i /\ i <= (dw m).length /\ v27 = .int .i64 i /\ O.length = q + (dw m).length + 1 /\ Hid (Dg.Dig 4294967296 O) /\ Hid (Zer O (q + i + 1)) /\ Hid (∀ h : q + i < O.length, O[q + i] < 2 ^ s) /\ Hid (Dg.val 4294967296 O = 4294967296 ^ q * (2 ^ s * Dg.val 4294967296 ((dw m).take i))) /\ Own wr w.heap.size 134 (cw O) /\ Below w.heap.size w wr)
  case atStart => exact ⟨0, _, rfl, Nat.zero_le _, rfl, by simp, dig_zeros _, (Zer.rep _).mono (Nat.zero_le _), by show ∀ _, _; intro h; simp; exact HP0.out, by show _ = _; rw [Dg.val_replicate_zero]; simp [Dg.val], hown0, hb0⟩
  case round =>
   clear hown0 hb0; obtain ⟨i, O, hq, hi, rfl, hO, HD, HZ, HT, HV, hown, hbw⟩ := hrel; have HQ := Lib.hid hq; clear hq
   have HO := Lib.hid hO; have hO2 : O.length <= q + (dw m).length + 1 := by omega
   have hO3 : q + (dw m).length + 1 <= O.length := by omega
   clear hO
   by_cases hlt : i < (dw m).length
   ·obtain ⟨b, off, rfl, c1⟩ := (hA.below hbw).get hlt; have hx := dw_get_lt m i hlt; have HVM : Hid (Dg.val 4294967296 ((dw m).take (i + 1)) = Dg.val 4294967296 ((dw m).take i) + 4294967296 ^ i * (dw m)[i]) := Dg.val_take_succ (b := 4294967296) hlt; generalize (dw m)[i] = x at c1 hx HVM; have hO1 : q + i < O.length := by omega
    have hO4 : q + i + 1 < O.length := by omega
    have hcell := own_wcell hown hO1; have hfr := hown.frozen (q + i); have hcell2 := own_wcell hown hO4; have hfr2 := hown.frozen (q + i + 1); have ho := HT.out hO1; have hoz : O[q + i + 1] = 0 := HZ.out _ hO4 (Nat.le_refl _); have HSET := fun z => Lib.hid (Dg.val_set (b := 4294967296) O (q + i) z hO1); generalize O[q + i] = o at hcell ho HSET; obtain ⟨g1, g2, g3⟩ := shl_or hs1 hx ho; obtain ⟨y, hy⟩ : ∃ y, y = x * 2 ^ s := ⟨_, rfl⟩; have hyb := shl_bound hs1 hx; rw [<- hy] at g1 g2 g3 hyb; have hp := HP1.out; have y1 : IntKind.u64.wrap ((x : Int) * 2 ^ s) = (y : Int) := by
     have : ((x : Int) * 2 ^ s) = (y : Int) := by rw [hy]; simp
     rw [this]; exact IntWalk.u64_in _ (by omega)
    have y2 : bits .or .u32 (o : Int) ((y : Int) % 4294967296) = ((o + y % 4294967296 : Nat) : Int) := by
     have h := u32_or_nat o (y % 4294967296) (by omega) (by omega); rw [g1] at h; exact h
    have HY := Lib.hid hy; have G2 := Lib.hid g2; have G3 := Lib.hid g3; have HHO := Lib.hid ho; clear hy g1 g2 g3 ho hp
    go_wp2_with fail
    go_roundg ((dw m).length - (i + 1))
    case measure => have := HQ.out; omega
    case rel =>
     have hlen2 : q + i + 1 < (O.set (q + i) (o + y % 4294967296)).length := by rw [List.length_set]; exact hO4
     have hS2 := Dg.val_set (b := 4294967296) (O.set (q + i) (o + y % 4294967296)) (q + i + 1) (y / 4294967296) hlen2; have e0 : (O.set (q + i) (o + y % 4294967296))[q + i + 1] = 0 := by rw [List.getElem_set_ne (by omega)]; exact hoz
     rw [e0, Nat.mul_zero, Nat.add_zero] at hS2; refine ⟨i + 1, (O.set (q + i) (o + y % 4294967296)).set (q + i + 1) (y / 4294967296), rfl, by omega, by go_num, by rw [List.length_set, List.length_set]; exact HO.out, Dg.dig_set (Dg.dig_set HD.out G2.out) (by have := G3.out; have := HP1.out; omega), ?_, ?_, ?_, own_setw (own_setw hown (by omega)) (by omega), (hbw.setCell (Nat.le_refl _) _).setCell (Nat.le_refl _) _⟩
     ·exact ((HZ.out.mono (by omega)).set (by omega)).set (by omega)
     ·show ∀ _, _
      intro h; have e : q + (i + 1) = q + i + 1 := by omega
      have : ((O.set (q + i) (o + y % 4294967296)).set (q + i + 1) (y / 4294967296))[q + (i + 1)] = y / 4294967296 := by
       simp only [e, List.getElem_set_self]
      rw [this]; exact G3.out
     ·show _ = _
      have h1 := (HSET (o + y % 4294967296)).out; rw [hS2, HVM.out, Nat.mul_add (2 ^ s), Nat.mul_add (4294967296 ^ q), <- HV.out]; have h3 : 4294967296 ^ (q + i) * (y % 4294967296) + 4294967296 ^ (q + i + 1) * (y / 4294967296) = 4294967296 ^ (q + i) * y := by
       rw [Nat.pow_succ, Nat.mul_assoc, <- Nat.mul_add, Nat.mod_add_div]
      have h4 : 4294967296 ^ q * (2 ^ s * (4294967296 ^ i * x)) = 4294967296 ^ (q + i) * y := by
       rw [HY.out, Nat.pow_add, Nat.mul_assoc, Nat.mul_comm x, Nat.mul_left_comm (2 ^ s)]
      rw [Nat.mul_add] at h1
      omega
   ·obtain rfl : i = (dw m).length := by omega
    have HF : Hid (Dg.val 4294967296 O = m * 2 ^ n) := by
     show _ = _
     rw [HV.out, List.take_of_length_le (Nat.le_refl _), lm.out, HNq.out, Nat.pow_add, Nat.pow_mul, Nat.mul_left_comm, Nat.mul_comm m, <- Nat.mul_assoc, Nat.mul_comm (2 ^ s)]
    go_wp2_with fail
    refine (norm_nat _ (q + (dw m).length + 1) O _ (n := m * 2 ^ n) (own_wds hown) HO.out.symm hO2 (by unfold maxLen; omega) HD.out HF.out).mono ?_; rintro e w' ⟨v, rfl, hv, rfl⟩
    go_wp2
    go_ret
    exact ⟨v, rfl, hv, hbw⟩

theorem low_digit {m lo P a a' u n : Nat} (h : m = lo + P * (a + 4294967296 * (a' + 4294967296 * u))) (hlo : lo < P) (hn : n < 32) : ((m / 2 ^ n) / P) % 4294967296 = ((a + a' * 4294967296) / 2 ^ n) % 4294967296 := by
 have hP : 0 < P := by omega
 have h1 : m / P = a + 4294967296 * (a' + 4294967296 * u) := by
  rw [h, Nat.add_mul_div_left _ _ hP, Nat.div_eq_of_lt hlo, Nat.zero_add]
 have hB : (4294967296 : Nat) = 2 ^ n * 2 ^ (32 - n) := by
  rw [<- Nat.pow_add]; have : n + (32 - n) = 32 := by omega
  rw [this]
 have h2 : a + 4294967296 * (a' + 4294967296 * u) = (a + a' * 4294967296) + 2 ^ n * (2 ^ (32 - n) * u * 4294967296) := by
  have : 2 ^ n * (2 ^ (32 - n) * u * 4294967296) = 4294967296 * u * 4294967296 := by
   rw [<- Nat.mul_assoc, <- Nat.mul_assoc, <- hB]
  rw [this]; omega
 rw [Nat.div_div_eq_div_mul, Nat.mul_comm (2 ^ n), <- Nat.div_div_eq_div_mul, h1, h2, Nat.add_mul_div_left _ _ (Nat.pow_pos (by decide)), Nat.add_mul_mod_self_right]
theorem drop_val {l : List Nat} {i : Nat} (h : i < l.length) (b : Nat) : Dg.val b (l.drop i) = l[i] + b * Dg.val b (l.drop (i + 1)) := by
 rw [List.drop_eq_getElem_cons h]; rfl
theorem take_drop_val (l : List Nat) (i : Nat) (h : i <= l.length) (b : Nat) : Dg.val b l = Dg.val b (l.take i) + b ^ i * Dg.val b (l.drop i) := by
 have := Dg.val_cons_split (b := b) l i
 rwa [List.length_take, Nat.min_eq_left h] at this
theorem take_val_lt {l : List Nat} {b : Nat} (hb : 0 < b) (hd : Dg.Dig b l) (i : Nat) (h : i <= l.length) : Dg.val b (l.take i) < b ^ i := by
 have := Dg.val_lt hb (Dg.dig_take hd i)
 rwa [List.length_take, Nat.min_eq_left h] at this

theorem low_any {v1 : Value} {m n : Nat} (w : World) (h1 : NatV w v1 m) (hm : (dw m).length <= 1048576) (hn : n < 32) :
  Calls Tryz.prog 135 #[v1, .int .u64 n] w fun e w' => ∃ v, e = .returned v /\ NatV w' v (m / 2 ^ n) /\ Below w.heap.size w w' := by
 obtain ⟨A, c, rfl, hc1, hc2, hA⟩ := h1; unfold maxLen at hc2; have lm : Hid (Dg.val 4294967296 (dw m) = m) := Dg.val_dg b32 m; have mk := fun W => run_make_words (dw m).length (by omega) W; have hown0 := own_words w (dw m).length; have hb0 : Below w.heap.size w (w.alloc (.cells (Array.replicate (dw m).length (.int .u32 0)) 134)) := (Below.refl _ _).alloc (Nat.le_refl _) _; have HBd : Hid (Dg.Dig 4294967296 (dw m)) := dw_lt m
 go_enter Tryz.func135, Tryz.ntmps135
 go_wp2_with fail
 generalize (w.alloc (.cells (Array.replicate (dw m).length (.int .u32 0)) 134)) = wa at hown0 hb0 |-
 go_loopg [13] (dw m).length (fun q v wr => ∃ (i : Nat) (O : List Nat), q = (dw m).length - i /\ i <= (dw m).length /\ v = .int .i64 i /\ O.length = (dw m).length /\ Hid (Dg.Dig 4294967296 O) /\ Hid (Dg.val 4294967296 (O.take i) = (m / 2 ^ n) % 4294967296 ^ i) /\ Own wr w.heap.size 134 (cw O) /\ Below w.heap.size w wr)
 case atStart => exact ⟨0, _, rfl, Nat.zero_le _, rfl, by simp, dig_zeros _, by show _ = _; rw [Nat.pow_zero, Nat.mod_one]; rfl, hown0, hb0⟩
 case round =>
  clear hown0 hb0; obtain ⟨i, O, hq, hi, rfl, hO, HD, HV, hown, hbw⟩ := hrel; have HQ := Lib.hid hq; clear hq
  have HO := Lib.hid hO; have hO2 : O.length <= (dw m).length := by omega
  have hO3 : (dw m).length <= O.length := by omega
  clear hO
  by_cases hlt : i < (dw m).length
  ·have hO1 : i < O.length := by omega
   obtain ⟨b, off, rfl, c1⟩ := (hA.below hbw).get hlt; have ha := dw_get_lt m i hlt; have hcell := own_wcell hown hO1; have hfr := hown.frozen i; have hsp := take_drop_val (dw m) i (by omega) 4294967296; have hlo := take_val_lt (by decide) HBd.out i (by omega); rw [lm.out, drop_val hlt] at hsp
   by_cases hlt2 : i + 1 < (dw m).length
   ·obtain ⟨_, _, e, c2⟩ := (hA.below hbw).get hlt2
    cases e
    have hb := dw_get_lt m (i + 1) hlt2; rw [drop_val hlt2] at hsp; have HLD := Lib.hid (low_digit hsp hlo hn); clear hsp hlo; generalize (dw m)[i] = a at c1 ha HLD; generalize (dw m)[i + 1] = a' at c2 hb HLD; have y0 : (4294967296 : Nat) * a' + a = 4294967296 * a' ||| a := Nat.two_pow_add_eq_or_of_lt (i := 32) ha a'
    obtain ⟨y, hy⟩ : ∃ y, y = a + a' * 4294967296 := ⟨_, rfl⟩; have y1 : bits .or .u64 (a : Int) ((a' : Int) * 4294967296) = (y : Int) := by
     have h := u64_or_nat a (a' * 4294967296) (by omega) (by omega); rw [Nat.or_comm, Nat.mul_comm, <- y0, Nat.add_comm, Nat.mul_comm, <- hy] at h; rw [<- h]; simp
    rw [<- hy] at HLD; obtain ⟨d, hd⟩ : ∃ d, d = y / 2 ^ n := ⟨_, rfl⟩; have y2 : (y : Int) / 2 ^ n = (d : Int) := by rw [hd]; simp
    rw [<- hd] at HLD; have hdy : d <= y := by rw [hd]; exact Nat.div_le_self _ _
    clear y0 hd; have hyb : y < 18446744073709551616 := by omega
    clear hy
    go_wp2_with fail
    go_roundg ((dw m).length - (i + 1))
    case measure => have := HQ.out; omega
    case rel =>
     refine ⟨i + 1, O.set i (d % 4294967296), rfl, by omega, by go_num, by rw [List.length_set]; exact HO.out, Dg.dig_set HD.out (by omega), ?_, own_setw hown (by omega), hbw.setCell (Nat.le_refl _) _⟩
     show _ = _
     rw [set_take hO1, Dg.val_snoc, List.length_take, Nat.min_eq_left (by omega), HV.out, <- HLD.out, Nat.mod_pow_succ]
   ·have hz : (dw m).drop (i + 1) = [] := List.drop_eq_nil_of_le (by omega); rw [hz] at hsp; have hsp' : m = Dg.val 4294967296 ((dw m).take i) + 4294967296 ^ i * ((dw m)[i] + 4294967296 * (0 + 4294967296 * 0)) := hsp; have HLD := Lib.hid (low_digit hsp' hlo hn); clear hsp hlo hz hsp'; generalize (dw m)[i] = a at c1 ha HLD; rw [Nat.zero_mul, Nat.add_zero] at HLD; obtain ⟨d, hd⟩ : ∃ d, d = a / 2 ^ n := ⟨_, rfl⟩; have y2 : (a : Int) / 2 ^ n = (d : Int) := by rw [hd]; simp
    rw [<- hd] at HLD; have hdy : d <= a := by rw [hd]; exact Nat.div_le_self _ _
    clear hd
    go_wp2_with fail
    go_roundg ((dw m).length - (i + 1))
    case measure => have := HQ.out; omega
    case rel =>
     refine ⟨i + 1, O.set i (d % 4294967296), rfl, by omega, by go_num, by rw [List.length_set]; exact HO.out, Dg.dig_set HD.out (by omega), ?_, own_setw hown (by omega), hbw.setCell (Nat.le_refl _) _⟩
     show _ = _
     rw [set_take hO1, Dg.val_snoc, List.length_take, Nat.min_eq_left (by omega), HV.out, <- HLD.out, Nat.mod_pow_succ]
  ·obtain rfl : i = (dw m).length := by omega
   have HF : Hid (Dg.val 4294967296 O = m / 2 ^ n) := by
    show _ = _
    have h := HV.out; rw [List.take_of_length_le (by omega)] at h; rw [h, Nat.mod_eq_of_lt]; exact Nat.lt_of_le_of_lt (Nat.div_le_self _ _) (Dg.dg_lt b32 m)
   go_wp2_with fail
   refine (norm_nat _ (dw m).length O _ (n := m / 2 ^ n) (own_wds hown) HO.out.symm hO2 (by unfold maxLen; omega) HD.out HF.out).mono ?_; rintro e w' ⟨v, rfl, hv, rfl⟩
   go_wp2
   go_ret
   exact ⟨v, rfl, hv, hbw⟩

theorem ret_vi {v : Value} {k : IntKind} {a b : Int} (h : a = b) : Ending.returned (.tuple #[v, .int k a]) = .returned (.tuple #[v, .int k b]) := by rw [h]
theorem set_drop {O : List Nat} {i x : Nat} (h : i < O.length) : (O.set i x).drop i = x :: O.drop (i + 1) := by
 rw [List.drop_eq_getElem_cons (by simpa using h)]
 simp [List.drop_set_of_lt]

theorem small_at {v1 : Value} {m d : Nat} (w : World) (h1 : NatV w v1 m) (hm : (dw m).length <= 1048576) (hd0 : 0 < d) (hd1 : d < 4294967296) :
  Calls Tryz.prog 130 #[v1, .int .u32 d] w fun e w' => e = .returned (.tuple #[.slice (some ⟨w.heap.size, 0, none⟩) (dw (m / d)).length (dw m).length, .int .u32 ((m % d : Nat) : Int)]) /\ NatV w' (.slice (some ⟨w.heap.size, 0, none⟩) (dw (m / d)).length (dw m).length) (m / d) /\ Below w.heap.size w w' /\ w.heap.size < w'.heap.size := by
 obtain ⟨A, c, rfl, hc1, hc2, hA⟩ := h1; unfold maxLen at hc2; have lm : Hid (Dg.val 4294967296 (dw m) = m) := Dg.val_dg b32 m; have mk := fun W => run_make_words (dw m).length (by omega) W; have hown0 := own_words w (dw m).length; have hb0 : Below w.heap.size w (w.alloc (.cells (Array.replicate (dw m).length (.int .u32 0)) 134)) := (Below.refl _ _).alloc (Nat.le_refl _) _
 go_enter Tryz.func130, Tryz.ntmps130
 go_wp2_with fail
 generalize (w.alloc (.cells (Array.replicate (dw m).length (.int .u32 0)) 134)) = wa at hown0 hb0 |-
 go_loopg [7, 8] (dw m).length (fun q v7 v8 wr => ∃ (k r : Nat) (z : Int) (O : List Nat), q = k /\ k <= (dw m).length /\ v8 = .int .i64 z /\ z = (k : Int) - 1 /\ v7 = .int .u64 r /\ r < d /\ O.length = (dw m).length /\ Hid (Dg.Dig 4294967296 O) /\ Hid (Dg.val 4294967296 ((dw m).drop k) = d * Dg.val 4294967296 (O.drop k) + r) /\ Own wr w.heap.size 134 (cw O) /\ Below w.heap.size w wr)
 case atStart => exact ⟨_, 0, _, _, rfl, Nat.le_refl _, rfl, rfl, rfl, hd0, by simp, dig_zeros _, by show _ = _; rw [List.drop_length, List.drop_eq_nil_of_le (by simp)]; rfl, hown0, hb0⟩
 case round =>
  clear hown0 hb0; obtain ⟨k, r, z, O, hq, hk, rfl, hz, rfl, hr, hO, HD, HV, hown, hbw⟩ := hrel; have HQ := Lib.hid hq; clear hq
  have HO := Lib.hid hO; have hO2 : O.length <= (dw m).length := by omega
  have hO3 : (dw m).length <= O.length := by omega
  clear hO
  rcases Nat.eq_zero_or_pos k with rfl | hk0
  ·obtain rfl : z = -1 := by omega
   clear hz; have hv := HV.out; rw [List.drop_zero, List.drop_zero, lm.out] at hv; have HF : Hid (Dg.val 4294967296 O = m / d) := by
    show _ = _
    rw [hv, Nat.mul_add_div hd0, Nat.div_eq_of_lt hr, Nat.add_zero]
   have HR : Hid (r = m % d) := by
    show r = _
    rw [hv, Nat.mul_add_mod, Nat.mod_eq_of_lt hr]
   clear hv
   go_wp2_with fail
   have HNN := Lib.hid (norm_any (some ⟨w.heap.size, 0, none⟩) (dw m).length O wr (own_wds hown) hO2 (by unfold maxLen; omega)); rw [HO.out] at HNN; have HCUT : Hid (Dg.cut O = dw (m / d)) := by show _ = _; rw [Dg.cut_eq b32 HD.out, HF.out]; rfl
   have HNV : Hid (NatV wr (.slice (some ⟨w.heap.size, 0, none⟩) (dw (m / d)).length (dw m).length) (m / d)) := by
    have := NatV.of_cut (own_wds hown) HD.out hO2 (show (dw m).length <= maxLen by unfold maxLen; omega); rw [HCUT.out, HF.out] at this; exact this
   refine HNN.out.mono ?_; rintro e w' ⟨rfl, rfl⟩; rw [HCUT.out]
   go_wp2
   go_ret2
   exact ⟨ret_vi (by rw [<- HR.out]), HNV.out, hbw, hown.lt⟩
  ·obtain ⟨k1, rfl⟩ : ∃ k1, k = k1 + 1 := ⟨k - 1, by omega⟩; obtain rfl : z = (k1 : Int) := by omega
   clear hz; have hlt : k1 < (dw m).length := by omega
   have hkI : (k1 : Int) < (dw m).length := by omega
   have hO1 : k1 < O.length := by omega
   obtain ⟨b, off, rfl, c1⟩ := (hA.below hbw).get hlt; have ha := dw_get_lt m k1 hlt; have hcell := own_wcell hown hO1; have hfr := hown.frozen k1; have HVM : Hid (Dg.val 4294967296 ((dw m).drop k1) = (dw m)[k1] + 4294967296 * Dg.val 4294967296 ((dw m).drop (k1 + 1))) := drop_val hlt _; generalize (dw m)[k1] = a at c1 ha HVM; have y0 : (4294967296 : Nat) * r + a = 4294967296 * r ||| a := Nat.two_pow_add_eq_or_of_lt (i := 32) ha r
   obtain ⟨t, ht⟩ : ∃ t, t = r * 4294967296 + a := ⟨_, rfl⟩; have y1 : bits .or .u64 ((r : Int) * 4294967296) (a : Int) = (t : Int) := by
    have h := u64_or_nat (r * 4294967296) a (by omega) (by omega); rw [Nat.mul_comm, <- y0, Nat.mul_comm, <- ht] at h; rw [<- h]; simp
   have htb : t < d * 4294967296 := by
    have : (r + 1) * 4294967296 <= d * 4294967296 := Nat.mul_le_mul_right _ hr
    omega
   have htc : t < 18446744073709551616 := by
    have : d * 4294967296 <= 4294967295 * 4294967296 := Nat.mul_le_mul_right _ (by omega)
    omega
   obtain ⟨qd, hqd⟩ : ∃ qd, qd = t / d := ⟨_, rfl⟩; obtain ⟨r', hr'⟩ : ∃ r', r' = t % d := ⟨_, rfl⟩; have hqb : qd < 4294967296 := by rw [hqd]; exact Nat.div_lt_of_lt_mul htb
   have hrb : r' < d := by rw [hr']; exact Nat.mod_lt _ hd0
   have y2 : (t : Int) / (d : Int) = (qd : Int) := by rw [hqd]; simp
   have y3 : (t : Int) % (d : Int) = (r' : Int) := by rw [hr']; simp
   have HT := Lib.hid ht; have HE : Hid (t = d * qd + r') := by show t = _; rw [hqd, hr', Nat.div_add_mod]
   clear y0 ht hqd hr' htb; have hdI : (1 : Int) <= (d : Int) := by omega
   go_wp2_with fail
   go_roundg k1
   case measure => have := HQ.out; omega
   case rel =>
    refine ⟨k1, r', _, O.set k1 qd, rfl, by omega, rfl, by omega, vint y3, hrb, by rw [List.length_set]; exact HO.out, Dg.dig_set HD.out hqb, ?_, own_setw hown (by omega), hbw.setCell (Nat.le_refl _) _⟩
    show _ = _
    rw [HVM.out, HV.out, set_drop hO1]
    show _ = d * (qd + 4294967296 * Dg.val 4294967296 (O.drop (k1 + 1))) + r'
    have h1 := HT.out; have h2 := HE.out; have h3 : 4294967296 * (d * Dg.val 4294967296 (O.drop (k1 + 1)) + r) = 4294967296 * (d * Dg.val 4294967296 (O.drop (k1 + 1))) + 4294967296 * r := Nat.mul_add _ _ _; have h4 : d * (qd + 4294967296 * Dg.val 4294967296 (O.drop (k1 + 1))) = d * qd + 4294967296 * (d * Dg.val 4294967296 (O.drop (k1 + 1))) := by rw [Nat.mul_add, Nat.mul_left_comm]
    omega
theorem small_any {v1 : Value} {m d : Nat} (w : World) (h1 : NatV w v1 m) (hm : (dw m).length <= 1048576) (hd0 : 0 < d) (hd1 : d < 4294967296) :
  Calls Tryz.prog 130 #[v1, .int .u32 d] w fun e w' => ∃ v, e = .returned (.tuple #[v, .int .u32 ((m % d : Nat) : Int)]) /\ NatV w' v (m / d) /\ Below w.heap.size w w' := by
 refine (small_at w h1 hm hd0 hd1).mono ?_; rintro e w' ⟨rfl, h2, h3, _⟩; exact ⟨_, rfl, h2, h3⟩
open Go.RowKit

def WdsOut (S : Nat -> Prop) (w : World) (A : Option Addr) (l : List Nat) : Prop := RdOut S w A (cw l)
theorem WdsOut.get {S : Nat -> Prop} {w : World} {A : Option Addr} {l : List Nat} (h : WdsOut S w A l) {k : Nat} (hk : k < l.length) :
  ∃ b off, A = some ⟨b, off, none⟩ /\ ¬ S b /\ w.cell? ⟨b, off + k, none⟩ = some (.int .u32 (l[k] : Int)) := by
 obtain ⟨b, off, e, hs, hc⟩ := h k (.int .u32 (l[k] : Int)) (by simp [cw, hk]); exact ⟨b, off, e, hs, hc⟩
theorem WdsOut.chg {S : Nat -> Prop} {w w' : World} {A : Option Addr} {l : List Nat} (h : WdsOut S w A l) (hc : Chg S w w') : WdsOut S w' A l := RdOut.chg h hc
theorem drop_set' {O : List Nat} {off i x : Nat} : (O.set (off + i) x).drop off = (O.drop off).set i x := by
 rw [List.drop_set, if_neg (by omega)]
 congr 1; omega
structure Win (O0 O : List Nat) (off i : Nat) : Prop where
 len : O.length = O0.length
 lo : O.take off = O0.take off
 hi : O.drop (off + i) = O0.drop (off + i)
theorem Win.refl (O : List Nat) (off i : Nat) : Win O O off i := ⟨rfl, rfl, rfl⟩
theorem Win.step {O0 O : List Nat} {off i x : Nat} (h : Win O0 O off i) : Win O0 (O.set (off + i) x) off (i + 1) := by
 refine ⟨by rw [List.length_set]; exact h.len, ?_, ?_⟩
 ·rw [List.take_set_of_le (by omega)]; exact h.lo
 ·rw [List.drop_set_of_lt (by omega)]; have e : off + (i + 1) = 1 + (off + i) := by omega
  have h2 := congrArg (List.drop 1) h.hi; rw [List.drop_drop, List.drop_drop] at h2; rw [show off + (i + 1) = off + i + 1 by omega]; exact h2
theorem Win.at_ {O0 O : List Nat} {off i : Nat} (h : Win O0 O off i) (hi : off + i < O.length) : O[off + i] = O0[off + i]'(by rw [<- h.len]; exact hi) := by
 have h0 : off + i < O0.length := by rw [<- h.len]; exact hi
 have := h.hi; rw [List.drop_eq_getElem_cons hi, List.drop_eq_getElem_cons h0] at this; exact (List.cons.inj this).1
theorem win_take {O : List Nat} {off i x : Nat} (h : off + i < O.length) : ((O.set (off + i) x).drop off).take (i + 1) = (O.drop off).take i ++ [x] := by
 rw [drop_set', set_take (by rw [List.length_drop]; omega)]
theorem win_len {O : List Nat} {off i : Nat} (h : off + i <= O.length) : ((O.drop off).take i).length = i := by
 rw [List.length_take, List.length_drop]; omega
theorem win_succ {O : List Nat} {off i : Nat} (h : off + i < O.length) (b : Nat) : Dg.val b ((O.drop off).take (i + 1)) = Dg.val b ((O.drop off).take i) + b ^ i * O[off + i] := by
 rw [Dg.val_take_succ (by rw [List.length_drop]; omega), List.getElem_drop]
theorem less_step {P B vu' vu vv t ca bo x u v ca' bo' : Nat} (h : vu' + t * vv = vu + P * (ca + bo)) (hx : ca + bo + x + t * v = u + B * (ca' + bo')) :
  (vu' + P * x) + t * (vv + P * v) = (vu + P * u) + P * B * (ca' + bo') := by
 have h1 : P * (ca + bo + x + t * v) = P * (u + B * (ca' + bo')) := by rw [hx]
 rw [Nat.mul_add, Nat.mul_add, Nat.mul_add P u, <- Nat.mul_assoc P B] at h1; have h2 : t * (vv + P * v) = t * vv + P * (t * v) := by rw [Nat.mul_add, Nat.mul_left_comm]
 omega

def LessPost (O0 : List Nat) (off n1 t : Nat) (V : List Nat) (g : Nat) (w : World) (e : Ending) (w' : World) : Prop :=
 ∃ (bo : Nat) (O : List Nat), e = .returned (.bool (decide (bo = 1))) /\ bo <= 1 /\ Win O0 O off n1 /\ Dg.Dig 4294967296 O /\
  Dg.val 4294967296 ((O.drop off).take n1) + t * Dg.val 4294967296 V = Dg.val 4294967296 ((O0.drop off).take n1) + 4294967296 ^ n1 * bo /\ Own w' g 134 (cw O) /\ Chg (fun k => k = g) w w'

theorem less_any (g off n1 c1 t : Nat) (O0 : List Nat) (A : Option Addr) (c2 : Nat) (V : List Nat) (w : World) (hown0 : Own w g 134 (cw O0)) (hD0 : Dg.Dig 4294967296 O0) (hlen : off + n1 <= O0.length) (hbig : O0.length <= 4194304) (hn1 : V.length < n1) (hc1 : n1 <= c1) (hcm : c1 <= maxLen)
  (hV : WdsOut (fun k => k = g) w A V) (hDV : Dg.Dig 4294967296 V) (ht : t < 4294967296) :
  Calls Tryz.prog 132 #[.slice (some ⟨g, off, none⟩) n1 c1, .slice A V.length c2, .int .u64 t] w (LessPost O0 off n1 t V g w) := by
 have HD0 := Lib.hid hD0; have HDV := Lib.hid hDV; clear hD0 hDV; unfold maxLen at hcm
 go_enter Tryz.func132, Tryz.ntmps132
 go_wp2_with fail
 go_loopg [7, 8, 12] n1 (fun q v7 v8 v12 wr => ∃ (i bo ca : Nat) (z : Int) (O : List Nat), q = n1 - i /\ i <= n1 /\ v12 = .int .i64 i /\ v7 = .int .i64 z /\ z = -(bo : Int) /\ bo <= 1 /\ v8 = .int .u64 ca /\ ca < 4294967296 /\ Hid (V.length < i -> ca = 0) /\ Hid (Win O0 O off i) /\ Hid (Dg.Dig 4294967296 O) /\
  Hid (Dg.val 4294967296 ((O.drop off).take i) + t * Dg.val 4294967296 (V.take i) = Dg.val 4294967296 ((O0.drop off).take i) + 4294967296 ^ i * (ca + bo)) /\ Own wr g 134 (cw O) /\ Chg (fun k => k = g) w wr)
 case atStart => exact ⟨0, 0, 0, 0, O0, rfl, Nat.zero_le _, rfl, rfl, by omega, by omega, rfl, by omega, fun _ => rfl, Win.refl _ _ _, HD0.out, by show _ = _; simp [Dg.val], hown0, Chg.refl _ _⟩
 case round =>
  clear hown0; obtain ⟨i, bo, ca, z, O, hq, hi, rfl, rfl, hz, hbo, rfl, hca, HCA, HW, HD, HV, hown, hcg⟩ := hrel; have HQ := Lib.hid hq; clear hq
  by_cases hlt : i < n1
  ·have HZ := Lib.hid hz; have hz1 : z <= 0 := by omega
   have hz2 : -1 <= z := by omega
   clear hz; have hO1 : off + i < O.length := by have := HW.out.len; omega
   have hO0 : off + i < O0.length := by omega
   have hcell := own_wcell hown hO1; have hfr := hown.frozen (off + i); have hu := HD.out _ (List.getElem_mem hO1); have HSU : Hid (Dg.val 4294967296 ((O0.drop off).take (i + 1)) = Dg.val 4294967296 ((O0.drop off).take i) + 4294967296 ^ i * O[off + i]) := by
    show _ = _
    rw [win_succ hO0, HW.out.at_ hO1]
   generalize O[off + i] = u at hcell hu HSU
   by_cases hlv : i < V.length
   ·obtain ⟨b, off2, rfl, hne, c2'⟩ := (hV.chg hcg).get hlv; have hne' : b ≠ g := hne; have hv := HDV.out _ (List.getElem_mem hlv); have HSV : Hid (Dg.val 4294967296 (V.take (i + 1)) = Dg.val 4294967296 (V.take i) + 4294967296 ^ i * V[i]) := Dg.val_take_succ (b := 4294967296) hlv; generalize V[i] = v at c2' hv HSV; have htv := mul_bound ht hv; obtain ⟨p, hp⟩ : ∃ p, p = t * v := ⟨_, rfl⟩; rw [<- hp] at htv; have HP := Lib.hid hp; have hm1 : IntKind.u64.wrap ((t : Int) * v) = (p : Int) := by
     have : ((t : Int) * v) = (p : Int) := by rw [hp]; simp
     rw [this]; exact IntWalk.u64_in _ (by omega)
    clear hp hne; have HX : Hid (∃ x bo', x < 4294967296 /\ bo' <= 1 /\ ca + bo + x + p = u + 4294967296 * ((ca + p) / 4294967296 + bo') /\ (z + ((u : Int) - ((ca : Int) + p) % 4294967296)) % 4294967296 = (x : Int) /\ (z + ((u : Int) - ((ca : Int) + p) % 4294967296)) / 4294967296 = -(bo' : Int)) := by
     have hz := HZ.out
     show ∃ x bo', _
     by_cases hc : bo + (ca + p) % 4294967296 <= u
     ·exact ⟨u - (ca + p) % 4294967296 - bo, 0, by omega, by omega, by omega, by omega, by omega⟩
     ·exact ⟨4294967296 + u - (ca + p) % 4294967296 - bo, 1, by omega, by omega, by omega, by omega, by omega⟩
    go_wp2_with fail
    go_roundg (n1 - (i + 1))
    case measure => have := HQ.out; omega
    case rel =>
     obtain ⟨x, bo', hx1, hx2, hx3, hx4, hx5⟩ := HX.out; refine ⟨i + 1, bo', (ca + p) / 4294967296, _, O.set (off + i) x, rfl, by omega, by go_num, rfl, hx5, hx2, vint (by omega), by omega, fun h => by omega, HW.out.step, Dg.dig_set HD.out hx1, ?_, own_setw hown hx4, hcg.setCell rfl _⟩
     show _ = _
     rw [win_take hO1, Dg.val_snoc, win_len (by omega), Nat.pow_succ, HSU.out, HSV.out]; exact less_step HV.out (by rw [<- HP.out]; exact hx3)
   ·have HSV : Hid (Dg.val 4294967296 (V.take (i + 1)) = Dg.val 4294967296 (V.take i) + 4294967296 ^ i * 0) := by
     show _ = _
     rw [List.take_of_length_le (by omega), List.take_of_length_le (by omega)]; omega
    have HX : Hid (∃ x bo', x < 4294967296 /\ bo' <= 1 /\ ca + bo + x + t * 0 = u + 4294967296 * (0 + bo') /\ (z + ((u : Int) - (ca : Int))) % 4294967296 = (x : Int) /\ (z + ((u : Int) - (ca : Int))) / 4294967296 = -(bo' : Int)) := by
     have hz := HZ.out
     show ∃ x bo', _
     by_cases hc : bo + ca <= u
     ·exact ⟨u - ca - bo, 0, by omega, by omega, by omega, by omega, by omega⟩
     ·exact ⟨4294967296 + u - ca - bo, 1, by omega, by omega, by omega, by omega, by omega⟩
    have y1 : (ca : Int) % 4294967296 = (ca : Int) := by omega
    have y2 : (ca : Int) / 4294967296 = 0 := by omega
    go_wp2_with fail
    go_roundg (n1 - (i + 1))
    case measure => have := HQ.out; omega
    case rel =>
     obtain ⟨x, bo', hx1, hx2, hx3, hx4, hx5⟩ := HX.out; refine ⟨i + 1, bo', 0, _, O.set (off + i) x, rfl, by omega, by go_num, rfl, hx5, hx2, vint (by omega), by omega, fun h => rfl, HW.out.step, Dg.dig_set HD.out hx1, ?_, own_setw hown hx4, hcg.setCell rfl _⟩
     show _ = _
     rw [win_take hO1, Dg.val_snoc, win_len (by omega), Nat.pow_succ, HSU.out, HSV.out]; exact less_step HV.out hx3
  ·obtain rfl : i = n1 := by omega
   have hca0 := HCA.out hn1; subst hca0; have hv := HV.out; rw [List.take_of_length_le (by omega : V.length <= i), Nat.zero_add] at hv; have HV2 := Lib.hid hv; clear hv HV
   rcases (show bo = 0 \/ bo = 1 by omega) with rfl | rfl
   ·obtain rfl : z = 0 := by omega
    clear hz
    go_wp2
    go_ret
    exact ⟨0, O, rfl, by omega, HW.out, HD.out, HV2.out, hown, hcg⟩
   ·obtain rfl : z = -1 := by omega
    clear hz
    go_wp2
    go_ret
    exact ⟨1, O, rfl, by omega, HW.out, HD.out, HV2.out, hown, hcg⟩

def MorePost (O0 : List Nat) (off n1 : Nat) (V : List Nat) (g : Nat) (w : World) (w' : World) : Prop :=
 ∃ (cr : Nat) (O : List Nat), cr <= 1 /\ Win O0 O off n1 /\ Dg.Dig 4294967296 O /\
  Dg.val 4294967296 ((O.drop off).take n1) + 4294967296 ^ n1 * cr = Dg.val 4294967296 ((O0.drop off).take n1) + Dg.val 4294967296 V /\ Own w' g 134 (cw O) /\ Chg (fun k => k = g) w w'

theorem more_any (g off n1 c1 : Nat) (O0 : List Nat) (A : Option Addr) (c2 : Nat) (V : List Nat) (w : World) (hown0 : Own w g 134 (cw O0)) (hD0 : Dg.Dig 4294967296 O0) (hlen : off + n1 <= O0.length) (hbig : O0.length <= 4194304) (hn1 : V.length < n1) (hc1 : n1 <= c1) (hcm : c1 <= maxLen)
  (hV : WdsOut (fun k => k = g) w A V) (hDV : Dg.Dig 4294967296 V) :
  Calls Tryz.prog 133 #[.slice (some ⟨g, off, none⟩) n1 c1, .slice A V.length c2] w fun e w' => e = .returned (.tuple #[]) /\ MorePost O0 off n1 V g w w' := by
 have HD0 := Lib.hid hD0; have HDV := Lib.hid hDV; clear hD0 hDV; unfold maxLen at hcm
 go_enter Tryz.func133, Tryz.ntmps133
 go_wp2_with fail
 go_loopg [4, 8] n1 (fun q v4 v8 wr => ∃ (i cr : Nat) (O : List Nat), q = n1 - i /\ i <= n1 /\ v8 = .int .i64 i /\ v4 = .int .u64 cr /\ cr <= 1 /\ Hid (Win O0 O off i) /\ Hid (Dg.Dig 4294967296 O) /\
  Hid (Dg.val 4294967296 ((O.drop off).take i) + 4294967296 ^ i * cr = Dg.val 4294967296 ((O0.drop off).take i) + Dg.val 4294967296 (V.take i)) /\ Own wr g 134 (cw O) /\ Chg (fun k => k = g) w wr)
 case atStart => exact ⟨0, 0, O0, rfl, Nat.zero_le _, rfl, rfl, by omega, Win.refl _ _ _, HD0.out, by show _ = _; simp [Dg.val], hown0, Chg.refl _ _⟩
 case round =>
  clear hown0; obtain ⟨i, cr, O, hq, hi, rfl, rfl, hcr, HW, HD, HV, hown, hcg⟩ := hrel; have HQ := Lib.hid hq; clear hq
  by_cases hlt : i < n1
  ·have hO1 : off + i < O.length := by have := HW.out.len; omega
   have hO0 : off + i < O0.length := by omega
   have hcell := own_wcell hown hO1; have hfr := hown.frozen (off + i); have hu := HD.out _ (List.getElem_mem hO1); have HSU : Hid (Dg.val 4294967296 ((O0.drop off).take (i + 1)) = Dg.val 4294967296 ((O0.drop off).take i) + 4294967296 ^ i * O[off + i]) := by
    show _ = _
    rw [win_succ hO0, HW.out.at_ hO1]
   generalize O[off + i] = u at hcell hu HSU
   by_cases hlv : i < V.length
   ·obtain ⟨b, off2, rfl, hne, c2'⟩ := (hV.chg hcg).get hlv; have hne' : b ≠ g := hne; have hv := HDV.out _ (List.getElem_mem hlv); have HSV : Hid (Dg.val 4294967296 (V.take (i + 1)) = Dg.val 4294967296 (V.take i) + 4294967296 ^ i * V[i]) := Dg.val_take_succ (b := 4294967296) hlv; generalize V[i] = v at c2' hv HSV; clear hne; have HSTEP := Lib.hid (add_step (B := 4294967296) HV.out (rfl : cr + u + v = cr + u + v))
    go_wp2_with fail
    go_roundg (n1 - (i + 1))
    case measure => have := HQ.out; omega
    case rel =>
     refine ⟨i + 1, (cr + u + v) / 4294967296, O.set (off + i) ((cr + u + v) % 4294967296), rfl, by omega, by go_num, vint (by omega), by omega, HW.out.step, Dg.dig_set HD.out (by omega), ?_, own_setw hown (by omega), hcg.setCell rfl _⟩
     show _ = _
     rw [win_take hO1, Dg.val_snoc, win_len (by omega), Nat.pow_succ, HSU.out, HSV.out]; exact HSTEP.out
   ·have HSV : Hid (Dg.val 4294967296 (V.take (i + 1)) = Dg.val 4294967296 (V.take i) + 4294967296 ^ i * 0) := by
     show _ = _
     rw [List.take_of_length_le (by omega), List.take_of_length_le (by omega)]; omega
    have HSTEP := Lib.hid (add_step (B := 4294967296) (a := u) (b := 0) HV.out (rfl : cr + u + 0 = cr + u + 0))
    go_wp2_with fail
    go_roundg (n1 - (i + 1))
    case measure => have := HQ.out; omega
    case rel =>
     refine ⟨i + 1, (cr + u) / 4294967296, O.set (off + i) ((cr + u) % 4294967296), rfl, by omega, by go_num, vint (by omega), by omega, HW.out.step, Dg.dig_set HD.out (by omega), ?_, own_setw hown (by omega), hcg.setCell rfl _⟩
     show _ = _
     rw [win_take hO1, Dg.val_snoc, win_len (by omega), Nat.pow_succ, HSU.out, HSV.out]; exact HSTEP.out
  ·obtain rfl : i = n1 := by omega
   have hv := HV.out; rw [List.take_of_length_le (by omega : V.length <= i)] at hv; have HV2 := Lib.hid hv; clear hv HV
   go_wp2
   go_end0
   exact ⟨rfl, cr, O, hcr, HW.out, HD.out, HV2.out, hown, hcg⟩
end Go.Proofs.YtjimfbmegmnocaaGreatDoor
