/- Parts of the proof: Na, Nb. No condition of its own. -/
import Derived.Test.YtjimfbmegmnocaaGreatDoorNw
import Derived.Laws.BitsAllLaws
import Derived.Laws.ShiftsVarLaws
set_option linter.unusedSimpArgs false
set_option linter.unusedVariables false
set_option maxRecDepth 100000
set_option maxHeartbeats 4000000
namespace Go.Proofs.YtjimfbmegmnocaaGreatDoor
open Go.RowKit

theorem word_info : (Tryz.prog.info? 134).map (fun i => (i.zero, i.size, i.bytes)) = some (some (.int .u32 0), 1, 4) := by kernel_rfl
theorem cw_rep (n : Nat) : (cw (List.replicate n 0)).toArray = Array.replicate n (.int .u32 0) := by simp [cw]
theorem run_make_words (n : Nat) (hn : n <= 1073741824) (w : World) :
  (Instr.makeSlice 154 (.int .i64 (n : Int)) (.int .i64 (n : Int))).run Tryz.prog w = .ok (.slice (some ⟨w.heap.size, 0, none⟩) n n) (w.alloc (.cells (Array.replicate n (.int .u32 0)) 134)) := by
 rw [<- cw_rep]; obtain ⟨i0, hi0, hz0, hz1, hz2⟩ := info_parts word_info; have hr := run_make (P := Tryz.prog) w 154 134 i0 _ Tryz.underlying154 hi0 hz0 .i64 .i64 n n (by omega) (by omega) (by rw [hz2]; omega) (by omega); rw [hr, hz1]; have : madeCells (Value.int .u32 0).cells n = (cw (List.replicate n 0)).toArray := by
  show madeCells #[Value.int .u32 0] n = _
  rw [madeCells_one]
  simp [cw]
 simp only [Int.toNat_natCast, Nat.mul_one, this]
theorem own_words (w : World) (n : Nat) : Own (w.alloc (.cells (Array.replicate n (.int .u32 0)) 134)) w.heap.size 134 (cw (List.replicate n 0)) := by
 rw [<- cw_rep]; exact Own.new w _ _
theorem own_setw {w : World} {g : Nat} {t : TypeId} {O : List Nat} (h : Own w g t (cw O)) {i x : Nat} {z : Int} (hz : z = x) : Own (w.setCell ⟨g, i, none⟩ (.int .u32 z)) g t (cw (O.set i x)) := by
 subst hz; have := h.set_ i (.int .u32 (x : Int)); have e : cw (O.set i x) = (cw O).set i (.int .u32 (x : Int)) := by simp [cw, List.map_set]
 rw [e]; exact this
theorem own_wds {w : World} {g : Nat} {t : TypeId} {O : List Nat} (h : Own w g t (cw O)) : Wds w (some ⟨g, 0, none⟩) O := h.rd0
theorem vint {k : IntKind} {a b : Int} (h : a = b) : Value.int k a = .int k b := by rw [h]
theorem set_take {O : List Nat} {i x : Nat} (h : i < O.length) : (O.set i x).take (i + 1) = O.take i ++ [x] := by
 rw [List.take_succ_eq_append_getElem (by simpa using h)]
 simp [List.take_set_of_le]
theorem dig_zeros (n : Nat) : Dg.Dig 4294967296 (List.replicate n 0) := by
 intro x hx; rw [(List.mem_replicate.1 hx).2]; decide
theorem own_wcell {w : World} {g : Nat} {t : TypeId} {O : List Nat} (h : Own w g t (cw O)) {i : Nat} (hi : i < O.length) : w.cell? ⟨g, i, none⟩ = some (.int .u32 (O[i] : Int)) := by
 rw [h.cell]; simp [cw, hi]

theorem mul_bound {x y : Nat} (hx : x < 4294967296) (hy : y < 4294967296) : x * y <= 18446744065119617025 := by
 have h1 : x * y <= 4294967295 * y := Nat.mul_le_mul_right _ (by omega)
 omega
theorem mul_step {P Pi B vo vo' o cr s x y an vb : Nat} (h : vo + P * cr = an + Pi * (x * vb)) (hset : vo' + P * o = vo + P * (s % B)) (hs : s = cr + (x * y + o)) {Pk : Nat} (hP : P = Pi * Pk) :
  vo' + P * B * (s / B) = an + Pi * (x * (vb + Pk * y)) := by
 have h1 : P * (s % B) + P * B * (s / B) = P * s := by rw [Nat.mul_assoc, <- Nat.mul_add, Nat.mod_add_div]
 have h2 : P * s = P * cr + (P * (x * y) + P * o) := by rw [hs, Nat.mul_add, Nat.mul_add]
 have h3 : Pi * (x * (vb + Pk * y)) = Pi * (x * vb) + P * (x * y) := by
  rw [Nat.mul_add x, Nat.mul_add Pi, hP, Nat.mul_assoc Pi Pk, Nat.mul_left_comm x Pk y]
 omega

def Zer (O : List Nat) (j : Nat) : Prop := ∀ i (h : i < O.length), j <= i -> O[i] = 0
theorem Zer.set {O : List Nat} {j i x : Nat} (h : Zer O j) (hi : i < j) : Zer (O.set i x) j := by
 intro k hk hjk; rw [List.getElem_set_ne (by omega)]; exact h k (by simpa using hk) hjk
theorem Zer.rep (n : Nat) : Zer (List.replicate n 0) 0 := fun i h _ => by simp
theorem Zer.mono {O : List Nat} {i j : Nat} (h : Zer O i) (hij : i <= j) : Zer O j := fun k hk hjk => h k hk (by omega)

theorem mul_any {v1 v2 : Value} {m n : Nat} (w : World) (h1 : NatV w v1 m) (h2 : NatV w v2 n) (hm : (dw m).length <= 1048576) (hn : (dw n).length <= 1048576) :
  Calls Tryz.prog 120 #[v1, v2] w fun e w' => ∃ v, e = .returned v /\ NatV w' v (m * n) /\ Below w.heap.size w w' := by
 obtain ⟨A, c, rfl, hc1, hc2, hA⟩ := h1; obtain ⟨A', c', rfl, hd1, hd2, hA'⟩ := h2; unfold maxLen at hc2 hd2; have lm : Hid (Dg.val 4294967296 (dw m) = m) := Dg.val_dg b32 m; have ln : Hid (Dg.val 4294967296 (dw n) = n) := Dg.val_dg b32 n; have mk : ∀ W : World, (Instr.makeSlice 154 (.int .i64 (((dw m).length : Int) + (dw n).length)) (.int .i64 (((dw m).length : Int) + (dw n).length))).run Tryz.prog W = .ok (.slice (some ⟨W.heap.size, 0, none⟩) ((dw m).length + (dw n).length) ((dw m).length + (dw n).length)) (W.alloc (.cells (Array.replicate ((dw m).length + (dw n).length) (.int .u32 0)) 134)) := fun W => run_make_words ((dw m).length + (dw n).length) (by omega) W; have hown0 := own_words w ((dw m).length + (dw n).length); have hb0 : Below w.heap.size w (w.alloc (.cells (Array.replicate ((dw m).length + (dw n).length) (.int .u32 0)) 134)) := (Below.refl _ _).alloc (Nat.le_refl _) _
 go_enter Tryz.func120, Tryz.ntmps120
 go_wp2_with fail
 generalize (w.alloc (.cells (Array.replicate ((dw m).length + (dw n).length) (.int .u32 0)) 134)) = wa at hown0 hb0 |-
 go_loopg [19] (dw m).length (fun q v19 wr => ∃ (i : Nat) (O : List Nat), q = (dw m).length - i /\ i <= (dw m).length /\ v19 = .int .i64 i /\ O.length = (dw m).length + (dw n).length /\ Hid (Dg.Dig 4294967296 O) /\ Hid (Zer O (i + (dw n).length)) /\ Hid (Dg.val 4294967296 O = Dg.val 4294967296 ((dw m).take i) * n) /\ Own wr w.heap.size 134 (cw O) /\ Below w.heap.size w wr)
 case atStart => exact ⟨0, _, rfl, Nat.zero_le _, rfl, by simp, dig_zeros _, (Zer.rep _).mono (Nat.zero_le _), by show _ = _; rw [Dg.val_replicate_zero]; simp [Dg.val], hown0, hb0⟩
 case round =>
  clear hown0 hb0; obtain ⟨i, O, hq, hi, rfl, hO, HD, HZ, HV, hown, hbw⟩ := hrel; have HQ := Z' hq; clear hq
  by_cases hlt : i < (dw m).length
  ·obtain ⟨b, off, rfl, c1⟩ := (hA.below hbw).get hlt; have hx := dw_get_lt m i hlt; have HVM : Hid (Dg.val 4294967296 ((dw m).take (i + 1)) = Dg.val 4294967296 ((dw m).take i) + 4294967296 ^ i * (dw m)[i]) := Dg.val_take_succ (b := 4294967296) hlt; generalize (dw m)[i] = x at c1 hx HVM; obtain ⟨an, han⟩ : ∃ an, an = Dg.val 4294967296 ((dw m).take i) * n := ⟨_, rfl⟩; have HAN := Z' han; clear han; have HO := Z' hO; clear hO
   go_wp2_with fail
   clear c1
   go_loopg [8, 26] (dw n).length (fun q v8 v26 wr => ∃ (k cr : Nat) (O : List Nat), q = (dw n).length - k /\ k <= (dw n).length /\ v26 = .int .i64 k /\ v8 = .int .u64 cr /\ cr < 4294967296 /\ O.length = (dw m).length + (dw n).length /\ Hid (Dg.Dig 4294967296 O) /\ Hid (Zer O (i + (dw n).length)) /\ Hid (Dg.val 4294967296 O + 4294967296 ^ (i + k) * cr = an + 4294967296 ^ i * (x * Dg.val 4294967296 ((dw n).take k))) /\ Own wr w.heap.size 134 (cw O) /\ Below w.heap.size w wr)
   case atStart => exact ⟨0, 0, O, rfl, Nat.zero_le _, rfl, rfl, by omega, HO.out, HD, HZ, by show _ = _; rw [HV.out, HAN.out]; simp [Dg.val], hown, hbw⟩
   case round =>
    clear hown hbw HD HZ HV HO O; obtain ⟨k, cr, O, hq2, hk, rfl, rfl, hcr, hO, HD, HZ, HV, hown, hbw⟩ := hrel; have HQ2 := Z' hq2; clear hq2
    have HO := Z' hO; have hO2 : O.length <= (dw m).length + (dw n).length := by omega
    have hO3 : (dw m).length + (dw n).length <= O.length := by omega
    clear hO; have hO1 : i + (dw n).length < O.length := by omega
    by_cases hkt : k < (dw n).length
    ·have hO4 : i + k < O.length := by omega
     obtain ⟨b', off', rfl, c2⟩ := (hA'.below hbw).get hkt; have hy := dw_get_lt n k hkt; have HVN : Hid (Dg.val 4294967296 ((dw n).take (k + 1)) = Dg.val 4294967296 ((dw n).take k) + 4294967296 ^ k * (dw n)[k]) := Dg.val_take_succ (b := 4294967296) hkt; have hcell := own_wcell hown hO4; have hfr := hown.frozen (i + k); have ho := HD.out _ (List.getElem_mem hO4); have HSET := fun s => Z' (Dg.val_set (b := 4294967296) O (i + k) (s % 4294967296) hO4); generalize (dw n)[k] = y at c2 hy HVN; generalize O[i + k] = o at hcell ho HSET; have hxy := mul_bound hx hy; obtain ⟨p, hp⟩ : ∃ p, p = x * y := ⟨_, rfl⟩; rw [<- hp] at hxy; have HP := Z' hp; have hm1 : IntKind.u64.wrap ((x : Int) * y) = (p : Int) := by
      have : ((x : Int) * y) = (p : Int) := by rw [hp]; simp
      rw [this]; exact IntWalk.u64_in _ (by omega)
     clear hp
     go_wp2_with fail
     go_roundg ((dw n).length - (k + 1))
     case measure => have := HQ2.out; omega
     case rel =>
      refine ⟨k + 1, (cr + (p + o)) / 4294967296, O.set (i + k) ((cr + (p + o)) % 4294967296), rfl, by omega, by go_num, vint (by omega), by omega, by rw [List.length_set]; exact HO.out, Dg.dig_set HD.out (by omega), HZ.out.set (by omega), ?_, own_setw hown (by omega), hbw.setCell (Nat.le_refl _) _⟩
      show _ = _
      rw [HVN.out]; have e : i + (k + 1) = i + k + 1 := by omega
      rw [e, Nat.pow_succ]; exact mul_step HV.out (HSET (cr + (p + o))).out (by rw [HP.out]) (Nat.pow_add _ _ _)
    ·obtain rfl : k = (dw n).length := by omega
     have hcell := own_wcell hown hO1; have hfr := hown.frozen (i + (dw n).length); have HSET := Z' (Dg.val_set (b := 4294967296) O (i + (dw n).length) cr hO1); have h0 : O[i + (dw n).length] = 0 := HZ.out _ hO1 (Nat.le_refl _); rw [h0] at hcell HSET; clear h0
     go_wp2_with fail
     go_roundg ((dw m).length - (i + 1))
     case measure => have := HQ.out; omega
     case rel =>
      refine ⟨i + 1, O.set (i + (dw n).length) cr, rfl, by omega, by go_num, by rw [List.length_set]; exact HO.out, Dg.dig_set HD.out hcr, ?_, ?_, own_setw hown (by omega), hbw.setCell (Nat.le_refl _) _⟩
      ·exact (HZ.out.mono (by omega)).set (by omega)
      ·show _ = _
       have h1 := HSET.out; have h2 := HV.out; rw [Nat.mul_zero, Nat.add_zero] at h1; rw [h1, h2, HVM.out, HAN.out, List.take_of_length_le (Nat.le_refl _), ln.out, Nat.add_mul, Nat.mul_assoc]
  ·obtain rfl : i = (dw m).length := by omega
   have HF : Hid (Dg.val 4294967296 O = m * n) := by
    show _ = _
    rw [HV.out, List.take_of_length_le (Nat.le_refl _), lm.out]
   have HO := Z' hO; have hO2 : O.length <= (dw m).length + (dw n).length := by omega
   clear hO
   go_wp2_with fail
   refine (norm_nat _ ((dw m).length + (dw n).length) O _ (n := m * n) (own_wds hown) HO.out.symm hO2 (by unfold maxLen; omega) HD.out HF.out).mono ?_; rintro e w' ⟨v, rfl, hv, rfl⟩
   go_wp2
   go_ret
   exact ⟨v, rfl, hv, hbw⟩
open Go.RowKit

theorem shl_or {o x s : Nat} (hs : s < 32) (hx : x < 4294967296) (ho : o < 2 ^ s) :
  o ||| (x * 2 ^ s) % 4294967296 = o + (x * 2 ^ s) % 4294967296 /\ o + (x * 2 ^ s) % 4294967296 < 4294967296 /\ (x * 2 ^ s) / 4294967296 < 2 ^ s := by
 have hB : (4294967296 : Nat) = 2 ^ s * 2 ^ (32 - s) := by
  rw [<- Nat.pow_add]; have : s + (32 - s) = 32 := by omega
  rw [this]
 have hd : 2 ^ s ∣ (x * 2 ^ s) % 4294967296 := by
  rw [Nat.dvd_mod_iff ⟨_, hB⟩]; exact ⟨x, Nat.mul_comm _ _⟩
 obtain ⟨a, ha⟩ := hd; have hlt : (x * 2 ^ s) % 4294967296 < 4294967296 := Nat.mod_lt _ (by decide); refine ⟨?_, ?_, ?_⟩
 ·rw [ha, Nat.or_comm, <- Nat.two_pow_add_eq_or_of_lt ho, Nat.add_comm]
 ·rw [ha] at hlt |-; have h1 : a < 2 ^ (32 - s) := by
   rw [hB] at hlt; exact Nat.lt_of_mul_lt_mul_left hlt
  have h2 : 2 ^ s * (a + 1) <= 2 ^ s * 2 ^ (32 - s) := Nat.mul_le_mul_left _ h1; rw [<- hB, Nat.mul_add, Nat.mul_one] at h2
  omega
 ·rw [Nat.div_lt_iff_lt_mul (by decide), Nat.mul_comm (2 ^ s)]; exact Nat.mul_lt_mul_of_pos_right hx (Nat.pow_pos (by decide))
theorem pow_le31 {s : Nat} (hs : s < 32) : 2 ^ s <= 2147483648 := Nat.pow_le_pow_right (show 0 < 2 by decide) (show s <= 31 by omega)
theorem shl_bound {x s : Nat} (hs : s < 32) (hx : x < 4294967296) : x * 2 ^ s < 9223372036854775808 := by
 have h1 : x * 2 ^ s <= 4294967295 * 2 ^ s := Nat.mul_le_mul_right _ (by omega); have h2 := pow_le31 hs
 omega

theorem shift_any {v1 : Value} {m n : Nat} (w : World) (h1 : NatV w v1 m) (hm : (dw m).length <= 1048576) (hn : n <= 16777216) :
  Calls Tryz.prog 124 #[v1, .int .i64 n] w fun e w' => ∃ v, e = .returned v /\ NatV w' v (m * 2 ^ n) /\ Below w.heap.size w w' := by
 obtain ⟨A, c, rfl, hc1, hc2, hA⟩ := h1; unfold maxLen at hc2; have lm : Hid (Dg.val 4294967296 (dw m) = m) := Dg.val_dg b32 m
 rcases Nat.eq_zero_or_pos (dw m).length with h0 | h0
 ·have hm0 : m = 0 := (Dg.dg_nil b32).1 (List.length_eq_zero_iff.1 h0); subst hm0; have hz : (dw 0).length = 0 := rfl; rw [hz]; clear lm h0 hm hz hc1 hA
  go_enter Tryz.func124, Tryz.ntmps124
  go_wp2
  go_ret
  exact ⟨_, rfl, by rw [Nat.zero_mul]; exact NatV.zero _, Below.refl _ _⟩
 ·have hb1 : (((dw m).length : Int) == 0) = false := by simp; exact List.length_pos_iff.1 h0
  obtain ⟨q, hq⟩ : ∃ q, q = n / 32 := ⟨_, rfl⟩; obtain ⟨s, hs⟩ : ∃ s, s = n % 32 := ⟨_, rfl⟩; have z1 : (n : Int) / 32 = (q : Int) := by omega
  have z2 : (n : Int) % 32 = (s : Int) := by omega
  have hq1 : q <= 16777216 := by omega
  have hs1 : s < 32 := by omega
  have HNq : Hid (n = 32 * q + s) := by show n = _; omega
  clear hq hs; have mk : ∀ W : World, (Instr.makeSlice 154 (.int .i64 ((q : Int) + (dw m).length + 1)) (.int .i64 ((q : Int) + (dw m).length + 1))).run Tryz.prog W = .ok (.slice (some ⟨W.heap.size, 0, none⟩) (q + (dw m).length + 1) (q + (dw m).length + 1)) (W.alloc (.cells (Array.replicate (q + (dw m).length + 1) (.int .u32 0)) 134)) := fun W => run_make_words (q + (dw m).length + 1) (by omega) W; have hown0 := own_words w (q + (dw m).length + 1); have hb0 : Below w.heap.size w (w.alloc (.cells (Array.replicate (q + (dw m).length + 1) (.int .u32 0)) 134)) := (Below.refl _ _).alloc (Nat.le_refl _) _; have hp0 : 0 < 2 ^ s := Nat.pow_pos (by decide); have HP0 := Z' hp0; have HP1 := Z' (pow_le31 hs1); clear hp0
  go_enter Tryz.func124, Tryz.ntmps124
  go_wp2_with fail
  generalize (w.alloc (.cells (Array.replicate (q + (dw m).length + 1) (.int .u32 0)) 134)) = wa at hown0 hb0 |-
  go_loopg [27] (dw m).length (fun q27 v27 wr => ∃ (i : Nat) (O : List Nat), q27 = (dw m).length - i /\ i <= (dw m).length /\ v27 = .int .i64 i /\ O.length = q + (dw m).length + 1 /\ Hid (Dg.Dig 4294967296 O) /\ Hid (Zer O (q + i + 1)) /\ Hid (∀ h : q + i < O.length, O[q + i] < 2 ^ s) /\ Hid (Dg.val 4294967296 O = 4294967296 ^ q * (2 ^ s * Dg.val 4294967296 ((dw m).take i))) /\ Own wr w.heap.size 134 (cw O) /\ Below w.heap.size w wr)
  case atStart => exact ⟨0, _, rfl, Nat.zero_le _, rfl, by simp, dig_zeros _, (Zer.rep _).mono (Nat.zero_le _), by show ∀ _, _; intro h; simp; exact HP0.out, by show _ = _; rw [Dg.val_replicate_zero]; simp [Dg.val], hown0, hb0⟩
  case round =>
   clear hown0 hb0; obtain ⟨i, O, hq, hi, rfl, hO, HD, HZ, HT, HV, hown, hbw⟩ := hrel; have HQ := Z' hq; clear hq
   have HO := Z' hO; have hO2 : O.length <= q + (dw m).length + 1 := by omega
   have hO3 : q + (dw m).length + 1 <= O.length := by omega
   clear hO
   by_cases hlt : i < (dw m).length
   ·obtain ⟨b, off, rfl, c1⟩ := (hA.below hbw).get hlt; have hx := dw_get_lt m i hlt; have HVM : Hid (Dg.val 4294967296 ((dw m).take (i + 1)) = Dg.val 4294967296 ((dw m).take i) + 4294967296 ^ i * (dw m)[i]) := Dg.val_take_succ (b := 4294967296) hlt; generalize (dw m)[i] = x at c1 hx HVM; have hO1 : q + i < O.length := by omega
    have hO4 : q + i + 1 < O.length := by omega
    have hcell := own_wcell hown hO1; have hfr := hown.frozen (q + i); have hcell2 := own_wcell hown hO4; have hfr2 := hown.frozen (q + i + 1); have ho := HT.out hO1; have hoz : O[q + i + 1] = 0 := HZ.out _ hO4 (Nat.le_refl _); have HSET := fun z => Z' (Dg.val_set (b := 4294967296) O (q + i) z hO1); generalize O[q + i] = o at hcell ho HSET; obtain ⟨g1, g2, g3⟩ := shl_or hs1 hx ho; obtain ⟨y, hy⟩ : ∃ y, y = x * 2 ^ s := ⟨_, rfl⟩; have hyb := shl_bound hs1 hx; rw [<- hy] at g1 g2 g3 hyb; have hp := HP1.out; have y1 : IntKind.u64.wrap ((x : Int) * 2 ^ s) = (y : Int) := by
     have : ((x : Int) * 2 ^ s) = (y : Int) := by rw [hy]; simp
     rw [this]; exact IntWalk.u64_in _ (by omega)
    have y2 : bits .or .u32 (o : Int) ((y : Int) % 4294967296) = ((o + y % 4294967296 : Nat) : Int) := by
     have h := u32_or_nat o (y % 4294967296) (by omega) (by omega); rw [g1] at h; exact h
    have HY := Z' hy; have G2 := Z' g2; have G3 := Z' g3; have HHO := Z' ho; clear hy g1 g2 g3 ho hp
    go_wp2_with fail
    go_roundg ((dw m).length - (i + 1))
    case measure => have := HQ.out; omega
    case rel =>
     have hlen2 : q + i + 1 < (O.set (q + i) (o + y % 4294967296)).length := by rw [List.length_set]; exact hO4
     have hS2 := Dg.val_set (b := 4294967296) (O.set (q + i) (o + y % 4294967296)) (q + i + 1) (y / 4294967296) hlen2; have e0 : (O.set (q + i) (o + y % 4294967296))[q + i + 1] = 0 := by rw [List.getElem_set_ne (by omega)]; exact hoz
     rw [e0, Nat.mul_zero, Nat.add_zero] at hS2; refine ⟨i + 1, (O.set (q + i) (o + y % 4294967296)).set (q + i + 1) (y / 4294967296), rfl, by omega, by go_num, by rw [List.length_set, List.length_set]; exact HO.out, Dg.dig_set (Dg.dig_set HD.out G2.out) (by have := G3.out; have := HP1.out; omega), ?_, ?_, ?_, own_setw (own_setw hown (by omega)) (by omega), (hbw.setCell (Nat.le_refl _) _).setCell (Nat.le_refl _) _⟩
     ·exact ((HZ.out.mono (by omega)).set (by omega)).set (by omega)
     ·show ∀ _, _
      intro h; have e : q + (i + 1) = q + i + 1 := by omega
      have : ((O.set (q + i) (o + y % 4294967296)).set (q + i + 1) (y / 4294967296))[q + (i + 1)] = y / 4294967296 := by
       simp only [e, List.getElem_set_self]
      rw [this]; exact G3.out
     ·show _ = _
      have h1 := (HSET (o + y % 4294967296)).out; rw [hS2, HVM.out, Nat.mul_add (2 ^ s), Nat.mul_add (4294967296 ^ q), <- HV.out]; have h3 : 4294967296 ^ (q + i) * (y % 4294967296) + 4294967296 ^ (q + i + 1) * (y / 4294967296) = 4294967296 ^ (q + i) * y := by
       rw [Nat.pow_succ, Nat.mul_assoc, <- Nat.mul_add, Nat.mod_add_div]
      have h4 : 4294967296 ^ q * (2 ^ s * (4294967296 ^ i * x)) = 4294967296 ^ (q + i) * y := by
       rw [HY.out, Nat.pow_add, Nat.mul_assoc, Nat.mul_comm x, Nat.mul_left_comm (2 ^ s)]
      rw [Nat.mul_add] at h1
      omega
   ·obtain rfl : i = (dw m).length := by omega
    have HF : Hid (Dg.val 4294967296 O = m * 2 ^ n) := by
     show _ = _
     rw [HV.out, List.take_of_length_le (Nat.le_refl _), lm.out, HNq.out, Nat.pow_add, Nat.pow_mul, Nat.mul_left_comm, Nat.mul_comm m, <- Nat.mul_assoc, Nat.mul_comm (2 ^ s)]
    go_wp2_with fail
    refine (norm_nat _ (q + (dw m).length + 1) O _ (n := m * 2 ^ n) (own_wds hown) HO.out.symm hO2 (by unfold maxLen; omega) HD.out HF.out).mono ?_; rintro e w' ⟨v, rfl, hv, rfl⟩
    go_wp2
    go_ret
    exact ⟨v, rfl, hv, hbw⟩

theorem drop_val {l : List Nat} {i : Nat} (h : i < l.length) (b : Nat) : Dg.val b (l.drop i) = l[i] + b * Dg.val b (l.drop (i + 1)) := by
 rw [List.drop_eq_getElem_cons h]; rfl
theorem ret_vi {v : Value} {k : IntKind} {a b : Int} (h : a = b) : Ending.returned (.tuple #[v, .int k a]) = .returned (.tuple #[v, .int k b]) := by rw [h]
theorem set_drop {O : List Nat} {i x : Nat} (h : i < O.length) : (O.set i x).drop i = x :: O.drop (i + 1) := by
 rw [List.drop_eq_getElem_cons (by simpa using h)]
 simp [List.drop_set_of_lt]

theorem small_at {v1 : Value} {m d : Nat} (w : World) (h1 : NatV w v1 m) (hm : (dw m).length <= 1048576) (hd0 : 0 < d) (hd1 : d < 4294967296) :
  Calls Tryz.prog 130 #[v1, .int .u32 d] w fun e w' => e = .returned (.tuple #[.slice (some ⟨w.heap.size, 0, none⟩) (dw (m / d)).length (dw m).length, .int .u32 ((m % d : Nat) : Int)]) /\ NatV w' (.slice (some ⟨w.heap.size, 0, none⟩) (dw (m / d)).length (dw m).length) (m / d) /\ Below w.heap.size w w' /\ w.heap.size < w'.heap.size := by
 obtain ⟨A, c, rfl, hc1, hc2, hA⟩ := h1; unfold maxLen at hc2; have lm : Hid (Dg.val 4294967296 (dw m) = m) := Dg.val_dg b32 m; have mk := fun W => run_make_words (dw m).length (by omega) W; have hown0 := own_words w (dw m).length; have hb0 : Below w.heap.size w (w.alloc (.cells (Array.replicate (dw m).length (.int .u32 0)) 134)) := (Below.refl _ _).alloc (Nat.le_refl _) _
 go_enter Tryz.func130, Tryz.ntmps130
 go_wp2_with fail
 generalize (w.alloc (.cells (Array.replicate (dw m).length (.int .u32 0)) 134)) = wa at hown0 hb0 |-
 go_loopg [7, 8] (dw m).length (fun q v7 v8 wr => ∃ (k r : Nat) (z : Int) (O : List Nat), q = k /\ k <= (dw m).length /\ v8 = .int .i64 z /\ z = (k : Int) - 1 /\ v7 = .int .u64 r /\ r < d /\ O.length = (dw m).length /\ Hid (Dg.Dig 4294967296 O) /\ Hid (Dg.val 4294967296 ((dw m).drop k) = d * Dg.val 4294967296 (O.drop k) + r) /\ Own wr w.heap.size 134 (cw O) /\ Below w.heap.size w wr)
 case atStart => exact ⟨_, 0, _, _, rfl, Nat.le_refl _, rfl, rfl, rfl, hd0, by simp, dig_zeros _, by show _ = _; rw [List.drop_length, List.drop_eq_nil_of_le (by simp)]; rfl, hown0, hb0⟩
 case round =>
  clear hown0 hb0; obtain ⟨k, r, z, O, hq, hk, rfl, hz, rfl, hr, hO, HD, HV, hown, hbw⟩ := hrel; have HQ := Z' hq; clear hq
  have HO := Z' hO; have hO2 : O.length <= (dw m).length := by omega
  have hO3 : (dw m).length <= O.length := by omega
  clear hO
  rcases Nat.eq_zero_or_pos k with rfl | hk0
  ·obtain rfl : z = -1 := by omega
   clear hz; have hv := HV.out; rw [List.drop_zero, List.drop_zero, lm.out] at hv; have HF : Hid (Dg.val 4294967296 O = m / d) := by
    show _ = _
    rw [hv, Nat.mul_add_div hd0, Nat.div_eq_of_lt hr, Nat.add_zero]
   have HR : Hid (r = m % d) := by
    show r = _
    rw [hv, Nat.mul_add_mod, Nat.mod_eq_of_lt hr]
   clear hv
   go_wp2_with fail
   have HNN := Z' (norm_any (some ⟨w.heap.size, 0, none⟩) (dw m).length O wr (own_wds hown) hO2 (by unfold maxLen; omega)); rw [HO.out] at HNN; have HCUT : Hid (Dg.cut O = dw (m / d)) := by show _ = _; rw [Dg.cut_eq b32 HD.out, HF.out]; rfl
   have HNV : Hid (NatV wr (.slice (some ⟨w.heap.size, 0, none⟩) (dw (m / d)).length (dw m).length) (m / d)) := by
    have := NatV.of_cut (own_wds hown) HD.out hO2 (show (dw m).length <= maxLen by unfold maxLen; omega); rw [HCUT.out, HF.out] at this; exact this
   refine HNN.out.mono ?_; rintro e w' ⟨rfl, rfl⟩; rw [HCUT.out]
   go_wp2
   go_ret2
   exact ⟨ret_vi (by rw [<- HR.out]), HNV.out, hbw, hown.lt⟩
  ·obtain ⟨k1, rfl⟩ : ∃ k1, k = k1 + 1 := ⟨k - 1, by omega⟩; obtain rfl : z = (k1 : Int) := by omega
   clear hz; have hlt : k1 < (dw m).length := by omega
   have hkI : (k1 : Int) < (dw m).length := by omega
   have hO1 : k1 < O.length := by omega
   obtain ⟨b, off, rfl, c1⟩ := (hA.below hbw).get hlt; have ha := dw_get_lt m k1 hlt; have hcell := own_wcell hown hO1; have hfr := hown.frozen k1; have HVM : Hid (Dg.val 4294967296 ((dw m).drop k1) = (dw m)[k1] + 4294967296 * Dg.val 4294967296 ((dw m).drop (k1 + 1))) := drop_val hlt _; generalize (dw m)[k1] = a at c1 ha HVM; have y0 : (4294967296 : Nat) * r + a = 4294967296 * r ||| a := Nat.two_pow_add_eq_or_of_lt (i := 32) ha r
   obtain ⟨t, ht⟩ : ∃ t, t = r * 4294967296 + a := ⟨_, rfl⟩; have y1 : bits .or .u64 ((r : Int) * 4294967296) (a : Int) = (t : Int) := by
    have h := u64_or_nat (r * 4294967296) a (by omega) (by omega); rw [Nat.mul_comm, <- y0, Nat.mul_comm, <- ht] at h; rw [<- h]; simp
   have htb : t < d * 4294967296 := by
    have : (r + 1) * 4294967296 <= d * 4294967296 := Nat.mul_le_mul_right _ hr
    omega
   have htc : t < 18446744073709551616 := by
    have : d * 4294967296 <= 4294967295 * 4294967296 := Nat.mul_le_mul_right _ (by omega)
    omega
   obtain ⟨qd, hqd⟩ : ∃ qd, qd = t / d := ⟨_, rfl⟩; obtain ⟨r', hr'⟩ : ∃ r', r' = t % d := ⟨_, rfl⟩; have hqb : qd < 4294967296 := by rw [hqd]; exact Nat.div_lt_of_lt_mul htb
   have hrb : r' < d := by rw [hr']; exact Nat.mod_lt _ hd0
   have y2 : (t : Int) / (d : Int) = (qd : Int) := by rw [hqd]; simp
   have y3 : (t : Int) % (d : Int) = (r' : Int) := by rw [hr']; simp
   have HT := Z' ht; have HE : Hid (t = d * qd + r') := by show t = _; rw [hqd, hr', Nat.div_add_mod]
   clear y0 ht hqd hr' htb; have hdI : (1 : Int) <= (d : Int) := by omega
   go_wp2_with fail
   go_roundg k1
   case measure => have := HQ.out; omega
   case rel =>
    refine ⟨k1, r', _, O.set k1 qd, rfl, by omega, rfl, by omega, vint y3, hrb, by rw [List.length_set]; exact HO.out, Dg.dig_set HD.out hqb, ?_, own_setw hown (by omega), hbw.setCell (Nat.le_refl _) _⟩
    show _ = _
    rw [HVM.out, HV.out, set_drop hO1]
    show _ = d * (qd + 4294967296 * Dg.val 4294967296 (O.drop (k1 + 1))) + r'
    have h1 := HT.out; have h2 := HE.out; have h3 : 4294967296 * (d * Dg.val 4294967296 (O.drop (k1 + 1)) + r) = 4294967296 * (d * Dg.val 4294967296 (O.drop (k1 + 1))) + 4294967296 * r := Nat.mul_add _ _ _; have h4 : d * (qd + 4294967296 * Dg.val 4294967296 (O.drop (k1 + 1))) = d * qd + 4294967296 * (d * Dg.val 4294967296 (O.drop (k1 + 1))) := by rw [Nat.mul_add, Nat.mul_left_comm]
    omega
theorem small_any {v1 : Value} {m d : Nat} (w : World) (h1 : NatV w v1 m) (hm : (dw m).length <= 1048576) (hd0 : 0 < d) (hd1 : d < 4294967296) :
  Calls Tryz.prog 130 #[v1, .int .u32 d] w fun e w' => ∃ v, e = .returned (.tuple #[v, .int .u32 ((m % d : Nat) : Int)]) /\ NatV w' v (m / d) /\ Below w.heap.size w w' := by
 refine (small_at w h1 hm hd0 hd1).mono ?_; rintro e w' ⟨rfl, h2, h3, _⟩; exact ⟨_, rfl, h2, h3⟩
open Go.RowKit

def WdsOut (S : Nat -> Prop) (w : World) (A : Option Addr) (l : List Nat) : Prop := RdOut S w A (cw l)
theorem WdsOut.get {S : Nat -> Prop} {w : World} {A : Option Addr} {l : List Nat} (h : WdsOut S w A l) {k : Nat} (hk : k < l.length) :
  ∃ b off, A = some ⟨b, off, none⟩ /\ ¬ S b /\ w.cell? ⟨b, off + k, none⟩ = some (.int .u32 (l[k] : Int)) := by
 obtain ⟨b, off, e, hs, hc⟩ := h k (.int .u32 (l[k] : Int)) (by simp [cw, hk]); exact ⟨b, off, e, hs, hc⟩
theorem WdsOut.chg {S : Nat -> Prop} {w w' : World} {A : Option Addr} {l : List Nat} (h : WdsOut S w A l) (hc : Chg S w w') : WdsOut S w' A l := RdOut.chg h hc
structure Win (O0 O : List Nat) (off i : Nat) : Prop where
 len : O.length = O0.length
 lo : O.take off = O0.take off
 hi : O.drop (off + i) = O0.drop (off + i)
theorem Win.refl (O : List Nat) (off i : Nat) : Win O O off i := ⟨rfl, rfl, rfl⟩
theorem Win.step {O0 O : List Nat} {off i x : Nat} (h : Win O0 O off i) : Win O0 (O.set (off + i) x) off (i + 1) := by
 refine ⟨by rw [List.length_set]; exact h.len, ?_, ?_⟩
 ·rw [List.take_set_of_le (by omega)]; exact h.lo
 ·rw [List.drop_set_of_lt (by omega)]; have e : off + (i + 1) = 1 + (off + i) := by omega
  have h2 := congrArg (List.drop 1) h.hi; rw [List.drop_drop, List.drop_drop] at h2; rw [show off + (i + 1) = off + i + 1 by omega]; exact h2
theorem Win.at_ {O0 O : List Nat} {off i : Nat} (h : Win O0 O off i) (hi : off + i < O.length) : O[off + i] = O0[off + i]'(by rw [<- h.len]; exact hi) := by
 have h0 : off + i < O0.length := by rw [<- h.len]; exact hi
 have := h.hi; rw [List.drop_eq_getElem_cons hi, List.drop_eq_getElem_cons h0] at this; exact (List.cons.inj this).1
end Go.Proofs.YtjimfbmegmnocaaGreatDoor
