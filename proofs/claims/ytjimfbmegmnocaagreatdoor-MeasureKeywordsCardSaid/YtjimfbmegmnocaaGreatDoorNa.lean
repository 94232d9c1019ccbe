/- Parts of the proof: Na. No condition of its own. -/
import Derived.Test.YtjimfbmegmnocaaGreatDoorNw
set_option linter.unusedSimpArgs false
set_option linter.unusedVariables false
set_option maxRecDepth 100000
set_option maxHeartbeats 4000000
namespace Go.Proofs.YtjimfbmegmnocaaGreatDoor
open Go.RowKit

theorem word_info : (Tryz.prog.info? 134).map (fun i => (i.zero, i.size, i.bytes)) = some (some (.int .u32 0), 1, 4) := by kernel_rfl
theorem cw_rep (n : Nat) : (cw (List.replicate n 0)).toArray = Array.replicate n (.int .u32 0) := by simp [cw]
theorem run_make_words (n : Nat) (hn : n <= 1073741824) (w : World) :
  (Instr.makeSlice 154 (.int .i64 (n : Int)) (.int .i64 (n : Int))).run Tryz.prog w = .ok (.slice (some ⟨w.heap.size, 0, none⟩) n n) (w.alloc (.cells (Array.replicate n (.int .u32 0)) 134)) := by
 rw [<- cw_rep]; obtain ⟨i0, hi0, hz0, hz1, hz2⟩ := info_parts word_info; have hr := run_make (P := Tryz.prog) w 154 134 i0 _ Tryz.underlying154 hi0 hz0 .i64 .i64 n n (by omega) (by omega) (by rw [hz2]; omega) (by omega); rw [hr, hz1]; have : madeCells (Value.int .u32 0).cells n = (cw (List.replicate n 0)).toArray := by
  show madeCells #[Value.int .u32 0] n = _
  rw [madeCells_one]
  simp [cw]
 simp only [Int.toNat_natCast, Nat.mul_one, this]
theorem own_words (w : World) (n : Nat) : Own (w.alloc (.cells (Array.replicate n (.int .u32 0)) 134)) w.heap.size 134 (cw (List.replicate n 0)) := by
 rw [<- cw_rep]; exact Own.new w _ _
theorem own_setw {w : World} {g : Nat} {t : TypeId} {O : List Nat} (h : Own w g t (cw O)) {i x : Nat} {z : Int} (hz : z = x) : Own (w.setCell ⟨g, i, none⟩ (.int .u32 z)) g t (cw (O.set i x)) := by
 subst hz; have := h.set_ i (.int .u32 (x : Int)); have e : cw (O.set i x) = (cw O).set i (.int .u32 (x : Int)) := by simp [cw, List.map_set]
 rw [e]; exact this
theorem own_wds {w : World} {g : Nat} {t : TypeId} {O : List Nat} (h : Own w g t (cw O)) : Wds w (some ⟨g, 0, none⟩) O := h.rd0
theorem vint {k : IntKind} {a b : Int} (h : a = b) : Value.int k a = .int k b := by rw [h]
theorem set_take {O : List Nat} {i x : Nat} (h : i < O.length) : (O.set i x).take (i + 1) = O.take i ++ [x] := by
 rw [List.take_succ_eq_append_getElem (by simpa using h)]
 simp [List.take_set_of_le]
theorem dig_zeros (n : Nat) : Dg.Dig 4294967296 (List.replicate n 0) := by
 intro x hx; rw [(List.mem_replicate.1 hx).2]; decide
theorem own_wcell {w : World} {g : Nat} {t : TypeId} {O : List Nat} (h : Own w g t (cw O)) {i : Nat} (hi : i < O.length) : w.cell? ⟨g, i, none⟩ = some (.int .u32 (O[i] : Int)) := by
 rw [h.cell]; simp [cw, hi]

theorem add_step {P B vl va vb cr a b s : Nat} (h : vl + P * cr = va + vb) (hs : s = cr + a + b) : (vl + P * (s % B)) + P * B * (s / B) = (va + P * a) + (vb + P * b) := by
 have h1 : P * (s % B) + P * B * (s / B) = P * s := by rw [Nat.mul_assoc, <- Nat.mul_add, Nat.mod_add_div]
 have h2 : P * s = P * cr + P * a + P * b := by rw [hs, Nat.mul_add, Nat.mul_add]
 omega
theorem mul_bound {x y : Nat} (hx : x < 4294967296) (hy : y < 4294967296) : x * y <= 18446744065119617025 := by
 have h1 : x * y <= 4294967295 * y := Nat.mul_le_mul_right _ (by omega)
 omega
theorem mul_step {P Pi B vo vo' o cr s x y an vb : Nat} (h : vo + P * cr = an + Pi * (x * vb)) (hset : vo' + P * o = vo + P * (s % B)) (hs : s = cr + (x * y + o)) {Pk : Nat} (hP : P = Pi * Pk) :
  vo' + P * B * (s / B) = an + Pi * (x * (vb + Pk * y)) := by
 have h1 : P * (s % B) + P * B * (s / B) = P * s := by rw [Nat.mul_assoc, <- Nat.mul_add, Nat.mod_add_div]
 have h2 : P * s = P * cr + (P * (x * y) + P * o) := by rw [hs, Nat.mul_add, Nat.mul_add]
 have h3 : Pi * (x * (vb + Pk * y)) = Pi * (x * vb) + P * (x * y) := by
  rw [Nat.mul_add x, Nat.mul_add Pi, hP, Nat.mul_assoc Pi Pk, Nat.mul_left_comm x Pk y]
 omega

def Zer (O : List Nat) (j : Nat) : Prop := ∀ i (h : i < O.length), j <= i -> O[i] = 0
theorem Zer.set {O : List Nat} {j i x : Nat} (h : Zer O j) (hi : i < j) : Zer (O.set i x) j := by
 intro k hk hjk; rw [List.getElem_set_ne (by omega)]; exact h k (by simpa using hk) hjk
theorem Zer.rep (n : Nat) : Zer (List.replicate n 0) 0 := fun i h _ => by simp
theorem Zer.mono {O : List Nat} {i j : Nat} (h : Zer O i) (hij : i <= j) : Zer O j := fun k hk hjk => h k hk (by omega)

theorem mul_any {v1 v2 : Value} {m n : Nat} (w : World) (h1 : NatV w v1 m) (h2 : NatV w v2 n) (hm : (dw m).length <= 1048576) (hn : (dw n).length <= 1048576) :
  Calls Tryz.prog 120 #[v1, v2] w fun e w' => ∃ v, e = .returned v /\ NatV w' v (m * n) /\ Below w.heap.size w w' := by
 obtain ⟨A, c, rfl, hc1, hc2, hA⟩ := h1; obtain ⟨A', c', rfl, hd1, hd2, hA'⟩ := h2; unfold maxLen at hc2 hd2; have lm : Hid (Dg.val 4294967296 (dw m) = m) := Dg.val_dg b32 m; have ln : Hid (Dg.val 4294967296 (dw n) = n) := Dg.val_dg b32 n; have mk : ∀ W : World, (Instr.makeSlice 154 (.int .i64 (((dw m).length : Int) + (dw n).length)) (.int .i64 (((dw m).length : Int) + (dw n).length))).run Tryz.prog W = .ok (.slice (some ⟨W.heap.size, 0, none⟩) ((dw m).length + (dw n).length) ((dw m).length + (dw n).length)) (W.alloc (.cells (Array.replicate ((dw m).length + (dw n).length) (.int .u32 0)) 134)) := fun W => run_make_words ((dw m).length + (dw n).length) (by omega) W; have hown0 := own_words w ((dw m).length + (dw n).length); have hb0 : Below w.heap.size w (w.alloc (.cells (Array.replicate ((dw m).length + (dw n).length) (.int .u32 0)) 134)) := (Below.refl _ _).alloc (Nat.le_refl _) _
 go_enter Tryz.func120, Tryz.ntmps120
 go_wp2_with fail
 generalize (w.alloc (.cells (Array.replicate ((dw m).length + (dw n).length) (.int .u32 0)) 134)) = wa at hown0 hb0 |-
 go_loopg [19] (dw m).length (fun q v19 wr => ∃ (i : Nat) (O : List Nat), q = (dw m).length - i /\ i <= (dw m).length /\ v19 = .int .i64 i /\ O.length = (dw m).length + (dw n).length /\ Hid (Dg.Dig 4294967296 O) /\ Hid (Zer O (i + (dw n).length)) /\ Hid (Dg.val 4294967296 O = Dg.val 4294967296 ((dw m).take i) * n) /\ Own wr w.heap.size 134 (cw O) /\ Below w.heap.size w wr)
 case atStart => exact ⟨0, _, rfl, Nat.zero_le _, rfl, by simp, dig_zeros _, (Zer.rep _).mono (Nat.zero_le _), by show _ = _; rw [Dg.val_replicate_zero]; simp [Dg.val], hown0, hb0⟩
 case round =>
  clear hown0 hb0; obtain ⟨i, O, hq, hi, rfl, hO, HD, HZ, HV, hown, hbw⟩ := hrel; have HQ := Lib.hid hq; clear hq
  by_cases hlt : i < (dw m).length
  ·obtain ⟨b, off, rfl, c1⟩ := (hA.below hbw).get hlt; have hx := dw_get_lt m i hlt; have HVM : Hid (Dg.val 4294967296 ((dw m).take (i + 1)) = Dg.val 4294967296 ((dw m).take i) + 4294967296 ^ i * (dw m)[i]) := Dg.val_take_succ (b := 4294967296) hlt; generalize (dw m)[i] = x at c1 hx HVM; obtain ⟨an, han⟩ : ∃ an, an = Dg.val 4294967296 ((dw m).take i) * n := ⟨_, rfl⟩; have HAN := Lib.hid han; clear han; have HO := Lib.hid hO; clear hO
   go_wp2_with fail
   clear c1
   go_loopg [8, 26] (dw n).length (fun q v8 v26 wr => ∃ (k cr : Nat) (O : List Nat), q = (dw n).length - k /\ k <= (dw n).length /\ v26 = .int .i64 k /\ v8 = .int .u64 cr /\ cr < 4294967296 /\ O.length = (dw m).length + (dw n).length /\ Hid (Dg.Dig 4294967296 O) /\ Hid (Zer O (i + (dw n).length)) /\ Hid (Dg.val 4294967296 O + 4294967296 ^ (i + k) * cr = an + 4294967296 ^ i * (x * Dg.val 4294967296 ((dw n).take k))) /\ Own wr w.heap.size 134 (cw O) /\ Below w.heap.size w wr)
   case atStart => exact ⟨0, 0, O, rfl, Nat.zero_le _, rfl, rfl, by omega, HO.out, HD, HZ, by show _ = _; rw [HV.out, HAN.out]; simp [Dg.val], hown, hbw⟩
   case round =>
    clear hown hbw HD HZ HV HO O; obtain ⟨k, cr, O, hq2, hk, rfl, rfl, hcr, hO, HD, HZ, HV, hown, hbw⟩ := hrel; have HQ2 := Lib.hid hq2; clear hq2
    have HO := Lib.hid hO; have hO2 : O.length <= (dw m).length + (dw n).length := by omega
    have hO3 : (dw m).length + (dw n).length <= O.length := by omega
    clear hO; have hO1 : i + (dw n).length < O.length := by omega
    by_cases hkt : k < (dw n).length
    ·have hO4 : i + k < O.length := by omega
     obtain ⟨b', off', rfl, c2⟩ := (hA'.below hbw).get hkt; have hy := dw_get_lt n k hkt; have HVN : Hid (Dg.val 4294967296 ((dw n).take (k + 1)) = Dg.val 4294967296 ((dw n).take k) + 4294967296 ^ k * (dw n)[k]) := Dg.val_take_succ (b := 4294967296) hkt; have hcell := own_wcell hown hO4; have hfr := hown.frozen (i + k); have ho := HD.out _ (List.getElem_mem hO4); have HSET := fun s => Lib.hid (Dg.val_set (b := 4294967296) O (i + k) (s % 4294967296) hO4); generalize (dw n)[k] = y at c2 hy HVN; generalize O[i + k] = o at hcell ho HSET; have hxy := mul_bound hx hy; obtain ⟨p, hp⟩ : ∃ p, p = x * y := ⟨_, rfl⟩; rw [<- hp] at hxy; have HP := Lib.hid hp; have hm1 : IntKind.u64.wrap ((x : Int) * y) = (p : Int) := by
      have : ((x : Int) * y) = (p : Int) := by rw [hp]; simp
      rw [this]; exact IntWalk.u64_in _ (by omega)
     clear hp
     go_wp2_with fail
     go_roundg ((dw n).length - (k + 1))
     case measure => have := HQ2.out; omega
     case rel =>
      refine ⟨k + 1, (cr + (p + o)) / 4294967296, O.set (i + k) ((cr + (p + o)) % 4294967296), rfl, by omega, by go_num, vint (by omega), by omega, by rw [List.length_set]; exact HO.out, Dg.dig_set HD.out (by omega), HZ.out.set (by omega), ?_, own_setw hown (by omega), hbw.setCell (Nat.le_refl _) _⟩
      show _ = _
      rw [HVN.out]; have e : i + (k + 1) = i + k + 1 := by omega
      rw [e, Nat.pow_succ]; exact mul_step HV.out (HSET (cr + (p + o))).out (by rw [HP.out]) (Nat.pow_add _ _ _)
    ·obtain rfl : k = (dw n).length := by omega
     have hcell := own_wcell hown hO1; have hfr := hown.frozen (i + (dw n).length); have HSET := Lib.hid (Dg.val_set (b := 4294967296) O (i + (dw n).length) cr hO1); have h0 : O[i + (dw n).length] = 0 := HZ.out _ hO1 (Nat.le_refl _); rw [h0] at hcell HSET; clear h0
     go_wp2_with fail
     go_roundg ((dw m).length - (i + 1))
     case measure => have := HQ.out; omega
     case rel =>
      refine ⟨i + 1, O.set (i + (dw n).length) cr, rfl, by omega, by go_num, by rw [List.length_set]; exact HO.out, Dg.dig_set HD.out hcr, ?_, ?_, own_setw hown (by omega), hbw.setCell (Nat.le_refl _) _⟩
      ·exact (HZ.out.mono (by omega)).set (by omega)
      ·show _ = _
       have h1 := HSET.out; have h2 := HV.out; rw [Nat.mul_zero, Nat.add_zero] at h1; rw [h1, h2, HVM.out, HAN.out, List.take_of_length_le (Nat.le_refl _), ln.out, Nat.add_mul, Nat.mul_assoc]
  ·obtain rfl : i = (dw m).length := by omega
   have HF : Hid (Dg.val 4294967296 O = m * n) := by
    show _ = _
    rw [HV.out, List.take_of_length_le (Nat.le_refl _), lm.out]
   have HO := Lib.hid hO; have hO2 : O.length <= (dw m).length + (dw n).length := by omega
   clear hO
   go_wp2_with fail
   refine (norm_nat _ ((dw m).length + (dw n).length) O _ (n := m * n) (own_wds hown) HO.out.symm hO2 (by unfold maxLen; omega) HD.out HF.out).mono ?_; rintro e w' ⟨v, rfl, hv, rfl⟩
   go_wp2
   go_ret
   exact ⟨v, rfl, hv, hbw⟩
end Go.Proofs.YtjimfbmegmnocaaGreatDoor
