/- The program's numbers: less, more: words changed in place. -/
import Derived.Test.YtofijnhkoadfjaaNb
namespace Go.Proofs.Ytofijnhkoadfjaa
set_option linter.unusedSimpArgs false
set_option linter.unusedVariables false
set_option linter.unusedSectionVars false
open Go.RowKit

/-- Words in no block of S. -/
def WdsOut (S : Nat → Prop) (w : World) (A : Option Addr) (l : List Nat) : Prop := RdOut S w A (cw l)
theorem WdsOut.get {S : Nat → Prop} {w : World} {A : Option Addr} {l : List Nat} (h : WdsOut S w A l) {k : Nat} (hk : k < l.length) :
    ∃ b off, A = some ⟨b, off, none⟩ ∧ ¬ S b ∧ w.cell? ⟨b, off + k, none⟩ = some (.int .u32 (l[k] : Int)) := by
  obtain ⟨b, off, e, hs, hc⟩ := h k (.int .u32 (l[k] : Int)) (by simp [cw, hk])
  exact ⟨b, off, e, hs, hc⟩
theorem WdsOut.chg {S : Nat → Prop} {w w' : World} {A : Option Addr} {l : List Nat} (h : WdsOut S w A l) (hc : Chg S w w') : WdsOut S w' A l := RdOut.chg h hc
theorem drop_set' {O : List Nat} {off i x : Nat} : (O.set (off + i) x).drop off = (O.drop off).set i x := by
  rw [List.drop_set, if_neg (by omega)]
  congr 1; omega
/-- The window's words have been changed up to i. -/
structure Win (O0 O : List Nat) (off i : Nat) : Prop where
  len : O.length = O0.length
  lo : O.take off = O0.take off
  hi : O.drop (off + i) = O0.drop (off + i)
theorem Win.refl (O : List Nat) (off i : Nat) : Win O O off i := ⟨rfl, rfl, rfl⟩
theorem Win.step {O0 O : List Nat} {off i x : Nat} (h : Win O0 O off i) : Win O0 (O.set (off + i) x) off (i + 1) := by
  refine ⟨by rw [List.length_set]; exact h.len, ?_, ?_⟩
  · rw [List.take_set_of_le (by omega)]; exact h.lo
  · rw [List.drop_set_of_lt (by omega)]
    have e : off + (i + 1) = 1 + (off + i) := by omega
    have h2 := congrArg (List.drop 1) h.hi
    rw [List.drop_drop, List.drop_drop] at h2
    rw [show off + (i + 1) = off + i + 1 by omega]
    exact h2
theorem Win.at_ {O0 O : List Nat} {off i : Nat} (h : Win O0 O off i) (hi : off + i < O.length) : O[off + i] = O0[off + i]'(by rw [← h.len]; exact hi) := by
  have h0 : off + i < O0.length := by rw [← h.len]; exact hi
  have := h.hi
  rw [List.drop_eq_getElem_cons hi, List.drop_eq_getElem_cons h0] at this
  exact (List.cons.inj this).1
theorem win_take {O : List Nat} {off i x : Nat} (h : off + i < O.length) : ((O.set (off + i) x).drop off).take (i + 1) = (O.drop off).take i ++ [x] := by
  rw [drop_set', set_take (by rw [List.length_drop]; omega)]
theorem win_len {O : List Nat} {off i : Nat} (h : off + i ≤ O.length) : ((O.drop off).take i).length = i := by
  rw [List.length_take, List.length_drop]; omega
theorem win_succ {O : List Nat} {off i : Nat} (h : off + i < O.length) (b : Nat) : Dg.val b ((O.drop off).take (i + 1)) = Dg.val b ((O.drop off).take i) + b ^ i * O[off + i] := by
  rw [Dg.val_take_succ (by rw [List.length_drop]; omega), List.getElem_drop]
theorem less_step {P B vu' vu vv t ca bo x u v ca' bo' : Nat} (h : vu' + t * vv = vu + P * (ca + bo)) (hx : ca + bo + x + t * v = u + B * (ca' + bo')) :
    (vu' + P * x) + t * (vv + P * v) = (vu + P * u) + P * B * (ca' + bo') := by
  have h1 : P * (ca + bo + x + t * v) = P * (u + B * (ca' + bo')) := by rw [hx]
  rw [Nat.mul_add, Nat.mul_add, Nat.mul_add P u, ← Nat.mul_assoc P B] at h1
  have h2 : t * (vv + P * v) = t * vv + P * (t * v) := by rw [Nat.mul_add, Nat.mul_left_comm]
  omega

def LessPost (O0 : List Nat) (off n1 t : Nat) (V : List Nat) (g : Nat) (w : World) (e : Ending) (w' : World) : Prop :=
  ∃ (bo : Nat) (O : List Nat), e = .returned (.bool (decide (bo = 1))) ∧ bo ≤ 1 ∧ Win O0 O off n1 ∧ Dg.Dig 4294967296 O ∧
    Dg.val 4294967296 ((O.drop off).take n1) + t * Dg.val 4294967296 V = Dg.val 4294967296 ((O0.drop off).take n1) + 4294967296 ^ n1 * bo ∧ Own w' g 88 (cw O) ∧ Chg (fun k => k = g) w w'

set_option maxRecDepth 100000 in
set_option maxHeartbeats 2000000 in
theorem less_any (g off n1 c1 t : Nat) (O0 : List Nat) (A : Option Addr) (c2 : Nat) (V : List Nat) (w : World) (hown0 : Own w g 88 (cw O0)) (hD0 : Dg.Dig 4294967296 O0) (hlen : off + n1 ≤ O0.length) (hbig : O0.length ≤ 4194304) (hn1 : V.length < n1) (hc1 : n1 ≤ c1) (hcm : c1 ≤ maxLen)
    (hV : WdsOut (fun k => k = g) w A V) (hDV : Dg.Dig 4294967296 V) (ht : t < 4294967296) :
    Calls Try.prog 80 #[.slice (some ⟨g, off, none⟩) n1 c1, .slice A V.length c2, .int .u64 t] w (LessPost O0 off n1 t V g w) := by
  have HD0 := Lib.hid hD0
  have HDV := Lib.hid hDV
  clear hD0 hDV
  unfold maxLen at hcm
  go_enter Try.func80, Try.ntmps80
  go_wp2_with fail
  go_loopg [7, 8, 12] n1 (fun q v7 v8 v12 wr => ∃ (i bo ca : Nat) (z : Int) (O : List Nat), q = n1 - i ∧ i ≤ n1 ∧ v12 = .int .i64 i ∧ v7 = .int .i64 z ∧ z = -(bo : Int) ∧ bo ≤ 1 ∧ v8 = .int .u64 ca ∧ ca < 4294967296 ∧ Hid (V.length < i → ca = 0) ∧ Hid (Win O0 O off i) ∧ Hid (Dg.Dig 4294967296 O) ∧
    Hid (Dg.val 4294967296 ((O.drop off).take i) + t * Dg.val 4294967296 (V.take i) = Dg.val 4294967296 ((O0.drop off).take i) + 4294967296 ^ i * (ca + bo)) ∧ Own wr g 88 (cw O) ∧ Chg (fun k => k = g) w wr)
  case atStart => exact ⟨0, 0, 0, 0, O0, rfl, Nat.zero_le _, rfl, rfl, by omega, by omega, rfl, by omega, fun _ => rfl, Win.refl _ _ _, HD0.out, by show _ = _; simp [Dg.val], hown0, Chg.refl _ _⟩
  case round =>
    clear hown0
    obtain ⟨i, bo, ca, z, O, hq, hi, rfl, rfl, hz, hbo, rfl, hca, HCA, HW, HD, HV, hown, hcg⟩ := hrel
    have HQ := Lib.hid hq; clear hq
    by_cases hlt : i < n1
    · have HZ := Lib.hid hz
      have hz1 : z ≤ 0 := by omega
      have hz2 : -1 ≤ z := by omega
      clear hz
      have hO1 : off + i < O.length := by have := HW.out.len; omega
      have hO0 : off + i < O0.length := by omega
      have hcell := own_wcell hown hO1
      have hfr := hown.frozen (off + i)
      have hu := HD.out _ (List.getElem_mem hO1)
      have HSU : Hid (Dg.val 4294967296 ((O0.drop off).take (i + 1)) = Dg.val 4294967296 ((O0.drop off).take i) + 4294967296 ^ i * O[off + i]) := by
        show _ = _
        rw [win_succ hO0, HW.out.at_ hO1]
      generalize O[off + i] = u at hcell hu HSU
      by_cases hlv : i < V.length
      · obtain ⟨b, off2, rfl, hne, c2'⟩ := (hV.chg hcg).get hlv
        have hne' : b ≠ g := hne
        have hv := HDV.out _ (List.getElem_mem hlv)
        have HSV : Hid (Dg.val 4294967296 (V.take (i + 1)) = Dg.val 4294967296 (V.take i) + 4294967296 ^ i * V[i]) := Dg.val_take_succ (b := 4294967296) hlv
        generalize V[i] = v at c2' hv HSV
        have htv := mul_bound ht hv
        obtain ⟨p, hp⟩ : ∃ p, p = t * v := ⟨_, rfl⟩
        rw [← hp] at htv
        have HP := Lib.hid hp
        have hm1 : IntKind.u64.wrap ((t : Int) * v) = (p : Int) := by
          have : ((t : Int) * v) = (p : Int) := by rw [hp]; simp
          rw [this]; exact IntWalk.u64_in _ (by omega)
        clear hp hne
        have HX : Hid (∃ x bo', x < 4294967296 ∧ bo' ≤ 1 ∧ ca + bo + x + p = u + 4294967296 * ((ca + p) / 4294967296 + bo') ∧ (z + ((u : Int) - ((ca : Int) + p) % 4294967296)) % 4294967296 = (x : Int) ∧ (z + ((u : Int) - ((ca : Int) + p) % 4294967296)) / 4294967296 = -(bo' : Int)) := by
          have hz := HZ.out
          show ∃ x bo', _
          by_cases hc : bo + (ca + p) % 4294967296 ≤ u
          · exact ⟨u - (ca + p) % 4294967296 - bo, 0, by omega, by omega, by omega, by omega, by omega⟩
          · exact ⟨4294967296 + u - (ca + p) % 4294967296 - bo, 1, by omega, by omega, by omega, by omega, by omega⟩
        go_wp2_with fail
        go_roundg (n1 - (i + 1))
        case measure => have := HQ.out; omega
        case rel =>
          obtain ⟨x, bo', hx1, hx2, hx3, hx4, hx5⟩ := HX.out
          refine ⟨i + 1, bo', (ca + p) / 4294967296, _, O.set (off + i) x, rfl, by omega, by go_num, rfl, hx5, hx2, vint (by omega), by omega, fun h => by omega, HW.out.step, Dg.dig_set HD.out hx1, ?_, own_setw hown hx4, hcg.setCell rfl _⟩
          show _ = _
          rw [win_take hO1, Dg.val_snoc, win_len (by omega), Nat.pow_succ, HSU.out, HSV.out]
          exact less_step HV.out (by rw [← HP.out]; exact hx3)
      · have HSV : Hid (Dg.val 4294967296 (V.take (i + 1)) = Dg.val 4294967296 (V.take i) + 4294967296 ^ i * 0) := by
          show _ = _
          rw [List.take_of_length_le (by omega), List.take_of_length_le (by omega)]; omega
        have HX : Hid (∃ x bo', x < 4294967296 ∧ bo' ≤ 1 ∧ ca + bo + x + t * 0 = u + 4294967296 * (0 + bo') ∧ (z + ((u : Int) - (ca : Int))) % 4294967296 = (x : Int) ∧ (z + ((u : Int) - (ca : Int))) / 4294967296 = -(bo' : Int)) := by
          have hz := HZ.out
          show ∃ x bo', _
          by_cases hc : bo + ca ≤ u
          · exact ⟨u - ca - bo, 0, by omega, by omega, by omega, by omega, by omega⟩
          · exact ⟨4294967296 + u - ca - bo, 1, by omega, by omega, by omega, by omega, by omega⟩
        have y1 : (ca : Int) % 4294967296 = (ca : Int) := by omega
        have y2 : (ca : Int) / 4294967296 = 0 := by omega
        go_wp2_with fail
        go_roundg (n1 - (i + 1))
        case measure => have := HQ.out; omega
        case rel =>
          obtain ⟨x, bo', hx1, hx2, hx3, hx4, hx5⟩ := HX.out
          refine ⟨i + 1, bo', 0, _, O.set (off + i) x, rfl, by omega, by go_num, rfl, hx5, hx2, vint (by omega), by omega, fun h => rfl, HW.out.step, Dg.dig_set HD.out hx1, ?_, own_setw hown hx4, hcg.setCell rfl _⟩
          show _ = _
          rw [win_take hO1, Dg.val_snoc, win_len (by omega), Nat.pow_succ, HSU.out, HSV.out]
          exact less_step HV.out hx3
    · obtain rfl : i = n1 := by omega
      have hca0 := HCA.out hn1
      subst hca0
      have hv := HV.out
      rw [List.take_of_length_le (by omega : V.length ≤ i), Nat.zero_add] at hv
      have HV2 := Lib.hid hv
      clear hv HV
      rcases (show bo = 0 ∨ bo = 1 by omega) with rfl | rfl
      · obtain rfl : z = 0 := by omega
        clear hz
        go_wp2
        go_ret
        exact ⟨0, O, rfl, by omega, HW.out, HD.out, HV2.out, hown, hcg⟩
      · obtain rfl : z = -1 := by omega
        clear hz
        go_wp2
        go_ret
        exact ⟨1, O, rfl, by omega, HW.out, HD.out, HV2.out, hown, hcg⟩

def MorePost (O0 : List Nat) (off n1 : Nat) (V : List Nat) (g : Nat) (w : World) (w' : World) : Prop :=
  ∃ (cr : Nat) (O : List Nat), cr ≤ 1 ∧ Win O0 O off n1 ∧ Dg.Dig 4294967296 O ∧
    Dg.val 4294967296 ((O.drop off).take n1) + 4294967296 ^ n1 * cr = Dg.val 4294967296 ((O0.drop off).take n1) + Dg.val 4294967296 V ∧ Own w' g 88 (cw O) ∧ Chg (fun k => k = g) w w'

set_option maxRecDepth 100000 in
set_option maxHeartbeats 2000000 in
theorem more_any (g off n1 c1 : Nat) (O0 : List Nat) (A : Option Addr) (c2 : Nat) (V : List Nat) (w : World) (hown0 : Own w g 88 (cw O0)) (hD0 : Dg.Dig 4294967296 O0) (hlen : off + n1 ≤ O0.length) (hbig : O0.length ≤ 4194304) (hn1 : V.length < n1) (hc1 : n1 ≤ c1) (hcm : c1 ≤ maxLen)
    (hV : WdsOut (fun k => k = g) w A V) (hDV : Dg.Dig 4294967296 V) :
    Calls Try.prog 81 #[.slice (some ⟨g, off, none⟩) n1 c1, .slice A V.length c2] w fun e w' => e = .returned (.tuple #[]) ∧ MorePost O0 off n1 V g w w' := by
  have HD0 := Lib.hid hD0
  have HDV := Lib.hid hDV
  clear hD0 hDV
  unfold maxLen at hcm
  go_enter Try.func81, Try.ntmps81
  go_wp2_with fail
  go_loopg [4, 8] n1 (fun q v4 v8 wr => ∃ (i cr : Nat) (O : List Nat), q = n1 - i ∧ i ≤ n1 ∧ v8 = .int .i64 i ∧ v4 = .int .u64 cr ∧ cr ≤ 1 ∧ Hid (Win O0 O off i) ∧ Hid (Dg.Dig 4294967296 O) ∧
    Hid (Dg.val 4294967296 ((O.drop off).take i) + 4294967296 ^ i * cr = Dg.val 4294967296 ((O0.drop off).take i) + Dg.val 4294967296 (V.take i)) ∧ Own wr g 88 (cw O) ∧ Chg (fun k => k = g) w wr)
  case atStart => exact ⟨0, 0, O0, rfl, Nat.zero_le _, rfl, rfl, by omega, Win.refl _ _ _, HD0.out, by show _ = _; simp [Dg.val], hown0, Chg.refl _ _⟩
  case round =>
    clear hown0
    obtain ⟨i, cr, O, hq, hi, rfl, rfl, hcr, HW, HD, HV, hown, hcg⟩ := hrel
    have HQ := Lib.hid hq; clear hq
    by_cases hlt : i < n1
    · have hO1 : off + i < O.length := by have := HW.out.len; omega
      have hO0 : off + i < O0.length := by omega
      have hcell := own_wcell hown hO1
      have hfr := hown.frozen (off + i)
      have hu := HD.out _ (List.getElem_mem hO1)
      have HSU : Hid (Dg.val 4294967296 ((O0.drop off).take (i + 1)) = Dg.val 4294967296 ((O0.drop off).take i) + 4294967296 ^ i * O[off + i]) := by
        show _ = _
        rw [win_succ hO0, HW.out.at_ hO1]
      generalize O[off + i] = u at hcell hu HSU
      by_cases hlv : i < V.length
      · obtain ⟨b, off2, rfl, hne, c2'⟩ := (hV.chg hcg).get hlv
        have hne' : b ≠ g := hne
        have hv := HDV.out _ (List.getElem_mem hlv)
        have HSV : Hid (Dg.val 4294967296 (V.take (i + 1)) = Dg.val 4294967296 (V.take i) + 4294967296 ^ i * V[i]) := Dg.val_take_succ (b := 4294967296) hlv
        generalize V[i] = v at c2' hv HSV
        clear hne
        have HSTEP := Lib.hid (add_step (B := 4294967296) HV.out (rfl : cr + u + v = cr + u + v))
        go_wp2_with fail
        go_roundg (n1 - (i + 1))
        case measure => have := HQ.out; omega
        case rel =>
          refine ⟨i + 1, (cr + u + v) / 4294967296, O.set (off + i) ((cr + u + v) % 4294967296), rfl, by omega, by go_num, vint (by omega), by omega, HW.out.step, Dg.dig_set HD.out (by omega), ?_, own_setw hown (by omega), hcg.setCell rfl _⟩
          show _ = _
          rw [win_take hO1, Dg.val_snoc, win_len (by omega), Nat.pow_succ, HSU.out, HSV.out]
          exact HSTEP.out
      · have HSV : Hid (Dg.val 4294967296 (V.take (i + 1)) = Dg.val 4294967296 (V.take i) + 4294967296 ^ i * 0) := by
          show _ = _
          rw [List.take_of_length_le (by omega), List.take_of_length_le (by omega)]; omega
        have HSTEP := Lib.hid (add_step (B := 4294967296) (a := u) (b := 0) HV.out (rfl : cr + u + 0 = cr + u + 0))
        go_wp2_with fail
        go_roundg (n1 - (i + 1))
        case measure => have := HQ.out; omega
        case rel =>
          refine ⟨i + 1, (cr + u) / 4294967296, O.set (off + i) ((cr + u) % 4294967296), rfl, by omega, by go_num, vint (by omega), by omega, HW.out.step, Dg.dig_set HD.out (by omega), ?_, own_setw hown (by omega), hcg.setCell rfl _⟩
          show _ = _
          rw [win_take hO1, Dg.val_snoc, win_len (by omega), Nat.pow_succ, HSU.out, HSV.out]
          exact HSTEP.out
    · obtain rfl : i = n1 := by omega
      have hv := HV.out
      rw [List.take_of_length_le (by omega : V.length ≤ i)] at hv
      have HV2 := Lib.hid hv
      clear hv HV
      go_wp2
      go_end0
      exact ⟨rfl, cr, O, hcr, HW.out, HD.out, HV2.out, hown, hcg⟩
end Go.Proofs.Ytofijnhkoadfjaa
