/- Parts of the proof: Nw. No condition of its own. -/
import Derived.Test.YtjimfbmegmnocaaGreatDoorProg
import Derived.Test.YtjimfbmegmnocaaGreatDoorReg
import Derived.Test.YtjimfbmegmnocaaGreatDoorDg
import Derived.IntWalk
import Derived.Deep.LoopGhost
import Derived.Deep.DeepCutAuto
import Derived.Deep.CutBlock
import Derived.Maps.AppendAt
import Derived.Test.YtjimfbmegmnocaaGreatDoorShelf
set_option linter.unusedSimpArgs false
set_option linter.unusedVariables false
set_option maxHeartbeats 4000000
namespace Go.Proofs.YtjimfbmegmnocaaGreatDoor
open Go.RowKit

abbrev cw (l : List Nat) : List Value := l.map fun (x : Nat) => Value.int .u32 (x : Int)
def Wds (w : World) (A : Option Addr) (l : List Nat) : Prop := Rd w A (cw l)
theorem Wds.get {w : World} {A : Option Addr} {l : List Nat} (h : Wds w A l) {k : Nat} (hk : k < l.length) :
  ∃ b off, A = some ⟨b, off, none⟩ /\ w.cell? ⟨b, off + k, none⟩ = some (.int .u32 (l[k] : Int)) := by
 obtain ⟨b, off, e, hc⟩ := Rd.get h (k := k) (by simpa using hk); exact ⟨b, off, e, by simpa using hc⟩
theorem Wds.below {w w' : World} {A : Option Addr} {l : List Nat} (h : Wds w A l) (hb : Below w.heap.size w w') : Wds w' A l := Rd.below h hb
theorem Wds.take {w : World} {A : Option Addr} {l : List Nat} (h : Wds w A l) (n : Nat) : Wds w A (l.take n) := by
 have := Rd.take h n; unfold Wds cw; rw [List.map_take]; exact this
def dw (n : Nat) : List Nat := Dg.dg 4294967296 n
theorem b32 : 2 <= 4294967296 := by decide
theorem dw_lt (n : Nat) : ∀ x ∈ dw n, x < 4294967296 := Dg.dig_dg b32 n
theorem dw_get_lt (n k : Nat) (h : k < (dw n).length) : (dw n)[k] < 4294967296 := dw_lt n _ (List.getElem_mem h)
def NatV (w : World) (v : Value) (n : Nat) : Prop := ∃ A c, v = .slice A (dw n).length c /\ (dw n).length <= c /\ c <= maxLen /\ Wds w A (dw n)
theorem NatV.below {w w' : World} {v : Value} {n : Nat} (h : NatV w v n) (hb : Below w.heap.size w w') : NatV w' v n := by
 obtain ⟨A, c, rfl, h1, h2, h3⟩ := h; exact ⟨A, c, rfl, h1, h2, h3.below hb⟩
theorem NatV.zero (w : World) : NatV w (.slice none 0 0) 0 := ⟨none, 0, rfl, Nat.le_refl _, by unfold maxLen; omega, Rd.nil _ _⟩
theorem NatV.of_cut {w : World} {A : Option Addr} {l : List Nat} {c : Nat} (h : Wds w A l) (hd : Dg.Dig 4294967296 l) (h1 : l.length <= c) (h2 : c <= maxLen) : NatV w (.slice A (Dg.cut l).length c) (Dg.val 4294967296 l) := by
 have e : Dg.cut l = dw (Dg.val 4294967296 l) := Dg.cut_eq b32 hd; refine ⟨A, c, by rw [e], ?_, h2, ?_⟩
 ·rw [<- e]; exact Nat.le_trans (Dg.cut_le l) h1
 ·rw [<- e, Dg.cut_take l]; exact h.take _

theorem ret_slice {A : Option Addr} {m n c : Nat} (h : m = n) : Ending.returned (.slice A m c) = .returned (.slice A n c) := by rw [h]

theorem norm_any (A : Option Addr) (c : Nat) (l : List Nat) (w : World) (h : Wds w A l) (hc : l.length <= c) (hm : c <= maxLen) :
  Calls Tryz.prog 134 #[.slice A l.length c] w fun e w' => e = .returned (.slice A (Dg.cut l).length c) /\ w = w' := by
 unfold maxLen at hm
 go_enter Tryz.func134, Tryz.ntmps134
 go_wp2
 go_loop [0] (fun v => ∃ k : Nat, k <= l.length /\ v = .slice A k c /\ Hid (Dg.cut (l.take k) = Dg.cut l)) (fun v => match v with | .slice _ n _ => n | _ => 0)
 case atStart => exact ⟨l.length, Nat.le_refl _, rfl, by show _ = _; rw [List.take_length]⟩
 case round =>
  obtain ⟨k, hk, rfl, HC⟩ := hrel
  rcases Nat.eq_zero_or_pos k with rfl | hk0
  ·go_wp2
   go_ret
   refine ⟨?_, rfl⟩; have := HC.out; rw [List.take_zero] at this; rw [<- this]; rfl
  ·obtain ⟨k1, rfl⟩ : ∃ k1, k = k1 + 1 := ⟨k - 1, by omega⟩; have hkl : k1 < l.length := by omega
   obtain ⟨b, off, rfl, hcell⟩ := h.get hkl; have z1 : IntKind.i64.wrap (k1 : Int) = k1 := IntWalk.i64_in _ (by omega); have z3 : (k1 : Int) < (k1 : Int) + 1 := by omega
   by_cases h0 : l[k1] = 0
   ·have HN : Hid (Dg.cut (l.take k1) = Dg.cut l) := by show _ = _; rw [<- HC.out, Dg.cut_at hkl h0]
    rw [h0] at hcell; clear h0 HC
    go_wp2
    go_round
    case rel => exact ⟨k1, by omega, rfl, HN⟩
    case measure => simp
   ·have hb1 : ((l[k1] : Int) == 0) = false := by simp; omega
    have HN : Hid ((Dg.cut l).length = k1 + 1) := by show _ = _; rw [<- HC.out, Dg.cut_stop hkl h0, List.length_take]; omega
    clear h0 HC
    go_wp2
    go_ret
    exact ⟨ret_slice HN.out.symm, rfl⟩

theorem norm_nat (A : Option Addr) (c : Nat) (l : List Nat) (w : World) {n k : Nat} (h : Wds w A l) (hk : k = l.length) (hc : l.length <= c) (hm : c <= maxLen) (hd : Dg.Dig 4294967296 l) (hn : Dg.val 4294967296 l = n) :
  Calls Tryz.prog 134 #[.slice A k c] w fun e w' => ∃ v, e = .returned v /\ NatV w' v n /\ w = w' := by
 subst hk; refine (norm_any A c l w h hc hm).mono ?_; rintro e w' ⟨rfl, rfl⟩; exact ⟨_, rfl, by rw [<- hn]; exact NatV.of_cut h hd hc hm, rfl⟩

theorem of_any (n : Nat) (w : World) (hn : n < 18446744073709551616) :
  Calls Tryz.prog 122 #[.int .u64 (n : Int)] w fun e w' => ∃ v, e = .returned v /\ NatV w' v n /\ Below w.heap.size w w' := by
 have hn' : (n : Int) < 18446744073709551616 := by omega
 have e : (cw [n % 4294967296, n / 4294967296]).toArray = #[.int .u32 ((n : Int) % 4294967296), .int .u32 ((n : Int) / 4294967296)] := by simp [cw]
 have hw := Own.new w 134 (cw [n % 4294967296, n / 4294967296]); rw [e] at hw; clear e
 go_enter Tryz.func122, Tryz.ntmps122
 go_wp2_with fail
 refine (norm_nat _ 2 [n % 4294967296, n / 4294967296] _ (n := n) hw.rd0 rfl (Nat.le_refl _) (by unfold maxLen; omega) ?_ ?_).mono ?_
 ·intro x hx
  simp at hx
  omega
 ·simp [Dg.val]; omega
 ·rintro e w' ⟨v, rfl, hv, rfl⟩
  go_wp2
  go_ret
  exact ⟨v, rfl, hv, (Below.refl _ _).alloc (Nat.le_refl _) _⟩

def blen (n : Nat) : Nat := (Dg.dg 2 n).length
theorem bitLen_eq : ∀ f x, x < 2 ^ f -> Lib.bitLenAux f x = blen x := by
 intro f
 induction f with
 | zero => intro x h; have : x = 0 := by simpa using h
           subst this; rfl
 | succ f ih =>
  intro x h
  show (if x = 0 then 0 else 1 + Lib.bitLenAux f (x / 2)) = blen x
  by_cases h0 : x = 0
  ·subst h0; rfl
  ·rw [if_neg h0, ih _ (by rw [Nat.pow_succ] at h; omega)]; unfold blen; rw [Dg.dg_pos (Nat.le_refl 2) (by omega : 0 < x)]
   simp; omega
theorem bitLen_is {x : Nat} (h : x < 4294967296) : Lib.bitLen x = blen x := bitLen_eq 64 x (by omega)
theorem blen_of {n k : Nat} (h1 : 2 ^ k <= n) (h2 : n < 2 ^ (k + 1)) : blen n = k + 1 := by
 have a := Dg.dg_le (Nat.le_refl 2) h2; have b := Dg.dg_lt (Nat.le_refl 2) n; unfold blen
 rcases Nat.lt_or_ge k (Dg.dg 2 n).length with h | h
 ·omega
 ·have := Nat.pow_le_pow_right (show 0 < 2 by decide) h
  omega
theorem blen_lt (n : Nat) : n < 2 ^ blen n := Dg.dg_lt (Nat.le_refl 2) n
theorem blen_ge {n : Nat} (h : 0 < n) : 2 ^ (blen n - 1) <= n := Dg.dg_ge (Nat.le_refl 2) h
theorem blen_pos {n : Nat} (h : 0 < n) : 0 < blen n := by
 rcases Nat.eq_zero_or_pos (blen n) with h0 | h0
 ·have := blen_lt n; rw [h0] at this; omega
 ·exact h0
theorem top_split {n k : Nat} (h : (dw n).length = k + 1) : ∃ low, low < 4294967296 ^ k /\ n = low + 4294967296 ^ k * (dw n)[k]'(by omega) := by
 refine ⟨Dg.val 4294967296 ((dw n).take k), ?_, ?_⟩
 ·have := Dg.val_lt (by decide : 0 < 4294967296) (l := (dw n).take k) (Dg.dig_take (dw_lt n) k)
  rwa [List.length_take, Nat.min_eq_left (by omega)] at this
 ·have h1 := Dg.val_take_succ (b := 4294967296) (l := dw n) (k := k) (by omega); rw [List.take_of_length_le (by omega)] at h1; rw [<- h1]; exact (Dg.val_dg b32 n).symm
theorem dw_top {n k : Nat} (h : (dw n).length = k + 1) : (dw n)[k]'(by omega) ≠ 0 := Dg.dg_last b32 h
theorem bits_eq {n k : Nat} (h : (dw n).length = k + 1) : blen n = 32 * k + blen ((dw n)[k]'(by omega)) := by
 obtain ⟨low, h1, h2⟩ := top_split h; have h3 := dw_top h; generalize (dw n)[k]'(by omega) = t at h2 h3 |-; have hp := blen_pos (show 0 < t by omega); obtain ⟨m, hm⟩ : ∃ m, blen t = m + 1 := ⟨blen t - 1, by omega⟩; have g1 := blen_ge (show 0 < t by omega); have g2 := blen_lt t; rw [hm] at g1 g2 |-; have eP : (4294967296 : Nat) ^ k = 2 ^ (32 * k) := by rw [Nat.pow_mul]
 rw [Nat.add_sub_cancel] at g1; have := blen_of (n := n) (k := 32 * k + m) ?_ ?_
 ·rw [this]; omega
 ·rw [Nat.pow_add, <- eP, h2]; have := Nat.mul_le_mul_left (4294967296 ^ k) g1
  omega
 ·have e2 : 32 * k + m + 1 = 32 * k + (m + 1) := by omega
  rw [e2, Nat.pow_add, <- eP, h2]; have := Nat.mul_le_mul_left (4294967296 ^ k) (show t + 1 <= 2 ^ (m + 1) by omega); rw [Nat.mul_add, Nat.mul_one] at this
  omega

theorem bits_any {v : Value} {n : Nat} (w : World) (h : NatV w v n) (hl : (dw n).length <= 16777216) :
  Calls Tryz.prog 102 #[v] w fun e w' => e = .returned (.int .i64 (blen n : Int)) /\ w = w' := by
 obtain ⟨A, c, rfl, hc1, hc2, hA⟩ := h; unfold maxLen at hc2
 by_cases h0 : n = 0
 ·subst h0; have hz : (dw 0).length = 0 := rfl; rw [hz]
  go_enter Tryz.func102, Tryz.ntmps102
  go_wp2
  go_ret
  exact ⟨rfl, rfl⟩
 ·obtain ⟨k, hk⟩ : ∃ k, (dw n).length = k + 1 := by
   have : dw n ≠ [] := fun e => h0 ((Dg.dg_nil b32).1 e); have := List.length_pos_iff.2 this; exact ⟨(dw n).length - 1, by omega⟩
  have hkl : k < (dw n).length := by omega
  obtain ⟨b, off, rfl, hcell⟩ := hA.get hkl; have ht := dw_get_lt n k hkl; have hbl := bits_eq hk; have HB : Hid (blen n = 32 * k + blen (dw n)[k]) := hbl; have hbb : blen (dw n)[k] <= 32 := Dg.dg_le (Nat.le_refl 2) (by omega); clear hbl; generalize (dw n)[k] = t at hcell ht HB hbb; have HT : Hid (Lib.bitLen t = blen t) := bitLen_is ht; have htI : (t : Int) <= 4294967295 := by omega
  rw [hk] at hl hc1 |-; have z1 : IntKind.i64.wrap (k : Int) = k := IntWalk.i64_in _ (by omega); have z2 : IntKind.i64.wrap (32 * (k : Int)) = 32 * k := IntWalk.i64_in _ (by omega); have z3 : (k : Int) < (k : Int) + 1 := by omega
  have z4 : IntKind.i64.wrap (32 * (k : Int) + (blen t : Int)) = 32 * k + blen t := IntWalk.i64_in _ (by omega); clear hk hkl h0
  go_enter Tryz.func102, Tryz.ntmps102
  go_wp2_with fail
  refine (Tryz.bits_Len32 _ _ (by omega) htI).mono ?_; rintro e w' ⟨rfl, rfl⟩; rw [Int.toNat_natCast, HT.out]
  go_wp2
  go_ret
  exact ⟨ret_int (by rw [HB.out]; omega), rfl⟩

def cmpI (m n : Nat) : Int := if m < n then -1 else if m = n then 0 else 1
theorem cmpI_lt {m n : Nat} (h : m < n) : cmpI m n = -1 := if_pos h
theorem cmpI_gt {m n : Nat} (h : n < m) : cmpI m n = 1 := by unfold cmpI; rw [if_neg (by omega), if_neg (by omega)]
theorem cmpI_eq {m n : Nat} (h : m = n) : cmpI m n = 0 := by unfold cmpI; rw [if_neg (by omega), if_pos h]

theorem cmp_any {v1 v2 : Value} {m n : Nat} (w : World) (h1 : NatV w v1 m) (h2 : NatV w v2 n) :
  Calls Tryz.prog 121 #[v1, v2] w fun e w' => e = .returned (.int .i64 (cmpI m n)) /\ Below w.heap.size w w' := by
 obtain ⟨A, c, rfl, hc1, hc2, hA⟩ := h1; obtain ⟨A', c', rfl, hd1, hd2, hA'⟩ := h2; unfold maxLen at hc2 hd2; have lm : Hid (Dg.val 4294967296 (dw m) = m) := Dg.val_dg b32 m; have ln : Hid (Dg.val 4294967296 (dw n) = n) := Dg.val_dg b32 n
 by_cases hlen : (dw m).length = (dw n).length
 ·have hb1 : (((dw m).length : Int) != ((dw n).length : Int)) = false := by simp [hlen]
  have HL := Z' hlen; have hl1 : (dw m).length <= (dw n).length := by omega
  have hl2 : (dw n).length <= (dw m).length := by omega
  clear hlen
  go_enter Tryz.func121, Tryz.ntmps121
  go_wp2_with fail
  go_loopg [5] (dw m).length (fun q v wr => ∃ (k : Nat) (z : Int), q = k /\ k <= (dw m).length /\ v = .int .i64 z /\ z = (k : Int) - 1 /\ Hid ((dw m).drop k = (dw n).drop k) /\ Below w.heap.size w wr)
  case atStart => exact ⟨_, _, rfl, Nat.le_refl _, rfl, rfl, by show _ = _; rw [List.drop_length, HL.out, List.drop_length], Below.refl _ _⟩
  case round =>
   obtain ⟨k, z, hq, hk, rfl, hz, HD, hbw⟩ := hrel; have HQ := Z' hq; clear hq
   rcases Nat.eq_zero_or_pos k with rfl | hk0
   ·obtain rfl : z = -1 := by omega
    have hmn : Hid (m = n) := by
     show m = n
     have := HD.out; rw [List.drop_zero, List.drop_zero] at this; exact Dg.dg_inj b32 this
    clear hz
    go_wp2
    go_ret
    exact ⟨ret_int (cmpI_eq hmn.out).symm, hbw⟩
   ·obtain ⟨k1, rfl⟩ : ∃ k1, k = k1 + 1 := ⟨k - 1, by omega⟩; obtain rfl : z = (k1 : Int) := by omega
    clear hz; have hkm : k1 < (dw m).length := by omega
    have hkn : k1 < (dw n).length := by omega
    obtain ⟨b, off, rfl, c1⟩ := (hA.below hbw).get hkm; obtain ⟨b', off', rfl, c2⟩ := (hA'.below hbw).get hkn; have hkI : (k1 : Int) < (dw m).length := by omega
    have hkI' : (k1 : Int) < (dw n).length := by omega
    by_cases he : (dw m)[k1] = (dw n)[k1]
    ·have HN : Hid ((dw m).drop k1 = (dw n).drop k1) := by
      show _ = _
      rw [List.drop_eq_getElem_cons hkm, List.drop_eq_getElem_cons hkn, he, HD.out]
     rw [he] at c1; have hne : ((((dw n)[k1] : Nat) : Int) != (((dw n)[k1] : Nat) : Int)) = false := by simp
     have hz2 : (k1 : Int) - 1 = (k1 : Int) - 1 := rfl; clear he HD hz2
     go_wp2_with fail
     refine wp_reg_f [some 23, some 24, some 25, some 26, some 27, some 28, some 29, some 30, some 31] [?v1_0, ?v1_1, ?v1_2, ?v1_3, ?v1_4, ?v1_5, ?v1_6, ?v1_7, ?v1_8] [[], [], [0, 1], [2], [], [], [4, 5], [6], [3, 7]] [(0, _), (1, _), (5, _)] ⟨rfl, rfl, rfl, trivial⟩ rfl (by kernel_rfl) rfl rfl (by kernel_rfl) (by kernel_rfl) ⟨?s1_0, ?s1_1, ?s1_2, ?s1_3, ?s1_4, ?s1_5, ?s1_6, ?s1_7, ?s1_8, trivial⟩ ?p1
     all_goals try (intro t9 w9 hT9 K9 hK9; simp only [OV, FV, List.getD_cons_succ, List.getD_cons_zero, Option.getD_some]; intros)
     case s1_0 | s1_1 | s1_2 | s1_3 | s1_4 | s1_5 | s1_6 | s1_7 | s1_8 =>
      have d9_0 := grow_cell hT9 c1; have d9_1 := grow_cell hT9 c2
      go_simp; exact hK9 _ (Grow.refl _)
     intro w9 hb9
     simp only [putL, Act.put, List.setIfInBounds_toArray, List.set_cons_succ, List.set_cons_zero]
     go_wp2_with fail
     go_roundg k1
     case measure => have := HQ.out; omega
     case rel => exact ⟨k1, _, rfl, by omega, rfl, by omega, HN, hbw.trans (hb9.mono hbw.size)⟩
    ·have hne : ((((dw m)[k1] : Nat) : Int) != (((dw n)[k1] : Nat) : Int)) = true := by simp; omega
     rcases Nat.lt_or_ge (dw m)[k1] (dw n)[k1] with hlt | hge
     ·have HR : Hid (m < n) := by
       show m < n
       rw [<- lm.out, <- ln.out]; exact Dg.val_cmp (by decide) hkm hkn HL.out (dw_lt m) HD.out hlt
      have t1 : decide ((((dw m)[k1] : Nat) : Int) < (((dw n)[k1] : Nat) : Int)) = true := decide_eq_true (by omega); have t2 : decide ((dw m)[k1] < (dw n)[k1]) = true := decide_eq_true hlt; clear he HD hlt
      go_wp2_with fail
      refine wp_reg_f [some 23, some 24, some 25, some 26, some 27, some 28, some 29, some 30, some 31] [?v2_0, ?v2_1, ?v2_2, ?v2_3, ?v2_4, ?v2_5, ?v2_6, ?v2_7, ?v2_8] [[], [], [0, 1], [2], [], [], [4, 5], [6], [3, 7]] [(0, _), (1, _), (5, _)] ⟨rfl, rfl, rfl, trivial⟩ rfl (by kernel_rfl) rfl rfl (by kernel_rfl) (by kernel_rfl) ⟨?s2_0, ?s2_1, ?s2_2, ?s2_3, ?s2_4, ?s2_5, ?s2_6, ?s2_7, ?s2_8, trivial⟩ ?p2
      all_goals try (intro t9 w9 hT9 K9 hK9; simp only [OV, FV, List.getD_cons_succ, List.getD_cons_zero, Option.getD_some]; intros)
      case s2_0 | s2_1 | s2_2 | s2_3 | s2_4 | s2_5 | s2_6 | s2_7 | s2_8 =>
       have d9_0 := grow_cell hT9 c1; have d9_1 := grow_cell hT9 c2
       go_simp; exact hK9 _ (Grow.refl _)
      intro w9 hb9
      simp only [putL, Act.put, List.setIfInBounds_toArray, List.set_cons_succ, List.set_cons_zero]
      have hb10 := hbw.trans (hb9.mono hbw.size); have d1 := below_cell hb9 c1; have d2 := below_cell hb9 c2; clear hb9 c1 c2
      go_wp2_with fail
      refine wp_reg_f [some 32, some 33, some 34, some 35, some 36, some 37, some 38, some 39, some 40] [?v3_0, ?v3_1, ?v3_2, ?v3_3, ?v3_4, ?v3_5, ?v3_6, ?v3_7, ?v3_8] [[], [], [0, 1], [2], [], [], [4, 5], [6], [3, 7]] [(0, _), (1, _), (5, _)] ⟨rfl, rfl, rfl, trivial⟩ rfl (by kernel_rfl) rfl rfl (by kernel_rfl) (by kernel_rfl) ⟨?s3_0, ?s3_1, ?s3_2, ?s3_3, ?s3_4, ?s3_5, ?s3_6, ?s3_7, ?s3_8, trivial⟩ ?p3
      all_goals try (intro t9 w9 hT9 K9 hK9; simp only [OV, FV, List.getD_cons_succ, List.getD_cons_zero, Option.getD_some]; intros)
      case s3_0 | s3_1 | s3_2 | s3_3 | s3_4 | s3_5 | s3_6 | s3_7 | s3_8 =>
       have d9_0 := grow_cell hT9 d1; have d9_1 := grow_cell hT9 d2
       go_simp; exact hK9 _ (Grow.refl _)
      intro w9 hb9
      simp only [putL, Act.put, List.setIfInBounds_toArray, List.set_cons_succ, List.set_cons_zero]
      go_wp2_with fail
      go_ret
      exact ⟨ret_int (cmpI_lt HR.out).symm, hb10.trans (hb9.mono hb10.size)⟩
     ·have HR : Hid (n < m) := by
       show n < m
       rw [<- lm.out, <- ln.out]; exact Dg.val_cmp (by decide) hkn hkm HL.out.symm (dw_lt n) HD.out.symm (by omega)
      have t1 : decide ((((dw m)[k1] : Nat) : Int) < (((dw n)[k1] : Nat) : Int)) = false := decide_eq_false (by omega); have t2 : decide ((dw m)[k1] < (dw n)[k1]) = false := decide_eq_false (by omega); clear he HD hge
      go_wp2_with fail
      refine wp_reg_f [some 23, some 24, some 25, some 26, some 27, some 28, some 29, some 30, some 31] [?v4_0, ?v4_1, ?v4_2, ?v4_3, ?v4_4, ?v4_5, ?v4_6, ?v4_7, ?v4_8] [[], [], [0, 1], [2], [], [], [4, 5], [6], [3, 7]] [(0, _), (1, _), (5, _)] ⟨rfl, rfl, rfl, trivial⟩ rfl (by kernel_rfl) rfl rfl (by kernel_rfl) (by kernel_rfl) ⟨?s4_0, ?s4_1, ?s4_2, ?s4_3, ?s4_4, ?s4_5, ?s4_6, ?s4_7, ?s4_8, trivial⟩ ?p4
      all_goals try (intro t9 w9 hT9 K9 hK9; simp only [OV, FV, List.getD_cons_succ, List.getD_cons_zero, Option.getD_some]; intros)
      case s4_0 | s4_1 | s4_2 | s4_3 | s4_4 | s4_5 | s4_6 | s4_7 | s4_8 =>
       have d9_0 := grow_cell hT9 c1; have d9_1 := grow_cell hT9 c2
       go_simp; exact hK9 _ (Grow.refl _)
      intro w9 hb9
      simp only [putL, Act.put, List.setIfInBounds_toArray, List.set_cons_succ, List.set_cons_zero]
      have hb10 := hbw.trans (hb9.mono hbw.size); have d1 := below_cell hb9 c1; have d2 := below_cell hb9 c2; clear hb9 c1 c2
      go_wp2_with fail
      refine wp_reg_f [some 32, some 33, some 34, some 35, some 36, some 37, some 38, some 39, some 40] [?v5_0, ?v5_1, ?v5_2, ?v5_3, ?v5_4, ?v5_5, ?v5_6, ?v5_7, ?v5_8] [[], [], [0, 1], [2], [], [], [4, 5], [6], [3, 7]] [(0, _), (1, _), (5, _)] ⟨rfl, rfl, rfl, trivial⟩ rfl (by kernel_rfl) rfl rfl (by kernel_rfl) (by kernel_rfl) ⟨?s5_0, ?s5_1, ?s5_2, ?s5_3, ?s5_4, ?s5_5, ?s5_6, ?s5_7, ?s5_8, trivial⟩ ?p5
      all_goals try (intro t9 w9 hT9 K9 hK9; simp only [OV, FV, List.getD_cons_succ, List.getD_cons_zero, Option.getD_some]; intros)
      case s5_0 | s5_1 | s5_2 | s5_3 | s5_4 | s5_5 | s5_6 | s5_7 | s5_8 =>
       have d9_0 := grow_cell hT9 d1; have d9_1 := grow_cell hT9 d2
       go_simp; exact hK9 _ (Grow.refl _)
      intro w9 hb9
      simp only [putL, Act.put, List.setIfInBounds_toArray, List.set_cons_succ, List.set_cons_zero]
      go_wp2_with fail
      go_ret
      exact ⟨ret_int (cmpI_gt HR.out).symm, hb10.trans (hb9.mono hb10.size)⟩
 ·have hb1 : (((dw m).length : Int) != ((dw n).length : Int)) = true := by simp; omega
  rcases Nat.lt_or_ge (dw m).length (dw n).length with hlt | hge
  ·have HR : Hid (m < n) := Dg.dg_lt_of_len b32 hlt
   go_enter Tryz.func121, Tryz.ntmps121
   go_wp2
   go_ret
   exact ⟨ret_int (cmpI_lt HR.out).symm, Below.refl _ _⟩
  ·have HR : Hid (n < m) := Dg.dg_lt_of_len b32 (by show (dw n).length < (dw m).length; omega)
   go_enter Tryz.func121, Tryz.ntmps121
   go_wp2
   go_ret
   exact ⟨ret_int (cmpI_gt HR.out).symm, Below.refl _ _⟩
end Go.Proofs.YtjimfbmegmnocaaGreatDoor
