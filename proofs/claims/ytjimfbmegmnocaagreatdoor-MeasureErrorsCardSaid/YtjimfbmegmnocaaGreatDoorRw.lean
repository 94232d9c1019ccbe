/- Parts of the proof: Rw. No condition of its own. -/
import Derived.Test.YtjimfbmegmnocaaGreatDoorNm
set_option linter.unusedSimpArgs false
set_option linter.unusedVariables false
set_option maxRecDepth 100000
set_option maxHeartbeats 4000000
namespace Go.Proofs.YtjimfbmegmnocaaGreatDoor
open Go.RowKit

abbrev ck (l : List Nat) : List Value := l.map fun (x : Nat) => Value.int .i64 (x : Int)
def Kds (w : World) (A : Option Addr) (l : List Nat) : Prop := Rd w A (ck l)
theorem Kds.get {w : World} {A : Option Addr} {l : List Nat} (h : Kds w A l) {k : Nat} (hk : k < l.length) :
  ∃ b off, A = some ⟨b, off, none⟩ /\ w.cell? ⟨b, off + k, none⟩ = some (.int .i64 (l[k] : Int)) := by
 obtain ⟨b, off, e, hc⟩ := Rd.get h (k := k) (by simpa using hk); exact ⟨b, off, e, by simpa using hc⟩
theorem Kds.below {w w' : World} {A : Option Addr} {l : List Nat} (h : Kds w A l) (hb : Below w.heap.size w w') : Kds w' A l := Rd.below h hb
theorem Kds.take {w : World} {A : Option Addr} {l : List Nat} (h : Kds w A l) (n : Nat) : Kds w A (l.take n) := by
 have := Rd.take h n; unfold Kds ck; rw [List.map_take]; exact this
def dk (n : Nat) : List Nat := Dg.dg 10000 n
theorem b10k : 2 <= 10000 := by decide
theorem dk_lt (n : Nat) : ∀ x ∈ dk n, x < 10000 := Dg.dig_dg b10k n
theorem dk_get_lt (n k : Nat) (h : k < (dk n).length) : (dk n)[k] < 10000 := dk_lt n _ (List.getElem_mem h)
def BigV (w : World) (v : Value) (n : Nat) : Prop := ∃ A c, v = .slice A (dk n).length c /\ (dk n).length <= c /\ c <= maxLen /\ Kds w A (dk n)
theorem BigV.below {w w' : World} {v : Value} {n : Nat} (h : BigV w v n) (hb : Below w.heap.size w w') : BigV w' v n := by
 obtain ⟨A, c, rfl, h1, h2, h3⟩ := h; exact ⟨A, c, rfl, h1, h2, h3.below hb⟩
theorem BigV.zero (w : World) : BigV w (.slice none 0 0) 0 := ⟨none, 0, rfl, Nat.le_refl _, by unfold maxLen; omega, Rd.nil _ _⟩
theorem BigV.of_cut {w : World} {A : Option Addr} {l : List Nat} {c : Nat} (h : Kds w A l) (hd : Dg.Dig 10000 l) (h1 : l.length <= c) (h2 : c <= maxLen) : BigV w (.slice A (Dg.cut l).length c) (Dg.val 10000 l) := by
 have e : Dg.cut l = dk (Dg.val 10000 l) := Dg.cut_eq b10k hd; refine ⟨A, c, by rw [e], ?_, h2, ?_⟩
 ·rw [<- e]; exact Nat.le_trans (Dg.cut_le l) h1
 ·rw [<- e, Dg.cut_take l]; exact h.take _

theorem trim_any (A : Option Addr) (c : Nat) (l : List Nat) (w : World) (h : Kds w A l) (hc : l.length <= c) (hm : c <= maxLen) :
  Calls Tryz.prog 77 #[.slice A l.length c] w fun e w' => e = .returned (.slice A (Dg.cut l).length c) /\ w = w' := by
 unfold maxLen at hm
 go_enter Tryz.func77, Tryz.ntmps77
 go_wp2
 go_loop [0] (fun v => ∃ k : Nat, k <= l.length /\ v = .slice A k c /\ Hid (Dg.cut (l.take k) = Dg.cut l)) (fun v => match v with | .slice _ n _ => n | _ => 0)
 case atStart => exact ⟨l.length, Nat.le_refl _, rfl, by show _ = _; rw [List.take_length]⟩
 case round =>
  obtain ⟨k, hk, rfl, HC⟩ := hrel
  rcases Nat.eq_zero_or_pos k with rfl | hk0
  ·go_wp2
   go_ret
   refine ⟨?_, rfl⟩; have := HC.out; rw [List.take_zero] at this; rw [<- this]; rfl
  ·obtain ⟨k1, rfl⟩ : ∃ k1, k = k1 + 1 := ⟨k - 1, by omega⟩; have hkl : k1 < l.length := by omega
   obtain ⟨b, off, rfl, hcell⟩ := h.get hkl; have z1 : IntKind.i64.wrap (k1 : Int) = k1 := IntWalk.i64_in _ (by omega); have z3 : (k1 : Int) < (k1 : Int) + 1 := by omega
   by_cases h0 : l[k1] = 0
   ·have HN : Hid (Dg.cut (l.take k1) = Dg.cut l) := by show _ = _; rw [<- HC.out, Dg.cut_at hkl h0]
    rw [h0] at hcell; clear h0 HC
    go_wp2
    go_round
    case rel => exact ⟨k1, by omega, rfl, HN⟩
    case measure => simp
   ·have hb1 : ((l[k1] : Int) == 0) = false := by simp; omega
    have HN : Hid ((Dg.cut l).length = k1 + 1) := by show _ = _; rw [<- HC.out, Dg.cut_stop hkl h0, List.length_take]; omega
    clear h0 HC
    go_wp2
    go_ret
    exact ⟨ret_slice HN.out.symm, rfl⟩

theorem trim_nat (A : Option Addr) (c : Nat) (l : List Nat) (w : World) {n k : Nat} (h : Kds w A l) (hk : k = l.length) (hc : l.length <= c) (hm : c <= maxLen) (hd : Dg.Dig 10000 l) (hn : Dg.val 10000 l = n) :
  Calls Tryz.prog 77 #[.slice A k c] w fun e w' => ∃ v, e = .returned v /\ BigV w' v n /\ w = w' := by
 subst hk; refine (trim_any A c l w h hc hm).mono ?_; rintro e w' ⟨rfl, rfl⟩; exact ⟨_, rfl, by rw [<- hn]; exact BigV.of_cut h hd hc hm, rfl⟩

theorem less_ref {v1 v2 : Value} {m n : Nat} (w : World) (h1 : BigV w v1 m) (h2 : BigV w v2 n) :
  Calls Tryz.prog 60 #[v1, v2] w fun e w' => e = .returned (.int .i64 (cmpI m n)) /\ Below w.heap.size w w' := by
 obtain ⟨A, c, rfl, hc1, hc2, hA⟩ := h1; obtain ⟨A', c', rfl, hd1, hd2, hA'⟩ := h2; unfold maxLen at hc2 hd2; have lm : Hid (Dg.val 10000 (dk m) = m) := Dg.val_dg b10k m; have ln : Hid (Dg.val 10000 (dk n) = n) := Dg.val_dg b10k n
 by_cases hlen : (dk m).length = (dk n).length
 ·have hb1 : (((dk m).length : Int) != ((dk n).length : Int)) = false := by simp [hlen]
  have HL := Z' hlen; have hl1 : (dk m).length <= (dk n).length := by omega
  have hl2 : (dk n).length <= (dk m).length := by omega
  clear hlen
  go_enter Tryz.func60, Tryz.ntmps60
  go_wp2_with fail
  go_loopg [5] (dk m).length (fun q v wr => ∃ (k : Nat) (z : Int), q = k /\ k <= (dk m).length /\ v = .int .i64 z /\ z = (k : Int) - 1 /\ Hid ((dk m).drop k = (dk n).drop k) /\ Below w.heap.size w wr)
  case atStart => exact ⟨_, _, rfl, Nat.le_refl _, rfl, rfl, by show _ = _; rw [List.drop_length, HL.out, List.drop_length], Below.refl _ _⟩
  case round =>
   obtain ⟨k, z, hq, hk, rfl, hz, HD, hbw⟩ := hrel; have HQ := Z' hq; clear hq
   rcases Nat.eq_zero_or_pos k with rfl | hk0
   ·obtain rfl : z = -1 := by omega
    have hmn : Hid (m = n) := by
     show m = n
     have := HD.out; rw [List.drop_zero, List.drop_zero] at this; exact Dg.dg_inj b10k this
    clear hz
    go_wp2
    go_ret
    exact ⟨ret_int (cmpI_eq hmn.out).symm, hbw⟩
   ·obtain ⟨k1, rfl⟩ : ∃ k1, k = k1 + 1 := ⟨k - 1, by omega⟩; obtain rfl : z = (k1 : Int) := by omega
    clear hz; have hkm : k1 < (dk m).length := by omega
    have hkn : k1 < (dk n).length := by omega
    obtain ⟨b, off, rfl, c1⟩ := (hA.below hbw).get hkm; obtain ⟨b', off', rfl, c2⟩ := (hA'.below hbw).get hkn; have hkI : (k1 : Int) < (dk m).length := by omega
    have hkI' : (k1 : Int) < (dk n).length := by omega
    by_cases he : (dk m)[k1] = (dk n)[k1]
    ·have HN : Hid ((dk m).drop k1 = (dk n).drop k1) := by
      show _ = _
      rw [List.drop_eq_getElem_cons hkm, List.drop_eq_getElem_cons hkn, he, HD.out]
     rw [he] at c1; have hne : ((((dk n)[k1] : Nat) : Int) != (((dk n)[k1] : Nat) : Int)) = false := by simp
     have hz2 : (k1 : Int) - 1 = (k1 : Int) - 1 := rfl; clear he HD hz2
     go_wp2_with fail
     refine wp_reg_f [some 23, some 24, some 25, some 26, some 27, some 28, some 29, some 30, some 31] [?v1_0, ?v1_1, ?v1_2, ?v1_3, ?v1_4, ?v1_5, ?v1_6, ?v1_7, ?v1_8] [[], [], [0, 1], [2], [], [], [4, 5], [6], [3, 7]] [(0, _), (1, _), (5, _)] ⟨rfl, rfl, rfl, trivial⟩ rfl (by kernel_rfl) rfl rfl (by kernel_rfl) (by kernel_rfl) ⟨?s1_0, ?s1_1, ?s1_2, ?s1_3, ?s1_4, ?s1_5, ?s1_6, ?s1_7, ?s1_8, trivial⟩ ?p1
     all_goals try (intro t9 w9 hT9 K9 hK9; simp only [OV, FV, List.getD_cons_succ, List.getD_cons_zero, Option.getD_some]; intros)
     case s1_0 | s1_1 | s1_2 | s1_3 | s1_4 | s1_5 | s1_6 | s1_7 | s1_8 =>
      have d9_0 := grow_cell hT9 c1; have d9_1 := grow_cell hT9 c2
      go_simp; exact hK9 _ (Grow.refl _)
     intro w9 hb9
     simp only [putL, Act.put, List.setIfInBounds_toArray, List.set_cons_succ, List.set_cons_zero]
     go_wp2_with fail
     go_roundg k1
     case measure => have := HQ.out; omega
     case rel => exact ⟨k1, _, rfl, by omega, rfl, by omega, HN, hbw.trans (hb9.mono hbw.size)⟩
    ·have hne : ((((dk m)[k1] : Nat) : Int) != (((dk n)[k1] : Nat) : Int)) = true := by simp; omega
     rcases Nat.lt_or_ge (dk m)[k1] (dk n)[k1] with hlt | hge
     ·have HR : Hid (m < n) := by
       show m < n
       rw [<- lm.out, <- ln.out]; exact Dg.val_cmp (by decide) hkm hkn HL.out (dk_lt m) HD.out hlt
      have t1 : decide ((((dk m)[k1] : Nat) : Int) < (((dk n)[k1] : Nat) : Int)) = true := decide_eq_true (by omega); have t2 : decide ((dk m)[k1] < (dk n)[k1]) = true := decide_eq_true hlt; clear he HD hlt
      go_wp2_with fail
      refine wp_reg_f [some 23, some 24, some 25, some 26, some 27, some 28, some 29, some 30, some 31] [?v2_0, ?v2_1, ?v2_2, ?v2_3, ?v2_4, ?v2_5, ?v2_6, ?v2_7, ?v2_8] [[], [], [0, 1], [2], [], [], [4, 5], [6], [3, 7]] [(0, _), (1, _), (5, _)] ⟨rfl, rfl, rfl, trivial⟩ rfl (by kernel_rfl) rfl rfl (by kernel_rfl) (by kernel_rfl) ⟨?s2_0, ?s2_1, ?s2_2, ?s2_3, ?s2_4, ?s2_5, ?s2_6, ?s2_7, ?s2_8, trivial⟩ ?p2
      all_goals try (intro t9 w9 hT9 K9 hK9; simp only [OV, FV, List.getD_cons_succ, List.getD_cons_zero, Option.getD_some]; intros)
      case s2_0 | s2_1 | s2_2 | s2_3 | s2_4 | s2_5 | s2_6 | s2_7 | s2_8 =>
       have d9_0 := grow_cell hT9 c1; have d9_1 := grow_cell hT9 c2
       go_simp; exact hK9 _ (Grow.refl _)
      intro w9 hb9
      simp only [putL, Act.put, List.setIfInBounds_toArray, List.set_cons_succ, List.set_cons_zero]
      have hb10 := hbw.trans (hb9.mono hbw.size); have d1 := below_cell hb9 c1; have d2 := below_cell hb9 c2; clear hb9 c1 c2
      go_wp2_with fail
      refine wp_reg_f [some 32, some 33, some 34, some 35, some 36, some 37, some 38, some 39, some 40] [?v3_0, ?v3_1, ?v3_2, ?v3_3, ?v3_4, ?v3_5, ?v3_6, ?v3_7, ?v3_8] [[], [], [0, 1], [2], [], [], [4, 5], [6], [3, 7]] [(0, _), (1, _), (5, _)] ⟨rfl, rfl, rfl, trivial⟩ rfl (by kernel_rfl) rfl rfl (by kernel_rfl) (by kernel_rfl) ⟨?s3_0, ?s3_1, ?s3_2, ?s3_3, ?s3_4, ?s3_5, ?s3_6, ?s3_7, ?s3_8, trivial⟩ ?p3
      all_goals try (intro t9 w9 hT9 K9 hK9; simp only [OV, FV, List.getD_cons_succ, List.getD_cons_zero, Option.getD_some]; intros)
      case s3_0 | s3_1 | s3_2 | s3_3 | s3_4 | s3_5 | s3_6 | s3_7 | s3_8 =>
       have d9_0 := grow_cell hT9 d1; have d9_1 := grow_cell hT9 d2
       go_simp; exact hK9 _ (Grow.refl _)
      intro w9 hb9
      simp only [putL, Act.put, List.setIfInBounds_toArray, List.set_cons_succ, List.set_cons_zero]
      go_wp2_with fail
      go_ret
      exact ⟨ret_int (cmpI_lt HR.out).symm, hb10.trans (hb9.mono hb10.size)⟩
     ·have HR : Hid (n < m) := by
       show n < m
       rw [<- lm.out, <- ln.out]; exact Dg.val_cmp (by decide) hkn hkm HL.out.symm (dk_lt n) HD.out.symm (by omega)
      have t1 : decide ((((dk m)[k1] : Nat) : Int) < (((dk n)[k1] : Nat) : Int)) = false := decide_eq_false (by omega); have t2 : decide ((dk m)[k1] < (dk n)[k1]) = false := decide_eq_false (by omega); clear he HD hge
      go_wp2_with fail
      refine wp_reg_f [some 23, some 24, some 25, some 26, some 27, some 28, some 29, some 30, some 31] [?v4_0, ?v4_1, ?v4_2, ?v4_3, ?v4_4, ?v4_5, ?v4_6, ?v4_7, ?v4_8] [[], [], [0, 1], [2], [], [], [4, 5], [6], [3, 7]] [(0, _), (1, _), (5, _)] ⟨rfl, rfl, rfl, trivial⟩ rfl (by kernel_rfl) rfl rfl (by kernel_rfl) (by kernel_rfl) ⟨?s4_0, ?s4_1, ?s4_2, ?s4_3, ?s4_4, ?s4_5, ?s4_6, ?s4_7, ?s4_8, trivial⟩ ?p4
      all_goals try (intro t9 w9 hT9 K9 hK9; simp only [OV, FV, List.getD_cons_succ, List.getD_cons_zero, Option.getD_some]; intros)
      case s4_0 | s4_1 | s4_2 | s4_3 | s4_4 | s4_5 | s4_6 | s4_7 | s4_8 =>
       have d9_0 := grow_cell hT9 c1; have d9_1 := grow_cell hT9 c2
       go_simp; exact hK9 _ (Grow.refl _)
      intro w9 hb9
      simp only [putL, Act.put, List.setIfInBounds_toArray, List.set_cons_succ, List.set_cons_zero]
      have hb10 := hbw.trans (hb9.mono hbw.size); have d1 := below_cell hb9 c1; have d2 := below_cell hb9 c2; clear hb9 c1 c2
      go_wp2_with fail
      refine wp_reg_f [some 32, some 33, some 34, some 35, some 36, some 37, some 38, some 39, some 40] [?v5_0, ?v5_1, ?v5_2, ?v5_3, ?v5_4, ?v5_5, ?v5_6, ?v5_7, ?v5_8] [[], [], [0, 1], [2], [], [], [4, 5], [6], [3, 7]] [(0, _), (1, _), (5, _)] ⟨rfl, rfl, rfl, trivial⟩ rfl (by kernel_rfl) rfl rfl (by kernel_rfl) (by kernel_rfl) ⟨?s5_0, ?s5_1, ?s5_2, ?s5_3, ?s5_4, ?s5_5, ?s5_6, ?s5_7, ?s5_8, trivial⟩ ?p5
      all_goals try (intro t9 w9 hT9 K9 hK9; simp only [OV, FV, List.getD_cons_succ, List.getD_cons_zero, Option.getD_some]; intros)
      case s5_0 | s5_1 | s5_2 | s5_3 | s5_4 | s5_5 | s5_6 | s5_7 | s5_8 =>
       have d9_0 := grow_cell hT9 d1; have d9_1 := grow_cell hT9 d2
       go_simp; exact hK9 _ (Grow.refl _)
      intro w9 hb9
      simp only [putL, Act.put, List.setIfInBounds_toArray, List.set_cons_succ, List.set_cons_zero]
      go_wp2_with fail
      go_ret
      exact ⟨ret_int (cmpI_gt HR.out).symm, hb10.trans (hb9.mono hb10.size)⟩
 ·have hb1 : (((dk m).length : Int) != ((dk n).length : Int)) = true := by simp; omega
  rcases Nat.lt_or_ge (dk m).length (dk n).length with hlt | hge
  ·have HR : Hid (m < n) := Dg.dg_lt_of_len b10k hlt
   go_enter Tryz.func60, Tryz.ntmps60
   go_wp2
   go_ret
   exact ⟨ret_int (cmpI_lt HR.out).symm, Below.refl _ _⟩
  ·have HR : Hid (n < m) := Dg.dg_lt_of_len b10k (by show (dk n).length < (dk m).length; omega)
   go_enter Tryz.func60, Tryz.ntmps60
   go_wp2
   go_ret
   exact ⟨ret_int (cmpI_gt HR.out).symm, Below.refl _ _⟩
open Go.RowKit

theorem int_info : (Tryz.prog.info? 3).map (fun i => (i.zero, i.size, i.bytes)) = some (some (.int .i64 0), 1, 8) := by kernel_rfl
theorem bigv_own {w : World} {base : Nat} {t : TypeId} {v : Value} {n : Nat} (h : w.ownsRow base t 1 v (dk n).length (ck (dk n))) : BigV w v n := by
 obtain ⟨A, c, rfl, h1, h2, h3⟩ := Sl.of_own h; exact ⟨A, c, rfl, h1, h2, h3⟩
theorem ck_snoc {O : List Nat} {x : Nat} {z : Int} (h : z = x) : ck O ++ [.int .i64 z] = ck (O ++ [x]) := by subst h; simp [ck]
theorem dig_snoc {b : Nat} {O : List Nat} {x : Nat} (h : Dg.Dig b O) (hx : x < b) : Dg.Dig b (O ++ [x]) := by
 intro y hy
 rcases List.mem_append.1 hy with h1 | h1
 ·exact h y h1
 ·have : y = x := by simpa using h1
  omega

theorem of64_ref (n : Nat) (hn : n < 18446744073709551616) (w : World) :
  Calls Tryz.prog 59 #[.int .u64 n] w fun e w' => ∃ v, e = .returned v /\ BigV w' v n /\ Below w.heap.size w w' := by
 obtain ⟨i0, hi0, hz0, hz1, hz2⟩ := info_parts int_info; have hl : (dk n).length <= 5 := Dg.dg_le b10k (Nat.lt_of_lt_of_le hn (by decide)); have HL := Z' hl; clear hl
 go_enter Tryz.func59, Tryz.ntmps59
 go_wp2
 go_loopg [0, 3] n (fun q s0 s3 wr => ∃ (X : Nat) (T : List Nat), q = X /\ s0 = .int .u64 X /\ X < 18446744073709551616 /\ Hid (dk n = T ++ dk X) /\ wr.ownsRow w.heap.size 3 1 s3 T.length (ck T) /\ Below w.heap.size w wr)
 case atStart => exact ⟨n, [], rfl, rfl, hn, rfl, World.ownsRow_nil _ _ _ _, Below.refl _ _⟩
 case round =>
  obtain ⟨X, T, hq, rfl, hX, HT, hown, hbw⟩ := hrel; have HQ := Z' hq; clear hq
  rcases Nat.eq_zero_or_pos X with rfl | hX0
  ·have HF : Hid (BigV wr u3 n) := by
    show BigV _ _ _
    have e := HT.out; have e0 : dk 0 = [] := rfl; rw [e0, List.append_nil] at e; rw [<- e] at hown; exact bigv_own hown
   clear hown
   go_wp2
   go_ret
   exact ⟨_, rfl, HF.out, hbw⟩
  ·have HN : Hid (dk n = (T ++ [X % 10000]) ++ dk (X / 10000)) := by
    show _ = _
    rw [HT.out]; have : dk X = X % 10000 :: dk (X / 10000) := Dg.dg_pos b10k hX0; rw [this]; simp
   have htl : T.length <= 5 := by
    have h1 := HT.out; have h2 := HL.out; rw [h1, List.length_append] at h2
    omega
   have h63 : T.length + 1 <= maxLen := by unfold maxLen; omega
   clear HT; have hszw := hbw.size
   go_wp2_with (at_builtin; refine wpList_append_own_at _ rfl (.tmp 6) (.tmp 10) 22 rfl w.heap.size 3 i0 _ 1 8 Tryz.underlying22 hi0 hz0 hz1 hz2 rfl (by decide) _ T.length (ck T) rfl (hown.alloc _) ⟨wr.heap.size, 0, none⟩ 1 1 [.int .i64 ((X : Int) % 10000)] rfl rfl (new_cells _ _ _ _ rfl) (by simp [Value.oneCell']) h63 (by omega) (by rw [size1]; omega) ?_)
   intro v' w' hown' hgrow _ hat; have hbw' : Below w.heap.size w w' := (hbw.alloc hbw.size _).grown hgrow (by rw [size1]; omega) (own_lt hown); have H' : Hid (w'.ownsRow w.heap.size 3 1 v' (T ++ [X % 10000]).length (ck (T ++ [X % 10000]))) := by
    show World.ownsRow _ _ _ _ _ _ _
    rw [<- ck_snoc (z := (X : Int) % 10000) (by omega), List.length_append]; exact hown'
   clear hgrow hat hown' hown
   go_wp2_with fail
   go_roundg (X / 10000)
   case measure => have := HQ.out; omega
   case rel => exact ⟨X / 10000, _, rfl, by go_num, by omega, HN, H'.out, hbw'⟩

open Go.RowKit

theorem ck_rep (n : Nat) : (ck (List.replicate n 0)).toArray = Array.replicate n (.int .i64 0) := by simp [ck]
theorem run_make_ks (n : Nat) (hn : n <= 1073741824) (w : World) :
  (Instr.makeSlice 22 (.int .i64 (n : Int)) (.int .i64 (n : Int))).run Tryz.prog w = .ok (.slice (some ⟨w.heap.size, 0, none⟩) n n) (w.alloc (.cells (Array.replicate n (.int .i64 0)) 3)) := by
 rw [<- ck_rep]; obtain ⟨i0, hi0, hz0, hz1, hz2⟩ := info_parts int_info; have hr := run_make (P := Tryz.prog) w 22 3 i0 _ Tryz.underlying22 hi0 hz0 .i64 .i64 n n (by omega) (by omega) (by rw [hz2]; omega) (by omega); rw [hr, hz1]; have : madeCells (Value.int .i64 0).cells n = (ck (List.replicate n 0)).toArray := by
  show madeCells #[Value.int .i64 0] n = _
  rw [madeCells_one]
  simp [ck]
 simp only [Int.toNat_natCast, Nat.mul_one, this]
theorem own_ks (w : World) (n : Nat) : Own (w.alloc (.cells (Array.replicate n (.int .i64 0)) 3)) w.heap.size 3 (ck (List.replicate n 0)) := by
 rw [<- ck_rep]; exact Own.new w _ _
theorem own_setk {w : World} {g : Nat} {t : TypeId} {O : List Nat} (h : Own w g t (ck O)) {i x : Nat} {z : Int} (hz : z = x) : Own (w.setCell ⟨g, i, none⟩ (.int .i64 z)) g t (ck (O.set i x)) := by
 subst hz; have := h.set_ i (.int .i64 (x : Int)); have e : ck (O.set i x) = (ck O).set i (.int .i64 (x : Int)) := by simp [ck, List.map_set]
 rw [e]; exact this
theorem own_kds {w : World} {g : Nat} {t : TypeId} {O : List Nat} (h : Own w g t (ck O)) : Kds w (some ⟨g, 0, none⟩) O := h.rd0
theorem dig_zerosk (n : Nat) : Dg.Dig 10000 (List.replicate n 0) := by
 intro x hx; rw [(List.mem_replicate.1 hx).2]; decide
theorem own_kcell {w : World} {g : Nat} {t : TypeId} {O : List Nat} (h : Own w g t (ck O)) {i : Nat} (hi : i < O.length) : w.cell? ⟨g, i, none⟩ = some (.int .i64 (O[i] : Int)) := by
 rw [h.cell]; simp [ck, hi]
theorem mul_boundk {x y : Nat} (hx : x < 10000) (hy : y < 10000) : x * y <= 99980001 := by
 have h1 : x * y <= 9999 * y := Nat.mul_le_mul_right _ (by omega)
 omega

theorem times_ref {v1 v2 : Value} {m n : Nat} (w : World) (h1 : BigV w v1 m) (h2 : BigV w v2 n) (hm : (dk m).length <= 1048576) (hn : (dk n).length <= 1048576) :
  Calls Tryz.prog 58 #[v1, v2] w fun e w' => ∃ v, e = .returned v /\ BigV w' v (m * n) /\ Below w.heap.size w w' := by
 obtain ⟨A, c, rfl, hc1, hc2, hA⟩ := h1; obtain ⟨A', c', rfl, hd1, hd2, hA'⟩ := h2; unfold maxLen at hc2 hd2; have lm : Hid (Dg.val 10000 (dk m) = m) := Dg.val_dg b10k m; have ln : Hid (Dg.val 10000 (dk n) = n) := Dg.val_dg b10k n; have mk : ∀ W : World, (Instr.makeSlice 22 (.int .i64 (((dk m).length : Int) + (dk n).length + 1)) (.int .i64 (((dk m).length : Int) + (dk n).length + 1))).run Tryz.prog W = .ok (.slice (some ⟨W.heap.size, 0, none⟩) ((dk m).length + (dk n).length + 1) ((dk m).length + (dk n).length + 1)) (W.alloc (.cells (Array.replicate ((dk m).length + (dk n).length + 1) (.int .i64 0)) 3)) := fun W => run_make_ks ((dk m).length + (dk n).length + 1) (by omega) W; have hown0 := own_ks w ((dk m).length + (dk n).length + 1); have hb0 : Below w.heap.size w (w.alloc (.cells (Array.replicate ((dk m).length + (dk n).length + 1) (.int .i64 0)) 3)) := (Below.refl _ _).alloc (Nat.le_refl _) _
 go_enter Tryz.func58, Tryz.ntmps58
 go_wp2_with fail
 generalize (w.alloc (.cells (Array.replicate ((dk m).length + (dk n).length + 1) (.int .i64 0)) 3)) = wa at hown0 hb0 |-
 go_loopg [23] (dk m).length (fun q v23 wr => ∃ (i : Nat) (O : List Nat), q = (dk m).length - i /\ i <= (dk m).length /\ v23 = .int .i64 i /\ O.length = (dk m).length + (dk n).length + 1 /\ Hid (Dg.Dig 10000 O) /\ Hid (Zer O (i + (dk n).length)) /\ Hid (Dg.val 10000 O = Dg.val 10000 ((dk m).take i) * n) /\ Own wr w.heap.size 3 (ck O) /\ Below w.heap.size w wr)
 case atStart => exact ⟨0, _, rfl, Nat.zero_le _, rfl, by simp, dig_zerosk _, (Zer.rep _).mono (Nat.zero_le _), by show _ = _; rw [Dg.val_replicate_zero]; simp [Dg.val], hown0, hb0⟩
 case round =>
  clear hown0 hb0; obtain ⟨i, O, hq, hi, rfl, hO, HD, HZ, HV, hown, hbw⟩ := hrel; have HQ := Z' hq; clear hq
  by_cases hlt : i < (dk m).length
  ·obtain ⟨b, off, rfl, c1⟩ := (hA.below hbw).get hlt; have hx := dk_get_lt m i hlt; have HVM : Hid (Dg.val 10000 ((dk m).take (i + 1)) = Dg.val 10000 ((dk m).take i) + 10000 ^ i * (dk m)[i]) := Dg.val_take_succ (b := 10000) hlt; generalize (dk m)[i] = x at c1 hx HVM; obtain ⟨an, han⟩ : ∃ an, an = Dg.val 10000 ((dk m).take i) * n := ⟨_, rfl⟩; have HAN := Z' han; clear han; have HO := Z' hO; clear hO
   go_wp2_with fail
   clear c1
   go_loopg [8, 30] (dk n).length (fun q v8 v30 wr => ∃ (k cr : Nat) (O : List Nat), q = (dk n).length - k /\ k <= (dk n).length /\ v30 = .int .i64 k /\ v8 = .int .i64 cr /\ cr < 10000 /\ O.length = (dk m).length + (dk n).length + 1 /\ Hid (Dg.Dig 10000 O) /\ Hid (Zer O (i + (dk n).length)) /\ Hid (Dg.val 10000 O + 10000 ^ (i + k) * cr = an + 10000 ^ i * (x * Dg.val 10000 ((dk n).take k))) /\ Own wr w.heap.size 3 (ck O) /\ Below w.heap.size w wr)
   case atStart => exact ⟨0, 0, O, rfl, Nat.zero_le _, rfl, rfl, by omega, HO.out, HD, HZ, by show _ = _; rw [HV.out, HAN.out]; simp [Dg.val], hown, hbw⟩
   case round =>
    clear hown hbw HD HZ HV HO O; obtain ⟨k, cr, O, hq2, hk, rfl, rfl, hcr, hO, HD, HZ, HV, hown, hbw⟩ := hrel; have HQ2 := Z' hq2; clear hq2
    have HO := Z' hO; have hO2 : O.length <= (dk m).length + (dk n).length + 1 := by omega
    have hO3 : (dk m).length + (dk n).length + 1 <= O.length := by omega
    clear hO; have hO1 : i + (dk n).length < O.length := by omega
    by_cases hkt : k < (dk n).length
    ·have hO4 : i + k < O.length := by omega
     obtain ⟨b', off', rfl, c2⟩ := (hA'.below hbw).get hkt; have hy := dk_get_lt n k hkt; have HVN : Hid (Dg.val 10000 ((dk n).take (k + 1)) = Dg.val 10000 ((dk n).take k) + 10000 ^ k * (dk n)[k]) := Dg.val_take_succ (b := 10000) hkt; have hcell := own_kcell hown hO4; have hfr := hown.frozen (i + k); have ho := HD.out _ (List.getElem_mem hO4); have HSET := fun s => Z' (Dg.val_set (b := 10000) O (i + k) (s % 10000) hO4); generalize (dk n)[k] = y at c2 hy HVN; generalize O[i + k] = o at hcell ho HSET; have hxy := mul_boundk hx hy; obtain ⟨p, hp⟩ : ∃ p, p = x * y := ⟨_, rfl⟩; rw [<- hp] at hxy; have HP := Z' hp; have hm1 : IntKind.i64.wrap ((x : Int) * y) = (p : Int) := by
      have : ((x : Int) * y) = (p : Int) := by rw [hp]; simp
      rw [this]; exact IntWalk.i64_in _ (by omega)
     clear hp
     go_wp2_with fail
     go_roundg ((dk n).length - (k + 1))
     case measure => have := HQ2.out; omega
     case rel =>
      refine ⟨k + 1, (o + p + cr) / 10000, O.set (i + k) ((o + p + cr) % 10000), rfl, by omega, by go_num, vint (by omega), by omega, by rw [List.length_set]; exact HO.out, Dg.dig_set HD.out (by omega), HZ.out.set (by omega), ?_, own_setk hown (by omega), hbw.setCell (Nat.le_refl _) _⟩
      show _ = _
      rw [HVN.out]; have e : i + (k + 1) = i + k + 1 := by omega
      rw [e, Nat.pow_succ]; exact mul_step HV.out (HSET (o + p + cr)).out (by rw [HP.out]; omega) (Nat.pow_add _ _ _)
    ·obtain rfl : k = (dk n).length := by omega
     have HT : Hid (an + 10000 ^ i * (x * Dg.val 10000 ((dk n).take (dk n).length)) = Dg.val 10000 ((dk m).take (i + 1)) * n) := by
      show _ = _
      rw [HVM.out, HAN.out, List.take_of_length_le (Nat.le_refl _), ln.out, Nat.add_mul, Nat.mul_assoc]
     have HV2 : Hid (Dg.val 10000 O + 10000 ^ (i + (dk n).length) * cr = Dg.val 10000 ((dk m).take (i + 1)) * n) := by
      show _ = _
      rw [HV.out, HT.out]
     clear HT HV
     go_wp2_with fail
     go_loopg [8, 12] cr (fun q v8 v12 wr => ∃ (k cr : Nat) (O : List Nat), q = cr /\ v12 = .int .i64 k /\ v8 = .int .i64 cr /\ cr < 10000 /\ O.length = (dk m).length + (dk n).length + 1 /\ k <= i + (dk n).length + 1 /\ (k = i + (dk n).length \/ cr = 0) /\ Hid (Dg.Dig 10000 O) /\ Hid (Zer O k) /\ Hid (Dg.val 10000 O + 10000 ^ (i + (dk n).length) * cr = Dg.val 10000 ((dk m).take (i + 1)) * n) /\ Own wr w.heap.size 3 (ck O) /\ Below w.heap.size w wr)
     case atStart => exact ⟨i + (dk n).length, cr, O, rfl, by go_num, rfl, hcr, HO.out, by omega, .inl rfl, HD, HZ, HV2, hown, hbw⟩
     case round =>
      clear hown hbw HD HZ HV2 HO hO1 hO2 hO3 hcr HQ2 O; obtain ⟨k, cr, O, hq2, rfl, rfl, hcr, hO, hk1, hk, HD, HZ, HV, hown, hbw⟩ := hrel; have HQ2 := Z' hq2; clear hq2
      have HO := Z' hO; have hO2 : O.length <= (dk m).length + (dk n).length + 1 := by omega
      have hO3 : (dk m).length + (dk n).length + 1 <= O.length := by omega
      clear hO
      rcases Nat.eq_zero_or_pos cr with rfl | hcr0
      ·clear hk
       go_wp2_with fail
       go_roundg ((dk m).length - (i + 1))
       case measure => have := HQ.out; omega
       case rel =>
        refine ⟨i + 1, O, rfl, by omega, by go_num, HO.out, HD, HZ.out.mono (by omega), ?_, hown, hbw⟩; have h1 := HV.out; rw [Nat.mul_zero, Nat.add_zero] at h1; exact h1
      ·obtain rfl : k = i + (dk n).length := by omega
       have hO1 : i + (dk n).length < O.length := by omega
       clear hk; have hcell := own_kcell hown hO1; have hfr := hown.frozen (i + (dk n).length); have HSET := Z' (Dg.val_set (b := 10000) O (i + (dk n).length) cr hO1); have h0 : O[i + (dk n).length] = 0 := HZ.out _ hO1 (Nat.le_refl _); rw [h0] at hcell HSET; clear h0
       go_wp2_with fail
       go_roundg 0
       case measure => have := HQ2.out; omega
       case rel =>
        refine ⟨i + (dk n).length + 1, 0, O.set (i + (dk n).length) cr, rfl, by go_num, vint (by omega), by omega, by rw [List.length_set]; exact HO.out, by omega, .inr rfl, Dg.dig_set HD.out hcr, (HZ.out.mono (by omega)).set (by omega), ?_, own_setk hown (by omega), hbw.setCell (Nat.le_refl _) _⟩
        show _ = _
        have h1 := HSET.out; have h2 := HV.out; rw [Nat.mul_zero, Nat.add_zero] at h1; rw [Nat.mul_zero, Nat.add_zero, h1, h2]
  ·obtain rfl : i = (dk m).length := by omega
   have HF : Hid (Dg.val 10000 O = m * n) := by
    show _ = _
    rw [HV.out, List.take_of_length_le (Nat.le_refl _), lm.out]
   have HO := Z' hO; have hO2 : O.length <= (dk m).length + (dk n).length + 1 := by omega
   clear hO
   go_wp2_with fail
   refine (trim_nat _ ((dk m).length + (dk n).length + 1) O _ (n := m * n) (own_kds hown) HO.out.symm hO2 (by unfold maxLen; omega) HD.out HF.out).mono ?_; rintro e w' ⟨v, rfl, hv, rfl⟩
   go_wp2
   go_ret
   exact ⟨v, rfl, hv, hbw⟩
open Go.RowKit Dg

end Go.Proofs.YtjimfbmegmnocaaGreatDoor
