/- Parts of the proof: Nd0, Ns, Np. No condition of its own. -/
import Derived.Test.YtjimfbmegmnocaaGreatDoorNb
import Derived.Laws.CopyOwn
import Derived.Test.YtjimfbmegmnocaaGreatDoorDg
import Derived.Deep.AppendLies
import Derived.Laws.OwnMore
set_option linter.unusedSimpArgs false
set_option linter.unusedVariables false
set_option maxRecDepth 100000
set_option maxHeartbeats 8000000
namespace Go.Proofs.YtjimfbmegmnocaaGreatDoor
open Go.RowKit

open Go.RowKit Dg

def DivPost (m n : Nat) (w : World) (e : Ending) (w' : World) : Prop := ∃ v1 v2, e = .returned (.tuple #[v1, v2]) /\ NatV w' v1 (m / n) /\ NatV w' v2 (m % n) /\ Below w.heap.size w w'
structure DivMem (w0 wr : World) (gu gq : Nat) (Av : Option Addr) (U Q V : List Nat) : Prop where
 u : Own wr gu 134 (cw U)
 q : Own wr gq 134 (cw Q)
 v : WdsOut (fun k => k = gu \/ k = gq) wr Av V
 b : Below w0.heap.size w0 wr
 lu : w0.heap.size <= gu
 lq : w0.heap.size <= gq
 ne : gu ≠ gq
theorem DivMem.below {w0 wr w' : World} {gu gq : Nat} {Av : Option Addr} {U Q V : List Nat} (h : DivMem w0 wr gu gq Av U Q V) (hb : Below wr.heap.size wr w') : DivMem w0 w' gu gq Av U Q V :=
 ⟨h.u.below hb h.u.lt, h.q.below hb h.q.lt, h.v.chg (Chg.of_below hb fun k h1 h2 => by omega), h.b.trans (hb.mono h.b.size), h.lu, h.lq, h.ne⟩
theorem WdsOut.mono {S T : Nat -> Prop} {w : World} {A : Option Addr} {l : List Nat} (h : WdsOut S w A l) (hST : ∀ k, T k -> S k) : WdsOut T w A l := fun j u hu =>
 let ⟨b, off, e, hs, hc⟩ := h j u hu; ⟨b, off, e, fun ht => hs (hST b ht), hc⟩
theorem Wds.new {w : World} {A : Option Addr} {l : List Nat} (h : Wds w A l) : WdsOut (fun k => w.heap.size <= k) w A l := fun j u hu =>
 let ⟨b, off, e, hc⟩ := h j u hu; ⟨b, off, e, fun hle => absurd (World.block_lt_of_cell? w _ hc) (Nat.not_lt.2 hle), hc⟩
theorem div_any {x1 x2 : Value} {m n : Nat} (w : World) (h1 : NatV w x1 m) (h2 : NatV w x2 n) (hm : (dw m).length <= 1048000) (hn0 : 0 < n) (hs9 : n < 4294967296) :
  Calls Tryz.prog 116 #[x1, x2] w (DivPost m n w) := by
 have H1 := Z' h1; have H2 := Z' h2; have HCM := Z' (cmp_any w h1 h2); obtain ⟨A, c, rfl, hc1, hc2, hA⟩ := h1; obtain ⟨A', c', rfl, hd1, hd2, hA'⟩ := h2; unfold maxLen at hc2 hd2
 by_cases hlt : m < n
 ·have hcm : Hid (cmpI m n = -1) := cmpI_lt hlt; have HR : Hid (m / n = 0 /\ m % n = m) := ⟨Nat.div_eq_of_lt hlt, Nat.mod_eq_of_lt hlt⟩; clear hlt
  go_enter Tryz.func116, Tryz.ntmps116
  go_wp2_with fail
  refine HCM.out.mono ?_; rintro e w1 ⟨rfl, hb1⟩; rw [hcm.out]
  go_wp2
  go_ret2
  exact ⟨_, _, rfl, by rw [HR.out.1]; exact NatV.zero _, by rw [HR.out.2]; exact H1.out.below hb1, hb1⟩
 ·have hge : n <= m := by omega
  have hnm : (dw n).length <= (dw m).length := Dg.dg_mono b32 hge; have hcm : ∃ z : Int, cmpI m n = z /\ 0 <= z := by
   rcases Nat.lt_or_ge n m with h | h
   ·exact ⟨1, cmpI_gt h, by omega⟩
   ·exact ⟨0, cmpI_eq (by omega), by omega⟩
  obtain ⟨z, hz, hz0⟩ := hcm; have HZ := Z' hz; have HGE := Z' hge; clear hlt hge hz; obtain ⟨k, hk⟩ : ∃ k, (dw n).length = k + 1 := by
   have : dw n ≠ [] := fun e => by have := (Dg.dg_nil b32).1 e; omega
   have := List.length_pos_iff.2 this; exact ⟨(dw n).length - 1, by omega⟩
  rcases Nat.eq_zero_or_pos k with rfl | hk0
  ·have h0l : 0 < (dw n).length := by omega
   have hdt : (dw n)[0] = n := by
    have h := drop_val (l := dw n) (i := 0) h0l 4294967296; rw [List.drop_zero, List.drop_eq_nil_of_le (by omega)] at h; have h2 : Dg.val 4294967296 (dw n) = n := Dg.val_dg b32 n; have h3 : Dg.val 4294967296 [] = 0 := rfl
    omega
   obtain ⟨b', off', rfl, c1⟩ := (hA').get h0l; rw [hdt, Nat.add_zero] at c1; have hn1 : n < 4294967296 := by rw [<- hdt]; exact dw_get_lt n 0 h0l
   have hnI : 0 < n := hn0; clear hdt h0l; have hone : (((dw n).length : Int) == 1) = true := by rw [hk]; rfl
   have hl1 : (0 : Int) < (dw n).length := by omega
   have HK := Z' hk; clear hk
   go_enter Tryz.func116, Tryz.ntmps116
   go_wp2_with fail
   refine HCM.out.mono ?_; rintro e w1 ⟨rfl, hb1⟩; rw [HZ.out]; have d1 := below_cell hb1 c1; clear c1
   go_wp2_with fail
   refine (small_any w1 (H1.out.below hb1) (by omega) hn0 hn1).mono ?_; rintro e w2 ⟨vq, rfl, hvq, hb2⟩; have hr : m % n < 4294967296 := Nat.lt_trans (Nat.mod_lt _ hn0) hn1
   go_wp2_with fail
   refine (of_any (m % n) w2 (by omega)).mono ?_; rintro e w3 ⟨vr, rfl, hvr, hb3⟩; have hq3 := hvq.below hb3
   go_wp2
   go_ret2
   exact ⟨_, _, rfl, hq3, hvr, (hb1.trans (hb2.mono hb1.size)).trans (hb3.mono (Nat.le_trans hb1.size hb2.size))⟩
  ·exact absurd (show (dw n).length <= 1 from Dg.dg_le b32 (by simpa using hs9)) (by omega)
open Go.RowKit Dg

def asc (l : List Nat) : List UInt8 := l.map fun d => (48 + d).toUInt8
theorem asc_length (l : List Nat) : (asc l).length = l.length := by simp [asc]
theorem asc_append (l m : List Nat) : asc (l ++ m) = asc l ++ asc m := by simp [asc]
theorem asc_toNat {d : Nat} (h : d < 10) : ((48 + d).toUInt8).toNat = 48 + d := by
 simp; omega
def S (n : Nat) : ByteArray := ⟨(asc (dec n)).toArray⟩
theorem S_list (n : Nat) : (S n).data.toList = asc (dec n) := rfl
theorem S_size (n : Nat) : (S n).size = (dec n).length := by
 show (asc (dec n)).toArray.size = _
 simp [asc]
theorem asc_inj {l m : List Nat} (hl : ∀ d ∈ l, d < 10) (hm : ∀ d ∈ m, d < 10) (h : asc l = asc m) : l = m := by
 induction l generalizing m with
 | nil =>
  cases m with
  | nil => rfl
  | cons y r => simp [asc] at h
 | cons x r ih =>
  cases m with
  | nil => simp [asc] at h
  | cons y t =>
   simp only [asc, List.map_cons, List.cons.injEq] at h
   have hx := hl x (by simp); have hy := hm y (by simp); have e := congrArg UInt8.toNat h.1; rw [asc_toNat hx, asc_toNat hy] at e; rw [show x = y by omega, ih (fun d hd => hl d (by simp [hd])) (fun d hd => hm d (by simp [hd])) h.2]
theorem ba_ext {s t : ByteArray} (h : s.data.toList = t.data.toList) : s = t := by
 cases s; cases t
 simp only [ByteArray.mk.injEq]
 exact Array.toList_inj.1 h
theorem S_inj {m n : Nat} (h : S m = S n) : m = n := by
 have := congrArg (fun s => s.data.toList) h; exact dec_inj (asc_inj (dec_dig m) (dec_dig n) this)
theorem bget {s : ByteArray} {L : List Nat} (hs : s.data.toList = asc L) (hd : ∀ d ∈ L, d < 10) {i : Nat} (h : i < s.size) (hl : i < L.length) : (s[i]'h).toNat = 48 + L[i] := by
 have h1 : (s[i]'h) = s.data.toList[i]'(by simpa using h) := rfl; have h2 : s.data.toList[i]'(by simpa using h) = (48 + L[i]).toUInt8 := by
  simp only [hs, asc, List.getElem_map]
 rw [h1, h2, asc_toNat (hd _ (List.getElem_mem hl))]
theorem bsize {s : ByteArray} {L : List Nat} (hs : s.data.toList = asc L) : s.size = L.length := by
 have : s.size = s.data.toList.length := by simp
 rw [this, hs, asc_length]

def VLD (s : ByteArray) : Prop := s.size <= 20000 /\ ∃ L, Txt L /\ s.data.toList = asc L
theorem vld_S {n : Nat} (h : (dec n).length <= 20000) : VLD (S n) := ⟨by rw [S_size]; exact h, dec n, txt_dec n, rfl⟩
def DigTo (s : ByteArray) (k : Nat) : Prop := ∀ i (h : i < s.size), i < k -> 48 <= (s[i]'h).toNat /\ (s[i]'h).toNat <= 57
theorem digTo_list {s : ByteArray} (h : DigTo s s.size) : ∃ L : List Nat, (∀ d ∈ L, d < 10) /\ s.data.toList = asc L := by
 refine ⟨s.data.toList.map fun c => c.toNat - 48, ?_, ?_⟩
 ·intro d hd; obtain ⟨c, hc, rfl⟩ := List.mem_map.1 hd; obtain ⟨i, hi, rfl⟩ := List.getElem_of_mem hc; have := h i (by simpa using hi) (by simpa using hi); have e : (s[i]'(by simpa using hi)) = s.data.toList[i] := rfl; rw [e] at this
  omega
 ·rw [asc, List.map_map]
  apply List.ext_getElem
  ·simp
  ·intro i h1 h2; have h1' : i < s.size := by simpa using h1
   have := h i h1' h1'; have e : (s[i]'h1') = s.data.toList[i] := rfl; rw [e] at this; rw [List.getElem_map]
   apply UInt8.toNat.inj
   show _ = ((48 + (s.data.toList[i].toNat - 48)).toUInt8).toNat
   rw [asc_toNat (by omega)]
   omega
theorem vld_dig {s : ByteArray} (h : VLD s) : DigTo s s.size := by
 obtain ⟨_, L, h2, h3⟩ := h; intro i hi _; have hl : i < L.length := by rw [<- bsize h3]; exact hi
 have := h2.1 _ (List.getElem_mem hl); rw [bget h3 h2.1 hi hl]; omega
theorem vld_head {s : ByteArray} (h : VLD s) (h0 : 0 < s.size) (h1 : 1 < s.size) : (s[0]'h0).toNat ≠ 48 := by
 obtain ⟨_, L, h2, h3⟩ := h; have hl : 0 < L.length := by rw [<- bsize h3]; exact h0
 rw [bget h3 h2.1 h0 hl]; intro e; have := h2.2.2 (by rw [<- bsize h3]; exact h1); rw [List.head?_eq_getElem?, List.getElem?_eq_getElem hl] at this; exact this (by congr 1; omega)
theorem vld_of {s : ByteArray} (h0 : 0 < s.size) (h1 : s.size <= 20000) (h2 : 1 < s.size -> (s[0]'h0).toNat ≠ 48) (h3 : DigTo s s.size) : VLD s := by
 obtain ⟨L, g1, g2⟩ := digTo_list h3; refine ⟨h1, L, ⟨g1, by rw [<- bsize g2]; exact h0, fun hl => ?_⟩, g2⟩; have hl0 : 0 < L.length := by omega
 rw [List.head?_eq_getElem?, List.getElem?_eq_getElem hl0]; intro e
 injection e with e
 have := h2 (by rw [bsize g2]; exact hl); rw [bget g2 g1 h0 hl0] at this
 omega
def ValidPost (s : ByteArray) (w : World) (e : Ending) (w' : World) : Prop := (∃ b, e = .returned (.bool b) /\ (b = true ↔ VLD s)) /\ w = w'

theorem valid_any (s : ByteArray) (w : World) (hs : s.size <= maxLen) :
  Calls Tryz.prog 113 #[.string s] w (ValidPost s w) := by
 unfold maxLen at hs
 by_cases h0 : s.size = 0
 ·have hno : Hid (¬ VLD s) := fun h => by have := h.2; obtain ⟨L, h2, h3⟩ := this; have := h2.2.1; rw [<- bsize h3] at this; omega
  have b0 : ((s.size : Int) == 0) = true := beq_iff_eq.2 (by omega)
  go_enter Tryz.func113, Tryz.ntmps113
  go_wp2
  go_ret
  exact ⟨⟨false, rfl, by simp; exact hno.out⟩, rfl⟩
 have b0 : ((s.size : Int) == 0) = false := beq_eq_false_iff_ne.2 (by omega); have h0' : 0 < s.size := by omega
 clear h0
 by_cases h1 : 20000 < s.size
 ·have hno : Hid (¬ VLD s) := fun h => by have := h.1; omega
  go_enter Tryz.func113, Tryz.ntmps113
  go_wp2
  go_ret
  exact ⟨⟨false, rfl, by simp; exact hno.out⟩, rfl⟩
 have key : (1 < s.size -> (s[0]'h0').toNat ≠ 48) -> Calls Tryz.prog 113 #[.string s] w (ValidPost s w) := by
  intro hh; have HH := Z' hh; have h1' : s.size <= 20000 := by omega
  have d1 : ((((s[0]'h0').toNat : Nat) : Int) == 48) = true -> ¬ 1 < s.size := by
   intro h h2; have := hh h2; simp at h; omega
  by_cases hz : 1 < s.size
  ·have b1 : ((((s[0]'h0').toNat : Nat) : Int) == 48) = false := by have := hh hz; simp; omega
   have b2 : decide ((1 : Int) < s.size) = true := decide_eq_true (by omega); have b3 : decide (1 < s.size) = true := decide_eq_true hz; clear hh d1
   go_enter Tryz.func113, Tryz.ntmps113
   go_wp2_with fail
   go_loop [3] (fun v => ∃ k : Nat, k <= s.size /\ v = .int .i64 k /\ Hid (DigTo s k)) (fun v => s.size - (intOf v).toNat)
   case atStart => exact ⟨0, Nat.zero_le _, rfl, fun i h hi => absurd hi (Nat.not_lt_zero _)⟩
   case round =>
    obtain ⟨k, hk, rfl, HD⟩ := hrel
    by_cases hlt : k < s.size
    ·by_cases h2 : (s[k]'hlt).toNat < 48
     ·have hno : Hid (¬ VLD s) := fun h => by have := (vld_dig h k hlt hlt).1; omega
      go_wp2
      go_ret
      exact ⟨⟨false, rfl, by simp; exact hno.out⟩, rfl⟩
     ·by_cases h3 : 57 < (s[k]'hlt).toNat
      ·have hno : Hid (¬ VLD s) := fun h => by have := (vld_dig h k hlt hlt).2; omega
       go_wp2
       go_ret
       exact ⟨⟨false, rfl, by simp; exact hno.out⟩, rfl⟩
      ·have HN : Hid (DigTo s (k + 1)) := by
        show DigTo s (k + 1)
        intro i hi hik
        by_cases e : i = k
        ·subst e; omega
        ·exact HD.out i hi (by omega)
       go_wp2
       go_round
       case rel => exact ⟨k + 1, by omega, by go_num, HN⟩
       case measure => simp [intOf]; omega
    ·have hyes : Hid (VLD s) := vld_of h0' h1' HH.out fun i hi _ => HD.out i hi (by omega)
     go_wp2
     go_ret
     exact ⟨⟨true, rfl, by simp; exact hyes.out⟩, rfl⟩
  ·have b2 : decide ((1 : Int) < s.size) = false := decide_eq_false (by omega); have b3 : decide (1 < s.size) = false := decide_eq_false hz; clear hh d1
   go_enter Tryz.func113, Tryz.ntmps113
   go_wp2_with fail
   go_loop [3] (fun v => ∃ k : Nat, k <= s.size /\ v = .int .i64 k /\ Hid (DigTo s k)) (fun v => s.size - (intOf v).toNat)
   case atStart => exact ⟨0, Nat.zero_le _, rfl, fun i h hi => absurd hi (Nat.not_lt_zero _)⟩
   case round =>
    obtain ⟨k, hk, rfl, HD⟩ := hrel
    by_cases hlt : k < s.size
    ·by_cases h2 : (s[k]'hlt).toNat < 48
     ·have hno : Hid (¬ VLD s) := fun h => by have := (vld_dig h k hlt hlt).1; omega
      go_wp2
      go_ret
      exact ⟨⟨false, rfl, by simp; exact hno.out⟩, rfl⟩
     ·by_cases h3 : 57 < (s[k]'hlt).toNat
      ·have hno : Hid (¬ VLD s) := fun h => by have := (vld_dig h k hlt hlt).2; omega
       go_wp2
       go_ret
       exact ⟨⟨false, rfl, by simp; exact hno.out⟩, rfl⟩
      ·have HN : Hid (DigTo s (k + 1)) := by
        show DigTo s (k + 1)
        intro i hi hik
        by_cases e : i = k
        ·subst e; omega
        ·exact HD.out i hi (by omega)
       go_wp2
       go_round
       case rel => exact ⟨k + 1, by omega, by go_num, HN⟩
       case measure => simp [intOf]; omega
    ·have hyes : Hid (VLD s) := vld_of h0' h1' HH.out fun i hi _ => HD.out i hi (by omega)
     go_wp2
     go_ret
     exact ⟨⟨true, rfl, by simp; exact hyes.out⟩, rfl⟩
 by_cases hh : 1 < s.size -> (s[0]'h0').toNat ≠ 48
 ·exact key hh
 ·have hh2 : 1 < s.size /\ (s[0]'h0').toNat = 48 := by
   by_cases g : 1 < s.size
   ·refine ⟨g, ?_⟩
    by_cases g2 : (s[0]'h0').toNat = 48
    ·exact g2
    ·exact absurd (fun _ => g2) hh
   ·exact absurd (fun g3 => absurd g3 g) hh
  obtain ⟨g1, g2⟩ := hh2; have hno : Hid (¬ VLD s) := fun h => vld_head h h0' g1 g2; have b1 : ((((s[0]'h0').toNat : Nat) : Int) == 48) = true := by rw [g2]; rfl
  have b2 : decide ((1 : Int) < s.size) = true := decide_eq_true (by omega); have b3 : decide (1 < s.size) = true := decide_eq_true g1; clear hh key g2
  go_enter Tryz.func113, Tryz.ntmps113
  go_wp2
  go_ret
  exact ⟨⟨false, rfl, by simp; exact hno.out⟩, rfl⟩
theorem valid_yes {s : ByteArray} (w : World) (h : VLD s) : Calls Tryz.prog 113 #[.string s] w fun e w' => e = .returned (.bool true) /\ w = w' := by
 refine (valid_any s w (by have := h.1; unfold maxLen; omega)).mono ?_; rintro e w' ⟨⟨b, rfl, hb⟩, rfl⟩; rw [hb.2 h]; exact ⟨rfl, rfl⟩
open Go.RowKit Dg

theorem gcd_any {v1 v2 : Value} {m n : Nat} (w : World) (h1 : NatV w v1 m) (h2 : NatV w v2 n) (hm : (dw m).length <= 1048000) (hn : (dw n).length <= 1048000) (hs9 : n < 4294967296) :
  Calls Tryz.prog 115 #[v1, v2] w fun e w' => ∃ v, e = .returned v /\ NatV w' v (Nat.gcd m n) /\ Below w.heap.size w w' := by
 go_enter Tryz.func115, Tryz.ntmps115
 go_wp2_with fail
 go_loopg [0, 1] n (fun q s0 s1 wr => ∃ a b : Nat, q = b /\ NatV wr s0 a /\ NatV wr s1 b /\ (dw a).length <= 1048000 /\ (dw b).length <= 1048000 /\ Hid (b < 4294967296) /\ Hid (Nat.gcd a b = Nat.gcd m n) /\ Below w.heap.size w wr)
 case atStart => exact ⟨m, n, rfl, h1, h2, hm, hn, hs9, rfl, Below.refl _ _⟩
 case round =>
  clear h1 h2 hm hn hs9; obtain ⟨a, b, hq, h1, h2, hm, hn, HS9, HG, hbw⟩ := hrel; have HQ := Z' hq; clear hq
  have H1 := Z' h1; have H2 := Z' h2; obtain ⟨A2, c2, rfl, hc1, hc2, -⟩ := h2; unfold maxLen at hc2
  rcases Nat.eq_zero_or_pos b with rfl | hb0
  ·have hz : (dw 0).length = 0 := rfl; rw [hz]; have HF : Hid (a = Nat.gcd m n) := by show a = _; rw [<- HG.out, Nat.gcd_zero_right]
   clear h1 hz hc1 H2
   go_wp2
   go_ret
   exact ⟨_, rfl, by rw [<- HF.out]; exact H1.out, hbw⟩
  ·have hl : 0 < (dw b).length := by
    have : dw b ≠ [] := fun e => by have := (dg_nil b32).1 e; omega
    exact List.length_pos_iff.2 this
   have hmod : a % b < b := Nat.mod_lt _ hb0; have hml : (dw (a % b)).length <= 1048000 := Nat.le_trans (dg_mono b32 (Nat.le_of_lt hmod)) hn; have HS2 : Hid (a % b < 4294967296) := Nat.lt_trans hmod HS9.out; have HG2 : Hid (Nat.gcd b (a % b) = Nat.gcd m n) := by
    show _ = _
    rw [<- HG.out, Nat.gcd_comm, <- Nat.gcd_rec, Nat.gcd_comm]
   clear h1
   go_wp2_with fail
   refine (div_any _ H1.out H2.out hm hb0 HS9.out).mono ?_; rintro e w1 ⟨x1, x2, rfl, hx1, hx2, hb1⟩; have HB := H2.out.below hb1; clear H1 H2 HG
   go_wp2
   go_roundg (a % b)
   case measure => have := HQ.out; omega
   case rel => exact ⟨b, a % b, rfl, HB, hx2, hn, hml, HS2, HG2, hbw.trans (hb1.mono hbw.size)⟩

theorem parse_step {P B va o cr a base nn s : Nat} (h : o + P * cr = va * base + nn) (hs : s = cr + a * base) : (o + P * (s % B)) + P * B * (s / B) = (va + P * a) * base + nn := by
 have h1 : P * (s % B) + P * B * (s / B) = P * s := by rw [Nat.mul_assoc, <- Nat.mul_add, Nat.mod_add_div]
 have h2 : P * s = P * cr + P * a * base := by rw [hs, Nat.mul_add, Nat.mul_assoc]
 rw [Nat.add_mul]
 omega
theorem parse_carry {B cr a base : Nat} (h : cr <= base) (ha : a < B) (hB : 0 < B) : (cr + a * base) / B <= base := by
 have h1 : (a + 1) * base <= B * base := Nat.mul_le_mul_right _ ha; rw [Nat.add_mul, Nat.one_mul] at h1; have h2 : cr + a * base < (base + 1) * B := by rw [Nat.add_mul, Nat.one_mul, Nat.mul_comm base]; omega
 have := (Nat.div_lt_iff_lt_mul hB).2 h2
 omega
theorem parse_canon0 {X X' : Nat} {O : List Nat} (hO : O.length = (dw X).length) (hD : Dig 4294967296 O) (hv : val 4294967296 O = X') (hX : X <= X') : O = dw X' := by
 have := canon b32 hD (by rw [hv]; exact hO ▸ dg_mono b32 hX); rw [hv] at this; exact this
theorem parse_canon1 {X' c : Nat} {O : List Nat} (hD : Dig 4294967296 O) (hc : c < 4294967296) (hc0 : 0 < c) (hv : val 4294967296 O + 4294967296 ^ O.length * c = X') : O ++ [c] = dw X' := by
 have h1 := cut_snoc (by omega : c ≠ 0) O; have h2 := cut_eq b32 (dig_snoc hD hc); rw [h1, val_snoc, hv] at h2; exact h2
theorem num_chunk (L : List Nat) (i j : Nat) (h : i + j <= L.length) : num (L.take (i + j)) = num (L.take i) * 10 ^ j + num ((L.drop i).take j) := by
 rw [List.take_add, num_append, List.length_take, List.length_drop, Nat.min_eq_left (by omega)]
theorem num_chunk_succ (L : List Nat) (i j : Nat) (h : i + j < L.length) : num ((L.drop i).take (j + 1)) = 10 * num ((L.drop i).take j) + L[i + j] := by
 rw [List.take_succ_eq_append_getElem (by rw [List.length_drop]; omega), num_snoc, List.getElem_drop]
theorem num_take_len (L : List Nat) (hd : ∀ d ∈ L, d < 10) (i : Nat) (h : i <= L.length) : (dw (num (L.take i))).length <= i := by
 have h1 := num_lt (l := L.take i) fun d hd' => hd d (List.mem_of_mem_take hd'); rw [List.length_take, Nat.min_eq_left h] at h1; refine dg_le b32 (Nat.lt_of_lt_of_le h1 (Nat.pow_le_pow_left (by decide) _))
def ChunkMid (L : List Nat) (i : Nat) (w : World) (s4 s5 s6 : Value) (wx : World) : Prop :=
 ∃ p nn base : Nat, i < p /\ p <= L.length /\ s4 = .int .i64 p /\ s5 = .int .u64 nn /\ s6 = .int .u64 base /\ base = 10 ^ (p - i) /\ nn = num ((L.drop i).take (p - i)) /\ nn < base /\ base <= 1000000000 /\ 1 <= base /\ wx = w

theorem parse_own (s : ByteArray) (L : List Nat) (w : World) (hs : s.data.toList = asc L) (hd : ∀ d ∈ L, d < 10) (hlen : L.length <= 100000) :
  Calls Tryz.prog 114 #[.string s] w fun e w' => ∃ v, e = .returned v /\ NatV w' v (num L) /\ (∀ k, v.ownBlock = some k -> w.heap.size <= k) /\ Below w.heap.size w w' := by
 have hsz := bsize hs; have HSZ := Z' hsz; have hsz1 : s.size <= L.length := by omega
 have hsz2 : L.length <= s.size := by omega
 have HS := Z' hs; have HD := Z' hd; clear hs hd hsz; obtain ⟨i0, hi0, hz0, hz1, hz2⟩ := info_parts word_info
 go_enter Tryz.func114, Tryz.ntmps114
 go_wp2_with fail
 go_loopg [3, 4] L.length (fun q v3 v4 wr => ∃ (i : Nat), q = L.length - i /\ i <= L.length /\ v4 = .int .i64 i /\ wr.ownsRow w.heap.size 134 1 v3 (dw (num (L.take i))).length (cw (dw (num (L.take i)))) /\ Below w.heap.size w wr)
 case atStart => exact ⟨0, rfl, Nat.zero_le _, rfl, World.ownsRow_nil _ _ _ _, Below.refl _ _⟩
 case round =>
  obtain ⟨i, hq, hi, rfl, hown, hbw⟩ := hrel; have HQ := Z' hq; clear hq
  have HOWN := Z' hown; obtain ⟨Aw, cw0, rfl, hn1, hn2⟩ := own_form hown; clear hown; have hown := HOWN.out; clear HOWN; unfold maxLen at hn2
  by_cases hlt : i < L.length
  ·have d7 : decide ((i : Int) < (s.size : Int)) = true := decide_eq_true (by omega); have d8 : decide (i < s.size) = true := decide_eq_true (by omega)
   go_upto_block 2 with (fail)
   go_cut [4, 5, 6] (fun s4 s5 s6 wx => ChunkMid L i wr s4 s5 s6 wx)
   case first =>
    go_wp2_with fail
    go_loop [4, 5, 6] (fun s4 s5 s6 => ∃ p nn base : Nat, i <= p /\ p <= L.length /\ p <= i + 9 /\ s4 = .int .i64 p /\ s5 = .int .u64 nn /\ s6 = .int .u64 base /\ Hid (base = 10 ^ (p - i)) /\ Hid (nn = num ((L.drop i).take (p - i))) /\ nn < base /\ base <= 1000000000 /\ 1 <= base) (fun s4 _ _ => L.length - (intOf s4).toNat)
    case atStart => exact ⟨i, 0, 1, by omega, by omega, by omega, rfl, rfl, rfl, by show _ = _; rw [Nat.sub_self], by show _ = _; rw [Nat.sub_self]; rfl, by omega, by omega, by omega⟩
    case round =>
     obtain ⟨p, nn, base, hp0, hp1, hp2, rfl, rfl, rfl, HB, HN, hnb, hb1, hb2⟩ := hrel
     by_cases hjl : p < L.length
     ·have hbb : p < s.size := by omega
      by_cases hj9 : p < i + 9
      ·have hb3 : base <= 100000000 := by
        rw [HB.out]; exact Nat.pow_le_pow_right (by decide) (show p - i <= 8 by omega)
       have hdig := HD.out _ (List.getElem_mem hjl); have hci : (((s[p]'hbb).toNat : Nat) : Int) = 48 + ((L[p] : Nat) : Int) := by
        rw [bget HS.out HD.out hbb hjl]; omega
       have HN1 : Hid (10 * nn + L[p] = num ((L.drop i).take (p + 1 - i))) := by
        show _ = _
        have e : p + 1 - i = p - i + 1 := by omega
        have e2 : i + (p - i) = p := by omega
        have := num_chunk_succ L i (p - i) (by omega)
        simp only [e2] at this
        rw [e, this, <- HN.out]
       have HB1 : Hid (10 * base = 10 ^ (p + 1 - i)) := by
        show _ = _
        have e : p + 1 - i = p - i + 1 := by omega
        rw [e, Nat.pow_succ, <- HB.out, Nat.mul_comm]
       generalize L[p] = d at hdig hci HN1; have d1 : decide ((base : Int) < 1000000000) = true := decide_eq_true (by omega); have d2 : decide (base < 1000000000) = true := decide_eq_true (by omega); have hb4 : base < 100000001 := by omega
       clear hb1 hb3
       go_wp2_with fail
       go_round
       case rel => exact ⟨p + 1, 10 * nn + d, 10 * base, by omega, by omega, by omega, by go_num, vint (by omega), vint (by omega), HB1.out, HN1.out, by omega, by omega, by omega⟩
       case measure => simp [intOf]; omega
      ·have hb4 : base = 1000000000 := by
        have : p - i = 9 := by omega
        rw [HB.out, this]
       have d1 : decide ((base : Int) < 1000000000) = false := decide_eq_false (by omega); have d2 : decide (base < 1000000000) = false := decide_eq_false (by omega); have HB1 := Z' hb1; clear hb4 hb1
       go_wp2_with fail
       go_meet
       have HCH : ChunkMid L i wr (.int .i64 p) (.int .u64 nn) (.int .u64 base) wr := ⟨p, nn, base, by omega, hp1, rfl, rfl, rfl, HB.out, HN.out, hnb, HB1.out, hb2, rfl⟩
       first | exact HCH | ((repeat apply Exists.intro); exact ⟨HCH, rfl⟩)
     ·have hj0 : i < p := by omega
      have HB1 := Z' hb1; clear hb1
      go_wp2_with fail
      go_meet
      have HCH : ChunkMid L i wr (.int .i64 p) (.int .u64 nn) (.int .u64 base) wr := ⟨p, nn, base, hj0, hp1, rfl, rfl, rfl, HB.out, HN.out, hnb, HB1.out, hb2, rfl⟩
      first | exact HCH | ((repeat apply Exists.intro); exact ⟨HCH, rfl⟩)
   case rest =>
    obtain ⟨p, nn, base, hp0, hp1, rfl, rfl, rfl, hB, hN, hnb, hb1, hb2, rfl⟩ := hcut; have hch := num_chunk L i (p - i) (by omega); have epi : i + (p - i) = p := by omega
    rw [epi, <- hB, <- hN] at hch; clear epi; have hXl := num_take_len L HD.out i hi; have hXl2 := num_take_len L HD.out p hp1; generalize num (L.take i) = X at hown hch hXl hn1 |-; have HX' : Hid (num (L.take p) = X * base + nn) := hch; have HXX : Hid (X <= num (L.take p)) := by
     show X <= _
     rw [hch]; have := Nat.le_mul_of_pos_right X (show 0 < base by omega)
     omega
    clear hch hB hN; have hnb2 : nn <= base := by omega
    have HB1 := Z' hb1; have hb3 : base < 1000000001 := by omega
    have hXle : (dw X).length <= 100000 := by omega
    have hXI := Z' hXl; have hXI2 := Z' hXl2; clear hb1 hnb hXl hXl2
    go_wp2_with fail
    go_loopg [5, 34] (dw X).length (fun q v5 v34 wr => ∃ (k cr : Nat) (O : List Nat), q = (dw X).length - k /\ k <= (dw X).length /\ v34 = .int .i64 k /\ v5 = .int .u64 cr /\ cr <= base /\ O.length = (dw X).length /\ Hid (Dig 4294967296 O) /\ Hid (O.drop k = (dw X).drop k) /\ Hid (val 4294967296 (O.take k) + 4294967296 ^ k * cr = val 4294967296 ((dw X).take k) * base + nn) /\ wr.ownsRow w.heap.size 134 1 (.slice Aw (dw X).length cw0) (dw X).length (cw O) /\ Below w.heap.size w wr)
    case atStart => exact ⟨0, nn, dw X, rfl, Nat.zero_le _, rfl, rfl, hnb2, rfl, dw_lt X, rfl, by show _ = _; simp [val], hown, hbw⟩
    case round =>
     clear hown hbw hnb2; obtain ⟨k, cr, O, hq2, hk, rfl, rfl, hcr, hOl, HDO, HDR, HV, hown, hbw⟩ := hrel; have HQ2 := Z' hq2; clear hq2
     have HOL := Z' hOl; have hOl1 : O.length <= (dw X).length := by omega
     have hOl2 : (dw X).length <= O.length := by omega
     clear hOl
     by_cases hkt : k < (dw X).length
     ·have hkO : k < O.length := by omega
      obtain ⟨g, cap, hsl, hgb, hgl⟩ := hown.form (by omega)
      injection hsl with hA1 _ hA2
      subst hA1 hA2; have hcell : wr.cell? ⟨g, k, none⟩ = some (.int .u32 (O[k] : Int)) := by
       rw [hown.cellAt k (by omega)]; simp [cw, hkO]
      have hfr := hown.frozenAt k; have hOk : O[k] = (dw X)[k] := by
       have := HDR.out; rw [List.drop_eq_getElem_cons hkO, List.drop_eq_getElem_cons hkt] at this; exact (List.cons.inj this).1
      have HDR2 : Hid (O.drop (k + 1) = (dw X).drop (k + 1)) := by
       show _ = _
       have := HDR.out; rw [List.drop_eq_getElem_cons hkO, List.drop_eq_getElem_cons hkt] at this; exact (List.cons.inj this).2
      rw [hOk] at hcell; have ha := dw_get_lt X k hkt; have HVX : Hid (val 4294967296 ((dw X).take (k + 1)) = val 4294967296 ((dw X).take k) + 4294967296 ^ k * (dw X)[k]) := val_take_succ (b := 4294967296) hkt; generalize (dw X)[k] = a at hcell ha HVX hOk; clear hOk; obtain ⟨p2, hp2⟩ : ∃ p2, p2 = a * base := ⟨_, rfl⟩; have hpb : p2 <= 4294967295000000000 := by
       rw [hp2]; have h1 : a * base <= 4294967295 * base := Nat.mul_le_mul_right _ (by omega)
       omega
      have hm1 : IntKind.u64.wrap ((a : Int) * (base : Int)) = (p2 : Int) := by
       have : ((a : Int) * (base : Int)) = (p2 : Int) := by rw [hp2]; simp
       rw [this]; exact IntWalk.u64_in _ (by omega)
      have HST := Z' (parse_step (B := 4294967296) HV.out (rfl : cr + a * base = cr + a * base)); have HCA := Z' (parse_carry (B := 4294967296) hcr ha (by decide)); rw [<- hp2] at HST HCA; clear hp2; obtain ⟨hown', _⟩ := hown.stored k (.int .u32 (((cr + p2) % 4294967296 : Nat) : Int)); have hcwS : (cw O).set k (.int .u32 (((cr + p2) % 4294967296 : Nat) : Int)) = cw (O.set k ((cr + p2) % 4294967296)) := by simp [cw, List.map_set]
      rw [hcwS] at hown'; have hv1 : (((cr + p2) % 4294967296 : Nat) : Int) = ((cr : Int) + (p2 : Int)) % 4294967296 := by omega
      rw [hv1] at hown'; have hbw' : Below w.heap.size w (wr.setCell ⟨g, k, none⟩ (.int .u32 (((cr : Int) + (p2 : Int)) % 4294967296))) := hbw.setCell hgb _; have HOW := Z' hown'; clear hcwS hv1 hown' hown hbw
      go_wp2_with fail
      go_roundg ((dw X).length - (k + 1))
      case measure => have := HQ2.out; omega
      case rel =>
       refine ⟨k + 1, (cr + p2) / 4294967296, O.set k ((cr + p2) % 4294967296), rfl, by omega, by go_num, vint (by omega), HCA.out, by rw [List.length_set]; exact HOL.out, dig_set HDO.out (by omega), ?_, ?_, HOW.out, hbw'⟩
       ·show _ = _
        rw [List.drop_set_of_lt (by omega)]; exact HDR2.out
       ·show _ = _
        rw [set_take hkO, val_snoc, List.length_take, Nat.min_eq_left (by omega), Nat.pow_succ, HVX.out]; exact HST.out
     ·obtain rfl : k = (dw X).length := by omega
      have hv := HV.out; have hvX : val 4294967296 (dw X) = X := val_dg b32 X; rw [List.take_of_length_le hOl1, List.take_of_length_le (Nat.le_refl _), hvX, <- HX'.out] at hv
      rcases Nat.eq_zero_or_pos cr with rfl | hc0
      ·rw [Nat.mul_zero, Nat.add_zero] at hv; have hcan := parse_canon0 HOL.out HDO.out hv HXX.out; have HCAN := Z' hcan; have hlen : (dw (num (L.take p))).length = (dw X).length := by rw [<- hcan]; exact HOL.out
       have hown' : Hid (wr.ownsRow w.heap.size 134 1 (.slice Aw (dw X).length cw0) (dw (num (L.take p))).length (cw (dw (num (L.take p))))) := by
        show World.ownsRow _ _ _ _ _ _ _
        rw [hlen, <- hcan]; exact hown
       clear hv hvX hcan hlen hown
       go_wp2_with fail
       go_roundg (L.length - p)
       case measure => have := HQ.out; omega
       case rel => exact ⟨p, rfl, hp1, rfl, hown'.out, hbw⟩
      ·have hcB : cr < 4294967296 := by omega
       rw [<- HOL.out] at hv; have hcan := parse_canon1 HDO.out hcB hc0 hv; have HCAN := Z' hcan; have g1 : (cr : Int) % 4294967296 = (cr : Int) := by omega
       have d1 : decide ((0 : Int) < (cr : Int)) = true := decide_eq_true (by omega); have d2 : decide (0 < cr) = true := decide_eq_true hc0; have h63 : (dw X).length + 1 <= maxLen := by unfold maxLen; omega
       have hsz := hbw.size; clear hv hvX hcan
       go_wp2_with (at_builtin; refine wpList_append_own_at _ rfl (.tmp 56) (.tmp 59) 154 rfl w.heap.size 134 i0 _ 1 4 Tryz.underlying154 hi0 hz0 hz1 hz2 rfl (by decide) _ (dw X).length (cw O) rfl (hown.alloc _) ⟨wr.heap.size, 0, none⟩ 1 1 [.int .u32 (cr : Int)] rfl rfl (new_cells _ _ _ _ rfl) (by simp [Value.oneCell']) h63 (by omega) (by rw [size1]; omega) ?_)
       intro v' w' hown' hgrow _ hat; have hbw' : Below w.heap.size w w' := (hbw.alloc hbw.size _).grown hgrow (by rw [size1]; omega) (own_lt hown); have hcwa : cw O ++ [.int .u32 (cr : Int)] = cw (dw (num (L.take p))) := by
        rw [<- HCAN.out]; simp [cw]
       have hlen : (dw (num (L.take p))).length = (dw X).length + 1 := by rw [<- HCAN.out, List.length_append, HOL.out]; rfl
       have H' : Hid (w'.ownsRow w.heap.size 134 1 v' (dw (num (L.take p))).length (cw (dw (num (L.take p))))) := by
        show World.ownsRow _ _ _ _ _ _ _
        rw [<- hcwa, hlen]; exact hown'
       clear hgrow hat hown' hown hcwa hlen
       go_wp2_with fail
       go_roundg (L.length - p)
       case measure => have := HQ.out; omega
       case rel => exact ⟨p, rfl, hp1, rfl, H'.out, hbw'⟩
  ·obtain rfl : i = L.length := by omega
   have HF : Hid (num (L.take L.length) = num L) := by show _ = _; rw [List.take_length]
   have hsl := Sl.of_own hown; have HFR := Z' (own_lt hown)
   go_wp2
   go_ret
   have HNV : NatV wr (.slice Aw (dw (num (L.take L.length))).length cw0) (num L) := by
    rw [HF.out] at hsl |-; obtain ⟨A, c, e, h1, h2, h3⟩ := hsl; exact ⟨A, c, e, h1, h2, h3⟩
   exact ⟨_, rfl, HNV, HFR.out, hbw⟩
theorem parse_any (s : ByteArray) (L : List Nat) (w : World) (hs : s.data.toList = asc L) (hd : ∀ d ∈ L, d < 10) (hlen : L.length <= 100000) :
  Calls Tryz.prog 114 #[.string s] w fun e w' => ∃ v, e = .returned v /\ NatV w' v (num L) /\ Below w.heap.size w w' := by
 refine (parse_own s L w hs hd hlen).mono ?_; rintro e w' ⟨v, h1, h2, -, h3⟩; exact ⟨v, h1, h2, h3⟩
end Go.Proofs.YtjimfbmegmnocaaGreatDoor
