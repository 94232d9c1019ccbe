/- Parts of the proof: Ns. No condition of its own. -/
import Derived.Test.YtjimfbmegmnocaaGreatDoorNd0
import Derived.Test.YtjimfbmegmnocaaGreatDoorDg
set_option linter.unusedSimpArgs false
set_option linter.unusedVariables false
set_option maxHeartbeats 4000000
namespace Go.Proofs.YtjimfbmegmnocaaGreatDoor
open Go.RowKit Dg

def asc (l : List Nat) : List UInt8 := l.map fun d => (48 + d).toUInt8
theorem asc_length (l : List Nat) : (asc l).length = l.length := by simp [asc]
theorem asc_append (l m : List Nat) : asc (l ++ m) = asc l ++ asc m := by simp [asc]
theorem asc_toNat {d : Nat} (h : d < 10) : ((48 + d).toUInt8).toNat = 48 + d := by
 simp; omega
def S (n : Nat) : ByteArray := ⟨(asc (dec n)).toArray⟩
theorem S_list (n : Nat) : (S n).data.toList = asc (dec n) := rfl
theorem S_size (n : Nat) : (S n).size = (dec n).length := by
 show (asc (dec n)).toArray.size = _
 simp [asc]
theorem asc_inj {l m : List Nat} (hl : ∀ d ∈ l, d < 10) (hm : ∀ d ∈ m, d < 10) (h : asc l = asc m) : l = m := by
 induction l generalizing m with
 | nil =>
  cases m with
  | nil => rfl
  | cons y r => simp [asc] at h
 | cons x r ih =>
  cases m with
  | nil => simp [asc] at h
  | cons y t =>
   simp only [asc, List.map_cons, List.cons.injEq] at h
   have hx := hl x (by simp); have hy := hm y (by simp); have e := congrArg UInt8.toNat h.1; rw [asc_toNat hx, asc_toNat hy] at e; rw [show x = y by omega, ih (fun d hd => hl d (by simp [hd])) (fun d hd => hm d (by simp [hd])) h.2]
theorem ba_ext {s t : ByteArray} (h : s.data.toList = t.data.toList) : s = t := by
 cases s; cases t
 simp only [ByteArray.mk.injEq]
 exact Array.toList_inj.1 h
theorem S_inj {m n : Nat} (h : S m = S n) : m = n := by
 have := congrArg (fun s => s.data.toList) h; exact dec_inj (asc_inj (dec_dig m) (dec_dig n) this)
theorem bget {s : ByteArray} {L : List Nat} (hs : s.data.toList = asc L) (hd : ∀ d ∈ L, d < 10) {i : Nat} (h : i < s.size) (hl : i < L.length) : (s[i]'h).toNat = 48 + L[i] := by
 have h1 : (s[i]'h) = s.data.toList[i]'(by simpa using h) := rfl; have h2 : s.data.toList[i]'(by simpa using h) = (48 + L[i]).toUInt8 := by
  simp only [hs, asc, List.getElem_map]
 rw [h1, h2, asc_toNat (hd _ (List.getElem_mem hl))]
theorem bsize {s : ByteArray} {L : List Nat} (hs : s.data.toList = asc L) : s.size = L.length := by
 have : s.size = s.data.toList.length := by simp
 rw [this, hs, asc_length]

def VLD (s : ByteArray) : Prop := s.size <= 20000 /\ ∃ L, Txt L /\ s.data.toList = asc L
theorem vld_S {n : Nat} (h : (dec n).length <= 20000) : VLD (S n) := ⟨by rw [S_size]; exact h, dec n, txt_dec n, rfl⟩
def DigTo (s : ByteArray) (k : Nat) : Prop := ∀ i (h : i < s.size), i < k -> 48 <= (s[i]'h).toNat /\ (s[i]'h).toNat <= 57
theorem digTo_list {s : ByteArray} (h : DigTo s s.size) : ∃ L : List Nat, (∀ d ∈ L, d < 10) /\ s.data.toList = asc L := by
 refine ⟨s.data.toList.map fun c => c.toNat - 48, ?_, ?_⟩
 ·intro d hd; obtain ⟨c, hc, rfl⟩ := List.mem_map.1 hd; obtain ⟨i, hi, rfl⟩ := List.getElem_of_mem hc; have := h i (by simpa using hi) (by simpa using hi); have e : (s[i]'(by simpa using hi)) = s.data.toList[i] := rfl; rw [e] at this
  omega
 ·rw [asc, List.map_map]
  apply List.ext_getElem
  ·simp
  ·intro i h1 h2; have h1' : i < s.size := by simpa using h1
   have := h i h1' h1'; have e : (s[i]'h1') = s.data.toList[i] := rfl; rw [e] at this; rw [List.getElem_map]
   apply UInt8.toNat.inj
   show _ = ((48 + (s.data.toList[i].toNat - 48)).toUInt8).toNat
   rw [asc_toNat (by omega)]
   omega
theorem vld_dig {s : ByteArray} (h : VLD s) : DigTo s s.size := by
 obtain ⟨_, L, h2, h3⟩ := h; intro i hi _; have hl : i < L.length := by rw [<- bsize h3]; exact hi
 have := h2.1 _ (List.getElem_mem hl); rw [bget h3 h2.1 hi hl]; omega
theorem vld_head {s : ByteArray} (h : VLD s) (h0 : 0 < s.size) (h1 : 1 < s.size) : (s[0]'h0).toNat ≠ 48 := by
 obtain ⟨_, L, h2, h3⟩ := h; have hl : 0 < L.length := by rw [<- bsize h3]; exact h0
 rw [bget h3 h2.1 h0 hl]; intro e; have := h2.2.2 (by rw [<- bsize h3]; exact h1); rw [List.head?_eq_getElem?, List.getElem?_eq_getElem hl] at this; exact this (by congr 1; omega)
theorem vld_of {s : ByteArray} (h0 : 0 < s.size) (h1 : s.size <= 20000) (h2 : 1 < s.size -> (s[0]'h0).toNat ≠ 48) (h3 : DigTo s s.size) : VLD s := by
 obtain ⟨L, g1, g2⟩ := digTo_list h3; refine ⟨h1, L, ⟨g1, by rw [<- bsize g2]; exact h0, fun hl => ?_⟩, g2⟩; have hl0 : 0 < L.length := by omega
 rw [List.head?_eq_getElem?, List.getElem?_eq_getElem hl0]; intro e
 injection e with e
 have := h2 (by rw [bsize g2]; exact hl); rw [bget g2 g1 h0 hl0] at this
 omega
def ValidPost (s : ByteArray) (w : World) (e : Ending) (w' : World) : Prop := (∃ b, e = .returned (.bool b) /\ (b = true ↔ VLD s)) /\ w = w'

theorem valid_any (s : ByteArray) (w : World) (hs : s.size <= maxLen) :
  Calls Tryz.prog 113 #[.string s] w (ValidPost s w) := by
 unfold maxLen at hs
 by_cases h0 : s.size = 0
 ·have hno : Hid (¬ VLD s) := fun h => by have := h.2; obtain ⟨L, h2, h3⟩ := this; have := h2.2.1; rw [<- bsize h3] at this; omega
  have b0 : ((s.size : Int) == 0) = true := beq_iff_eq.2 (by omega)
  go_enter Tryz.func113, Tryz.ntmps113
  go_wp2
  go_ret
  exact ⟨⟨false, rfl, by simp; exact hno.out⟩, rfl⟩
 have b0 : ((s.size : Int) == 0) = false := beq_eq_false_iff_ne.2 (by omega); have h0' : 0 < s.size := by omega
 clear h0
 by_cases h1 : 20000 < s.size
 ·have hno : Hid (¬ VLD s) := fun h => by have := h.1; omega
  go_enter Tryz.func113, Tryz.ntmps113
  go_wp2
  go_ret
  exact ⟨⟨false, rfl, by simp; exact hno.out⟩, rfl⟩
 have key : (1 < s.size -> (s[0]'h0').toNat ≠ 48) -> Calls Tryz.prog 113 #[.string s] w (ValidPost s w) := by
  intro hh; have HH := Lib.hid hh; have h1' : s.size <= 20000 := by omega
  have d1 : ((((s[0]'h0').toNat : Nat) : Int) == 48) = true -> ¬ 1 < s.size := by
   intro h h2; have := hh h2; simp at h; omega
  by_cases hz : 1 < s.size
  ·have b1 : ((((s[0]'h0').toNat : Nat) : Int) == 48) = false := by have := hh hz; simp; omega
   have b2 : decide ((1 : Int) < s.size) = true := decide_eq_true (by omega); have b3 : decide (1 < s.size) = true := decide_eq_true hz; clear hh d1
   go_enter Tryz.func113, Tryz.ntmps113
   go_wp2_with fail
   go_loop [3] (fun v => ∃ k : Nat, k <= s.size /\ v = .int .i64 k /\ Hid (DigTo s k)) (fun v => s.size - (intOf v).toNat)
   case atStart => exact ⟨0, Nat.zero_le _, rfl, fun i h hi => absurd hi (Nat.not_lt_zero _)⟩
   case round =>
    obtain ⟨k, hk, rfl, HD⟩ := hrel
    by_cases hlt : k < s.size
    ·by_cases h2 : (s[k]'hlt).toNat < 48
     ·have hno : Hid (¬ VLD s) := fun h => by have := (vld_dig h k hlt hlt).1; omega
      go_wp2
      go_ret
      exact ⟨⟨false, rfl, by simp; exact hno.out⟩, rfl⟩
     ·by_cases h3 : 57 < (s[k]'hlt).toNat
      ·have hno : Hid (¬ VLD s) := fun h => by have := (vld_dig h k hlt hlt).2; omega
       go_wp2
       go_ret
       exact ⟨⟨false, rfl, by simp; exact hno.out⟩, rfl⟩
      ·have HN : Hid (DigTo s (k + 1)) := by
        show DigTo s (k + 1)
        intro i hi hik
        by_cases e : i = k
        ·subst e; omega
        ·exact HD.out i hi (by omega)
       go_wp2
       go_round
       case rel => exact ⟨k + 1, by omega, by go_num, HN⟩
       case measure => simp [intOf]; omega
    ·have hyes : Hid (VLD s) := vld_of h0' h1' HH.out fun i hi _ => HD.out i hi (by omega)
     go_wp2
     go_ret
     exact ⟨⟨true, rfl, by simp; exact hyes.out⟩, rfl⟩
  ·have b2 : decide ((1 : Int) < s.size) = false := decide_eq_false (by omega); have b3 : decide (1 < s.size) = false := decide_eq_false hz; clear hh d1
   go_enter Tryz.func113, Tryz.ntmps113
   go_wp2_with fail
   go_loop [3] (fun v => ∃ k : Nat, k <= s.size /\ v = .int .i64 k /\ Hid (DigTo s k)) (fun v => s.size - (intOf v).toNat)
   case atStart => exact ⟨0, Nat.zero_le _, rfl, fun i h hi => absurd hi (Nat.not_lt_zero _)⟩
   case round =>
    obtain ⟨k, hk, rfl, HD⟩ := hrel
    by_cases hlt : k < s.size
    ·by_cases h2 : (s[k]'hlt).toNat < 48
     ·have hno : Hid (¬ VLD s) := fun h => by have := (vld_dig h k hlt hlt).1; omega
      go_wp2
      go_ret
      exact ⟨⟨false, rfl, by simp; exact hno.out⟩, rfl⟩
     ·by_cases h3 : 57 < (s[k]'hlt).toNat
      ·have hno : Hid (¬ VLD s) := fun h => by have := (vld_dig h k hlt hlt).2; omega
       go_wp2
       go_ret
       exact ⟨⟨false, rfl, by simp; exact hno.out⟩, rfl⟩
      ·have HN : Hid (DigTo s (k + 1)) := by
        show DigTo s (k + 1)
        intro i hi hik
        by_cases e : i = k
        ·subst e; omega
        ·exact HD.out i hi (by omega)
       go_wp2
       go_round
       case rel => exact ⟨k + 1, by omega, by go_num, HN⟩
       case measure => simp [intOf]; omega
    ·have hyes : Hid (VLD s) := vld_of h0' h1' HH.out fun i hi _ => HD.out i hi (by omega)
     go_wp2
     go_ret
     exact ⟨⟨true, rfl, by simp; exact hyes.out⟩, rfl⟩
 by_cases hh : 1 < s.size -> (s[0]'h0').toNat ≠ 48
 ·exact key hh
 ·have hh2 : 1 < s.size /\ (s[0]'h0').toNat = 48 := by
   by_cases g : 1 < s.size
   ·refine ⟨g, ?_⟩
    by_cases g2 : (s[0]'h0').toNat = 48
    ·exact g2
    ·exact absurd (fun _ => g2) hh
   ·exact absurd (fun g3 => absurd g3 g) hh
  obtain ⟨g1, g2⟩ := hh2; have hno : Hid (¬ VLD s) := fun h => vld_head h h0' g1 g2; have b1 : ((((s[0]'h0').toNat : Nat) : Int) == 48) = true := by rw [g2]; rfl
  have b2 : decide ((1 : Int) < s.size) = true := decide_eq_true (by omega); have b3 : decide (1 < s.size) = true := decide_eq_true g1; clear hh key g2
  go_enter Tryz.func113, Tryz.ntmps113
  go_wp2
  go_ret
  exact ⟨⟨false, rfl, by simp; exact hno.out⟩, rfl⟩
theorem valid_yes {s : ByteArray} (w : World) (h : VLD s) : Calls Tryz.prog 113 #[.string s] w fun e w' => e = .returned (.bool true) /\ w = w' := by
 refine (valid_any s w (by have := h.1; unfold maxLen; omega)).mono ?_; rintro e w' ⟨⟨b, rfl, hb⟩, rfl⟩; rw [hb.2 h]; exact ⟨rfl, rfl⟩
end Go.Proofs.YtjimfbmegmnocaaGreatDoor
