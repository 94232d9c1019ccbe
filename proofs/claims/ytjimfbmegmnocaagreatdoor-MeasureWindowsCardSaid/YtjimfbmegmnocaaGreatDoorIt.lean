/- Parts of the proof: Rw, Rd, Rf, Rk, Ja, If, Jb, En, Mk, It. No condition of its own. -/
import Derived.Test.YtjimfbmegmnocaaGreatDoorNm
import Derived.Test.YtjimfbmegmnocaaGreatDoorReg
import Derived.Test.YtjimfbmegmnocaaGreatDoorOq
import Derived.Test.YtjimfbmegmnocaaGreatDoorNv
import Derived.Test.YtjimfbmegmnocaaGreatDoorMem
import Derived.Lib.LaidTab
import Derived.Lib.AppendIntMem
import Derived.Lib.ItoaNum
set_option linter.unusedSimpArgs false
set_option linter.unusedVariables false
set_option maxRecDepth 100000
set_option maxHeartbeats 4000000
namespace Go.Proofs.YtjimfbmegmnocaaGreatDoor
open Go.RowKit

abbrev ck (l : List Nat) : List Value := l.map fun (x : Nat) => Value.int .i64 (x : Int)
def Kds (w : World) (A : Option Addr) (l : List Nat) : Prop := Rd w A (ck l)
theorem Kds.get {w : World} {A : Option Addr} {l : List Nat} (h : Kds w A l) {k : Nat} (hk : k < l.length) :
  ∃ b off, A = some ⟨b, off, none⟩ /\ w.cell? ⟨b, off + k, none⟩ = some (.int .i64 (l[k] : Int)) := by
 obtain ⟨b, off, e, hc⟩ := Rd.get h (k := k) (by simpa using hk); exact ⟨b, off, e, by simpa using hc⟩
theorem Kds.below {w w' : World} {A : Option Addr} {l : List Nat} (h : Kds w A l) (hb : Below w.heap.size w w') : Kds w' A l := Rd.below h hb
theorem Kds.take {w : World} {A : Option Addr} {l : List Nat} (h : Kds w A l) (n : Nat) : Kds w A (l.take n) := by
 have := Rd.take h n; unfold Kds ck; rw [List.map_take]; exact this
def dk (n : Nat) : List Nat := Dg.dg 10000 n
theorem b10k : 2 <= 10000 := by decide
def BigV (w : World) (v : Value) (n : Nat) : Prop := ∃ A c, v = .slice A (dk n).length c /\ (dk n).length <= c /\ c <= maxLen /\ Kds w A (dk n)
theorem BigV.below {w w' : World} {v : Value} {n : Nat} (h : BigV w v n) (hb : Below w.heap.size w w') : BigV w' v n := by
 obtain ⟨A, c, rfl, h1, h2, h3⟩ := h; exact ⟨A, c, rfl, h1, h2, h3.below hb⟩
theorem BigV.zero (w : World) : BigV w (.slice none 0 0) 0 := ⟨none, 0, rfl, Nat.le_refl _, by unfold maxLen; omega, Rd.nil _ _⟩
theorem BigV.of_cut {w : World} {A : Option Addr} {l : List Nat} {c : Nat} (h : Kds w A l) (hd : Dg.Dig 10000 l) (h1 : l.length <= c) (h2 : c <= maxLen) : BigV w (.slice A (Dg.cut l).length c) (Dg.val 10000 l) := by
 have e : Dg.cut l = dk (Dg.val 10000 l) := Dg.cut_eq b10k hd; refine ⟨A, c, by rw [e], ?_, h2, ?_⟩
 ·rw [<- e]; exact Nat.le_trans (Dg.cut_le l) h1
 ·rw [<- e, Dg.cut_take l]; exact h.take _

open Go.RowKit

theorem dig_snoc {b : Nat} {O : List Nat} {x : Nat} (h : Dg.Dig b O) (hx : x < b) : Dg.Dig b (O ++ [x]) := by
 intro y hy
 rcases List.mem_append.1 hy with h1 | h1
 ·exact h y h1
 ·have : y = x := by simpa using h1
  omega

open Go.RowKit

open Go.RowKit Dg

open Go.RowKit

theorem BigV.set {w : World} {v : Value} {n g i : Nat} {u : Value} (h : BigV w v n) (hn : v.ownBlock ≠ some g) : BigV (w.setCell ⟨g, i, none⟩ u) v n := by
 obtain ⟨A, c, rfl, h1, h2, h3⟩ := h; refine ⟨A, c, rfl, h1, h2, ?_⟩; intro j x hx; obtain ⟨b, off, e, hc⟩ := h3 j x hx; subst e; refine ⟨b, off, rfl, ?_⟩; have hbg : g ≠ b := fun e => hn (by subst e; rfl); unfold World.cell? at hc |-; rw [Below.heap_setCell w ⟨g, i, none⟩ u b (fun e => hbg e.symm)]; exact hc

open Go.RowKit

open Go.RowKit Dg

theorem dec_small {n : Nat} (h : n < 10) : dec n = [n] := by
 have hx : ∀ d ∈ [n], d < 10 := by
  intro d hd; have : d = n := by simpa using hd
  omega
 have ht : Txt [n] := ⟨hx, by simp, fun h => by simp at h⟩; have := dec_num ht; have e : num [n] = n := by simp [num]
 rw [e] at this; exact this
theorem dec_step {n : Nat} (h : 10 <= n) : dec n = dec (n / 10) ++ [n % 10] := by
 have h1 : dec n = (Dg.dg 10 n).reverse := if_neg (by omega); have h2 : dec (n / 10) = (Dg.dg 10 (n / 10)).reverse := if_neg (by omega); rw [h1, h2, Dg.dg_pos (by decide) (by omega)]; simp

open Go.RowKit Dg

open Go.RowKit Dg

theorem dk_dec (n : Nat) : (dk n).length <= (dec n).length := by
 refine Dg.dg_le b10k (Nat.lt_of_lt_of_le (dec_lt n) (Nat.pow_le_pow_left (by decide) _))
theorem OkN.dk {n : Nat} (h : OkN n) : (dk n).length <= 20000 := Nat.le_trans (dk_dec n) h
open Go.RowKit Dg

theorem okn0 : OkN 0 := by unfold OkN; decide
theorem okn1 : OkN 1 := by unfold OkN; decide
theorem okS_1 : S 1 = ⟨#[49]⟩ := rfl
open Go.RowKit Dg

open Go.RowKit Dg

open Go.RowKit Dg

def cmpR (x y : Rat) : Int := if x < y then -1 else if x = y then 0 else 1
open Go.RowKit Dg

open Go.RowKit Dg

def RetV (f : FuncId) (args : Array Value) (v : Value) : Prop := ∀ w, Calls Tryz.prog f args w fun e w' => e = .returned v /\ Below w.heap.size w w'
theorem Own.set6 {w : World} {g : Nat} {t : TypeId} {a b c d e f : Value} (h : Own w g t [a, b, c, d, e, f]) (u v x y z q : Value) :
  Own ((((((w.setCell ⟨g, 0, none⟩ u).setCell ⟨g, 1, none⟩ v).setCell ⟨g, 2, none⟩ x).setCell ⟨g, 3, none⟩ y).setCell ⟨g, 4, none⟩ z).setCell ⟨g, 5, none⟩ q) g t [u, v, x, y, z, q] :=
 (((((h.set_ 0 u).set_ 1 v).set_ 2 x).set_ 3 y).set_ 4 z).set_ 5 q
theorem Below.set6 {B : Nat} {w w' : World} (h : Below B w w') {g : Nat} (hg : B <= g) (u v x y z q : Value) :
  Below B w ((((((w'.setCell ⟨g, 0, none⟩ u).setCell ⟨g, 1, none⟩ v).setCell ⟨g, 2, none⟩ x).setCell ⟨g, 3, none⟩ y).setCell ⟨g, 4, none⟩ z).setCell ⟨g, 5, none⟩ q) :=
 (((((h.setCell hg u).setCell hg v).setCell hg x).setCell hg y).setCell hg z).setCell hg q
theorem new4 (w : World) (c1 c2 c3 c4 : List Value) (t1 t2 t3 t4 : TypeId) :
  Own ((((w.alloc (.cells c1.toArray t1)).alloc (.cells c2.toArray t2)).alloc (.cells c3.toArray t3)).alloc (.cells c4.toArray t4)) w.heap.size t1 c1 /\ Own ((((w.alloc (.cells c1.toArray t1)).alloc (.cells c2.toArray t2)).alloc (.cells c3.toArray t3)).alloc (.cells c4.toArray t4)) (w.heap.size + 1) t2 c2 /\
  Own ((((w.alloc (.cells c1.toArray t1)).alloc (.cells c2.toArray t2)).alloc (.cells c3.toArray t3)).alloc (.cells c4.toArray t4)) (w.heap.size + 1 + 1) t3 c3 /\ Own ((((w.alloc (.cells c1.toArray t1)).alloc (.cells c2.toArray t2)).alloc (.cells c3.toArray t3)).alloc (.cells c4.toArray t4)) (w.heap.size + 1 + 1 + 1) t4 c4 /\
  Below w.heap.size w ((((w.alloc (.cells c1.toArray t1)).alloc (.cells c2.toArray t2)).alloc (.cells c3.toArray t3)).alloc (.cells c4.toArray t4)) := by
 obtain ⟨h1, h2, h3, h4⟩ := new3 w c1 c2 c3 t1 t2 t3; have hs : (((w.alloc (.cells c1.toArray t1)).alloc (.cells c2.toArray t2)).alloc (.cells c3.toArray t3)).heap.size = w.heap.size + 1 + 1 + 1 := by simp
 refine ⟨h1.alloc _, h2.alloc _, h3.alloc _, ?_, h4.alloc (by rw [hs]; omega) _⟩; have := Own.new (((w.alloc (.cells c1.toArray t1)).alloc (.cells c2.toArray t2)).alloc (.cells c3.toArray t3)) t4 c4; rw [hs] at this; exact this
open Go.RowKit Dg

open Go.RowKit Dg

def Tab (w : World) : Prop := Lib.TabIs Tryz.prog w "internal/strconv.uint64pow10" .u64 Lib.pow10Tab
theorem Tab.below {w w' : World} (h : Tab w) (hb : Below w.heap.size w w') : Tab w' := Lib.tabBelow_of_tabIs h w' hb
theorem tab_of_head {W : World} {rest : List (String × DataW Unit)} {d : DataW Unit} {ps : List MemPlace} {g : Nat} {t e : TypeId} {n : Nat} (hd : d = Lib.tabData .u64 Lib.pow10Tab)
  (hg : Tryz.prog.globalNamed "internal/strconv.uint64pow10" = some g) (hty : (Tryz.prog.globals[g]?).map (·.type) = some t) (ht : Tryz.prog.underlying t = some (.array n e)) (he : Tryz.prog.underlying e = some (.int .u64)) (hce : Tryz.prog.cellsOf e = 1) (hct : Tryz.prog.cellsOf t = n)
  (h : DataW.LaidVars Tryz.prog W (("internal/strconv.uint64pow10", d) :: rest) ps) : Tab W := by
 subst hd; obtain ⟨g', t', cs, fuel, p, q, hg', ht', hvar, hd, _, _⟩ := h; obtain rfl := Option.some.inj (hg.symm.trans hg'); obtain rfl := Option.some.inj (hty.symm.trans ht'); unfold Tab Lib.TabIs; rw [hvar, <- Lib.cells_of_tab ht he hce hct hd]
theorem decDigits_S (n : Nat) : (⟨(Lib.decDigits n).toArray⟩ : ByteArray) = S n := by
 apply ba_ext
 show Lib.decDigits n = (S n).data.toList
 induction n using Nat.strongRecOn with
 | _ n ih =>
  unfold Lib.decDigits
  by_cases h : n < 10
  ·rw [dif_pos h, S_list, dec_small h]; rfl
  ·rw [dif_neg h, ih (n / 10) (by omega), S_list, S_list, dec_step (n := n) (by omega), asc_append]; rfl
theorem itoa_S (n : Nat) : (⟨(Lib.itoa (n : Int)).toArray⟩ : ByteArray) = S n := by
 unfold Lib.itoa; rw [if_neg (by omega)]; exact decDigits_S n
theorem fromint_yes (k : Nat) (hk : k <= 9223372036854775807) (w : World) (ht : Tab w) : Calls Tryz.prog 97 #[.int .i64 (k : Int)] w fun e w' => e = .returned (.tuple #[.string (S k), .int .i64 0]) /\ Below w.heap.size w w' := by
 have HI : Hid (Calls Tryz.prog 118 #[.int .i64 (k : Int)] w fun e w' => e = .returned (.string (S k)) /\ Below w.heap.size w w') := (Tryz.strconv_Itoa (k : Int) (by omega) (by omega) w ht).mono fun e w' ⟨h1, j, os, h2⟩ => by
  rw [itoa_S] at h1; rw [h2]; exact ⟨h1, Lib.below_grow _ w (Nat.le_refl _) j os⟩
 have d1 : decide ((k : Int) < 0) = false := decide_eq_false (by omega); clear hk ht
 go_enter Tryz.func97, Tryz.ntmps97
 go_wp2_with fail
 refine HI.out.mono ?_; rintro e w1 ⟨rfl, hb⟩
 go_wp2
 go_ret2
 exact ⟨rfl, hb⟩
end Go.Proofs.YtjimfbmegmnocaaGreatDoor
