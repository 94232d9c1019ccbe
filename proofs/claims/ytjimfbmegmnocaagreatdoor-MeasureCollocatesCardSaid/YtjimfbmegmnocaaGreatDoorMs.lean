/- Parts of the proof: Rw, Rd, Rf, Rk, Ja, If, Jb, En, Mk, It, Ms. No condition of its own. -/
import Derived.Test.YtjimfbmegmnocaaGreatDoorNm
import Derived.Test.YtjimfbmegmnocaaGreatDoorReg
import Derived.Test.YtjimfbmegmnocaaGreatDoorOq
import Derived.Test.YtjimfbmegmnocaaGreatDoorNv
import Derived.Test.YtjimfbmegmnocaaGreatDoorMem
import Derived.Lib.LaidTab
import Derived.Lib.AppendIntMem
import Derived.Lib.ItoaNum
set_option linter.unusedSimpArgs false
set_option linter.unusedVariables false
set_option maxRecDepth 100000
set_option maxHeartbeats 4000000
namespace Go.Proofs.YtjimfbmegmnocaaGreatDoor
open Go.RowKit

abbrev ck (l : List Nat) : List Value := l.map fun (x : Nat) => Value.int .i64 (x : Int)
def Kds (w : World) (A : Option Addr) (l : List Nat) : Prop := Rd w A (ck l)
theorem Kds.get {w : World} {A : Option Addr} {l : List Nat} (h : Kds w A l) {k : Nat} (hk : k < l.length) :
  ∃ b off, A = some ⟨b, off, none⟩ /\ w.cell? ⟨b, off + k, none⟩ = some (.int .i64 (l[k] : Int)) := by
 obtain ⟨b, off, e, hc⟩ := Rd.get h (k := k) (by simpa using hk); exact ⟨b, off, e, by simpa using hc⟩
theorem Kds.below {w w' : World} {A : Option Addr} {l : List Nat} (h : Kds w A l) (hb : Below w.heap.size w w') : Kds w' A l := Rd.below h hb
theorem Kds.take {w : World} {A : Option Addr} {l : List Nat} (h : Kds w A l) (n : Nat) : Kds w A (l.take n) := by
 have := Rd.take h n; unfold Kds ck; rw [List.map_take]; exact this
def dk (n : Nat) : List Nat := Dg.dg 10000 n
theorem b10k : 2 <= 10000 := by decide
def BigV (w : World) (v : Value) (n : Nat) : Prop := ∃ A c, v = .slice A (dk n).length c /\ (dk n).length <= c /\ c <= maxLen /\ Kds w A (dk n)
theorem BigV.below {w w' : World} {v : Value} {n : Nat} (h : BigV w v n) (hb : Below w.heap.size w w') : BigV w' v n := by
 obtain ⟨A, c, rfl, h1, h2, h3⟩ := h; exact ⟨A, c, rfl, h1, h2, h3.below hb⟩
theorem BigV.zero (w : World) : BigV w (.slice none 0 0) 0 := ⟨none, 0, rfl, Nat.le_refl _, by unfold maxLen; omega, Rd.nil _ _⟩
theorem BigV.of_cut {w : World} {A : Option Addr} {l : List Nat} {c : Nat} (h : Kds w A l) (hd : Dg.Dig 10000 l) (h1 : l.length <= c) (h2 : c <= maxLen) : BigV w (.slice A (Dg.cut l).length c) (Dg.val 10000 l) := by
 have e : Dg.cut l = dk (Dg.val 10000 l) := Dg.cut_eq b10k hd; refine ⟨A, c, by rw [e], ?_, h2, ?_⟩
 ·rw [<- e]; exact Nat.le_trans (Dg.cut_le l) h1
 ·rw [<- e, Dg.cut_take l]; exact h.take _

open Go.RowKit

theorem dig_snoc {b : Nat} {O : List Nat} {x : Nat} (h : Dg.Dig b O) (hx : x < b) : Dg.Dig b (O ++ [x]) := by
 intro y hy
 rcases List.mem_append.1 hy with h1 | h1
 ·exact h y h1
 ·have : y = x := by simpa using h1
  omega

open Go.RowKit

open Go.RowKit Dg

open Go.RowKit

theorem BigV.set {w : World} {v : Value} {n g i : Nat} {u : Value} (h : BigV w v n) (hn : v.ownBlock ≠ some g) : BigV (w.setCell ⟨g, i, none⟩ u) v n := by
 obtain ⟨A, c, rfl, h1, h2, h3⟩ := h; refine ⟨A, c, rfl, h1, h2, ?_⟩; intro j x hx; obtain ⟨b, off, e, hc⟩ := h3 j x hx; subst e; refine ⟨b, off, rfl, ?_⟩; have hbg : g ≠ b := fun e => hn (by subst e; rfl); unfold World.cell? at hc |-; rw [Below.heap_setCell w ⟨g, i, none⟩ u b (fun e => hbg e.symm)]; exact hc

open Go.RowKit

open Go.RowKit Dg

theorem dec_small {n : Nat} (h : n < 10) : dec n = [n] := by
 have hx : ∀ d ∈ [n], d < 10 := by
  intro d hd; have : d = n := by simpa using hd
  omega
 have ht : Txt [n] := ⟨hx, by simp, fun h => by simp at h⟩; have := dec_num ht; have e : num [n] = n := by simp [num]
 rw [e] at this; exact this
theorem dec_step {n : Nat} (h : 10 <= n) : dec n = dec (n / 10) ++ [n % 10] := by
 have h1 : dec n = (Dg.dg 10 n).reverse := if_neg (by omega); have h2 : dec (n / 10) = (Dg.dg 10 (n / 10)).reverse := if_neg (by omega); rw [h1, h2, Dg.dg_pos (by decide) (by omega)]; simp

open Go.RowKit Dg

open Go.RowKit Dg

theorem dk_dec (n : Nat) : (dk n).length <= (dec n).length := by
 refine Dg.dg_le b10k (Nat.lt_of_lt_of_le (dec_lt n) (Nat.pow_le_pow_left (by decide) _))
theorem OkN.dk {n : Nat} (h : OkN n) : (dk n).length <= 20000 := Nat.le_trans (dk_dec n) h
open Go.RowKit Dg

theorem okn0 : OkN 0 := by unfold OkN; decide
theorem okn1 : OkN 1 := by unfold OkN; decide
theorem okS_1 : S 1 = ⟨#[49]⟩ := rfl
open Go.RowKit Dg

open Go.RowKit Dg

open Go.RowKit Dg

def cmpR (x y : Rat) : Int := if x < y then -1 else if x = y then 0 else 1
open Go.RowKit Dg

open Go.RowKit Dg

def RetV (f : FuncId) (args : Array Value) (v : Value) : Prop := ∀ w, Calls Tryz.prog f args w fun e w' => e = .returned v /\ Below w.heap.size w w'
theorem Own.set6 {w : World} {g : Nat} {t : TypeId} {a b c d e f : Value} (h : Own w g t [a, b, c, d, e, f]) (u v x y z q : Value) :
  Own ((((((w.setCell ⟨g, 0, none⟩ u).setCell ⟨g, 1, none⟩ v).setCell ⟨g, 2, none⟩ x).setCell ⟨g, 3, none⟩ y).setCell ⟨g, 4, none⟩ z).setCell ⟨g, 5, none⟩ q) g t [u, v, x, y, z, q] :=
 (((((h.set_ 0 u).set_ 1 v).set_ 2 x).set_ 3 y).set_ 4 z).set_ 5 q
theorem Below.set6 {B : Nat} {w w' : World} (h : Below B w w') {g : Nat} (hg : B <= g) (u v x y z q : Value) :
  Below B w ((((((w'.setCell ⟨g, 0, none⟩ u).setCell ⟨g, 1, none⟩ v).setCell ⟨g, 2, none⟩ x).setCell ⟨g, 3, none⟩ y).setCell ⟨g, 4, none⟩ z).setCell ⟨g, 5, none⟩ q) :=
 (((((h.setCell hg u).setCell hg v).setCell hg x).setCell hg y).setCell hg z).setCell hg q
theorem new4 (w : World) (c1 c2 c3 c4 : List Value) (t1 t2 t3 t4 : TypeId) :
  Own ((((w.alloc (.cells c1.toArray t1)).alloc (.cells c2.toArray t2)).alloc (.cells c3.toArray t3)).alloc (.cells c4.toArray t4)) w.heap.size t1 c1 /\ Own ((((w.alloc (.cells c1.toArray t1)).alloc (.cells c2.toArray t2)).alloc (.cells c3.toArray t3)).alloc (.cells c4.toArray t4)) (w.heap.size + 1) t2 c2 /\
  Own ((((w.alloc (.cells c1.toArray t1)).alloc (.cells c2.toArray t2)).alloc (.cells c3.toArray t3)).alloc (.cells c4.toArray t4)) (w.heap.size + 1 + 1) t3 c3 /\ Own ((((w.alloc (.cells c1.toArray t1)).alloc (.cells c2.toArray t2)).alloc (.cells c3.toArray t3)).alloc (.cells c4.toArray t4)) (w.heap.size + 1 + 1 + 1) t4 c4 /\
  Below w.heap.size w ((((w.alloc (.cells c1.toArray t1)).alloc (.cells c2.toArray t2)).alloc (.cells c3.toArray t3)).alloc (.cells c4.toArray t4)) := by
 obtain ⟨h1, h2, h3, h4⟩ := new3 w c1 c2 c3 t1 t2 t3; have hs : (((w.alloc (.cells c1.toArray t1)).alloc (.cells c2.toArray t2)).alloc (.cells c3.toArray t3)).heap.size = w.heap.size + 1 + 1 + 1 := by simp
 refine ⟨h1.alloc _, h2.alloc _, h3.alloc _, ?_, h4.alloc (by rw [hs]; omega) _⟩; have := Own.new (((w.alloc (.cells c1.toArray t1)).alloc (.cells c2.toArray t2)).alloc (.cells c3.toArray t3)) t4 c4; rw [hs] at this; exact this
open Go.RowKit Dg

open Go.RowKit Dg

def Tab (w : World) : Prop := Lib.TabIs Tryz.prog w "internal/strconv.uint64pow10" .u64 Lib.pow10Tab
theorem Tab.below {w w' : World} (h : Tab w) (hb : Below w.heap.size w w') : Tab w' := Lib.tabBelow_of_tabIs h w' hb
theorem tab_of_head {W : World} {rest : List (String × DataW Unit)} {d : DataW Unit} {ps : List MemPlace} {g : Nat} {t e : TypeId} {n : Nat} (hd : d = Lib.tabData .u64 Lib.pow10Tab)
  (hg : Tryz.prog.globalNamed "internal/strconv.uint64pow10" = some g) (hty : (Tryz.prog.globals[g]?).map (·.type) = some t) (ht : Tryz.prog.underlying t = some (.array n e)) (he : Tryz.prog.underlying e = some (.int .u64)) (hce : Tryz.prog.cellsOf e = 1) (hct : Tryz.prog.cellsOf t = n)
  (h : DataW.LaidVars Tryz.prog W (("internal/strconv.uint64pow10", d) :: rest) ps) : Tab W := by
 subst hd; obtain ⟨g', t', cs, fuel, p, q, hg', ht', hvar, hd, _, _⟩ := h; obtain rfl := Option.some.inj (hg.symm.trans hg'); obtain rfl := Option.some.inj (hty.symm.trans ht'); unfold Tab Lib.TabIs; rw [hvar, <- Lib.cells_of_tab ht he hce hct hd]
theorem decDigits_S (n : Nat) : (⟨(Lib.decDigits n).toArray⟩ : ByteArray) = S n := by
 apply ba_ext
 show Lib.decDigits n = (S n).data.toList
 induction n using Nat.strongRecOn with
 | _ n ih =>
  unfold Lib.decDigits
  by_cases h : n < 10
  ·rw [dif_pos h, S_list, dec_small h]; rfl
  ·rw [dif_neg h, ih (n / 10) (by omega), S_list, S_list, dec_step (n := n) (by omega), asc_append]; rfl
theorem itoa_S (n : Nat) : (⟨(Lib.itoa (n : Int)).toArray⟩ : ByteArray) = S n := by
 unfold Lib.itoa; rw [if_neg (by omega)]; exact decDigits_S n
theorem fromint_yes (k : Nat) (hk : k <= 9223372036854775807) (w : World) (ht : Tab w) : Calls Tryz.prog 97 #[.int .i64 (k : Int)] w fun e w' => e = .returned (.tuple #[.string (S k), .int .i64 0]) /\ Below w.heap.size w w' := by
 have HI : Hid (Calls Tryz.prog 118 #[.int .i64 (k : Int)] w fun e w' => e = .returned (.string (S k)) /\ Below w.heap.size w w') := (Tryz.strconv_Itoa (k : Int) (by omega) (by omega) w ht).mono fun e w' ⟨h1, j, os, h2⟩ => by
  rw [itoa_S] at h1; rw [h2]; exact ⟨h1, Lib.below_grow _ w (Nat.le_refl _) j os⟩
 have d1 : decide ((k : Int) < 0) = false := decide_eq_false (by omega); clear hk ht
 go_enter Tryz.func97, Tryz.ntmps97
 go_wp2_with fail
 refine HI.out.mono ?_; rintro e w1 ⟨rfl, hb⟩
 go_wp2
 go_ret2
 exact ⟨rfl, hb⟩
open Go.RowKit Dg

structure VC (a p q n : Nat) : Prop where
 n1 : 1 <= n
 n2 : n <= 2147483648
 pn : p <= n
 qn : q <= n
 ap : a <= p
 aq : a <= q
 pq : p + q <= a + n
theorem VC.all {a p q n : Nat} (h : VC a p q n) : 1 <= n /\ n <= 2147483648 /\ p <= n /\ q <= n /\ a <= p /\ a <= q /\ p + q <= a + n := ⟨h.n1, h.n2, h.pn, h.qn, h.ap, h.aq, h.pq⟩
abbrev CV (a p q n : Nat) : Value := .agg #[.int .i64 (a : Int), .int .i64 (p : Int), .int .i64 (q : Int), .int .i64 (n : Int)]
theorem mvalid_yes {a p q n : Nat} (hv : VC a p q n) : ∀ w, Calls Tryz.prog 17 #[.agg #[.int .i64 (a : Int), .int .i64 (p : Int), .int .i64 (q : Int), .int .i64 (n : Int)]] w fun e w' => e = .returned (.bool true) /\ Below w.heap.size w w' := by
 intro w; obtain ⟨o_c, hbw⟩ := new1 w [.int .i64 (a : Int), .int .i64 (p : Int), .int .i64 (q : Int), .int .i64 (n : Int)] 47
 go_enter Tryz.func17, Tryz.ntmps17
 go_upto_region 1 with (fail)
 generalize (w.alloc (.cells #[.int .i64 (a : Int), .int .i64 (p : Int), .int .i64 (q : Int), .int .i64 (n : Int)] 47)) = wb at o_c hbw |-; have t1 : decide ((1 : Int) <= (n : Int)) = true := decide_eq_true (by have := hv.n1; omega); have t2 : decide ((n : Int) <= 2147483648) = true := decide_eq_true (by have := hv.n2; omega); have t3 : decide ((p : Int) <= (n : Int)) = true := decide_eq_true (by have := hv.pn; omega); have t3' : decide (p <= n) = true := decide_eq_true hv.pn; have t4 : decide ((q : Int) <= (n : Int)) = true := decide_eq_true (by have := hv.qn; omega); have t4' : decide (q <= n) = true := decide_eq_true hv.qn; have z1 : IntKind.i64.wrap ((p : Int) + (q : Int)) = (p : Int) + (q : Int) := IntWalk.i64_in _ (by have := hv.all; omega); have z2 : IntKind.i64.wrap ((p : Int) + (q : Int) - (n : Int)) = (p : Int) + (q : Int) - (n : Int) := IntWalk.i64_in _ (by have := hv.all; omega); have t6 : decide ((p : Int) + (q : Int) - (n : Int) <= (a : Int)) = true := decide_eq_true (by have := hv.pq; omega)
 have h1 := hv.n1; have h1' := hv.n2; have h2 := hv.pn; have h3 := hv.qn; have h4 := hv.ap; have h5 := hv.aq; have h6 := hv.pq; clear hv; obtain ⟨qc_0, qc_1, qc_2, qc_3⟩ := o_c.cells4
 go_wp2
 go_ret
 exact ⟨ret_bool (by simp <;> omega), hbw⟩
def prodN : List Nat -> Nat
 | [] => 1
 | x :: l => x * prodN l
theorem prodN_append (l m : List Nat) : prodN (l ++ m) = prodN l * prodN m := by
 induction l with
 | nil => simp [prodN]
 | cons x l ih => rw [List.cons_append, prodN, prodN, ih, Nat.mul_assoc]
theorem prodN_take {l : List Nat} {k : Nat} (h : k < l.length) : prodN (l.take (k + 1)) = prodN (l.take k) * l[k] := by
 rw [List.take_succ_eq_append_getElem h, prodN_append]; simp [prodN]
def Smalls (l : List Nat) : Prop := l.length <= 6 /\ ∀ x ∈ l, x <= 4611686018427387904
theorem prod_lt : ∀ {l : List Nat}, (∀ x ∈ l, x <= 4611686018427387904) -> prodN l < 10 ^ (19 * l.length + 1)
 | [], _ => by decide
 | x :: l, h => by
  have ih := prod_lt (l := l) fun y hy => h y (List.mem_cons_of_mem _ hy); have hx := h x (List.mem_cons_self ..); have e : 19 * (x :: l).length + 1 = (19 * l.length + 1) + 19 := by simp; omega
  rw [prodN, e, Nat.pow_add (m := 19 * l.length + 1), Nat.mul_comm]; exact Nat.mul_lt_mul'' ih (by omega)
theorem Smalls.ok {l : List Nat} (h : Smalls l) (k : Nat) : (dec (prodN (l.take k))).length <= 115 := by
 have h1 := prod_lt (l := l.take k) fun x hx => h.2 x (List.mem_of_mem_take hx); have h2 : (l.take k).length <= 6 := by rw [List.length_take]; have := h.1; omega
 refine dec_len_le (by decide) (Nat.lt_of_lt_of_le h1 (Nat.pow_le_pow_right (by decide) (by omega)))
theorem Smalls.okn {l : List Nat} (h : Smalls l) (k : Nat) : OkN (prodN (l.take k)) := by
 have := h.ok k; unfold OkN; omega
theorem Smalls.all {l : List Nat} (h : Smalls l) : (dec (prodN l)).length <= 115 := by
 have := h.ok l.length
 rwa [List.take_length] at this
theorem product_any (A : Option Addr) (li : List Int) (l : List Nat) (c : Nat) (w : World) (hA : Ints w A li) (hli : li = l.map fun (x : Nat) => (x : Int)) (hc : li.length <= c) (hm : c <= maxLen) (hs : Smalls l) (ht : Tab w) :
  Calls Tryz.prog 79 #[.slice A li.length c] w fun e w' => e = .returned (.string (S (prodN l))) /\ Below w.heap.size w w' := by
 have hll : li.length = l.length := by rw [hli, List.length_map]
 have hl6 := hs.1; have HS := Lib.hid hs; have HA := Lib.hid hA; have HT := Lib.hid ht; have HLI := Lib.hid hli; obtain ⟨N, hN⟩ : ∃ N, li.length = N := ⟨_, rfl⟩; have n1 : N <= l.length := by omega
 have n2 : l.length <= N := by omega
 have HNN := Lib.hid hN; rw [hN] at hc |-; clear hll hN; unfold maxLen at hm; clear hs hA ht hli
 go_enter Tryz.func79, Tryz.ntmps79
 go_wp2_with fail
 go_loopg [3, 10] l.length (fun q v3 v10 wr => ∃ k : Nat, q = l.length - k /\ k <= l.length /\ v10 = .int .i64 (k : Int) /\ v3 = .string (S (prodN (l.take k))) /\ Below w.heap.size w wr)
 case atStart => exact ⟨0, rfl, Nat.zero_le _, rfl, by rw [List.take_zero]; exact congrArg Value.string okS_1.symm, Below.refl _ _⟩
 case round =>
  obtain ⟨k, hq, hk, rfl, rfl, hbw⟩ := hrel; have HQ := Lib.hid hq; clear hq
  by_cases hlt : k < l.length
  ·have hki : k < li.length := by have := HNN.out; omega
   have hkN : k < N := by omega
   obtain ⟨b, off, hAe, hcell⟩ := (Ints.below HA.out hbw).get hki; have hx : li[k] = ((l[k] : Nat) : Int) := by
    have := HLI.out; subst this
    simp
   rw [hx] at hcell; have HX : Hid (l[k] <= 4611686018427387904) := HS.out.2 _ (List.getElem_mem hlt); have HPT : Hid (prodN (l.take (k + 1)) = prodN (l.take k) * l[k]) := prodN_take hlt; have HO1 := Lib.hid (HS.out.okn k); have HO2 := Lib.hid (HS.out.okn (k + 1)); have HO3 : Hid (OkN l[k]) := by
    show OkN _
    have : (dec l[k]).length <= 20 := dec_len_le (by decide) (by have := HX.out; omega); unfold OkN; omega
   have TW := Lib.hid (HT.out.below hbw); clear hx; generalize l[k] = x at *; subst hAe; generalize prodN (l.take k) = P at *
   go_wp2_with fail
   refine (fromint_yes x (by have := HX.out; omega) _ TW.out).mono ?_; rintro e w1 ⟨rfl, hb1⟩; replace hbw := below6 hbw hb1; clear hb1 hcell
   go_wp2_with fail
   refine (natmul_yes P x _ HO1.out HO3.out).mono ?_; rintro e w2 ⟨htx, hb2⟩; have he := htx.ok (by rw [<- HPT.out]; exact HO2.out); rw [<- HPT.out] at he; subst he; replace hbw := below6 hbw hb2; clear htx hb2
   go_wp2_with fail
   go_roundg (l.length - (k + 1))
   case measure => have := HQ.out; omega
   case rel => exact ⟨k + 1, rfl, by omega, by go_num, rfl, hbw⟩
  ·have hkk : l.take k = l := List.take_of_length_le (by omega); rw [hkk]
   go_wp2
   go_ret
   exact ⟨rfl, hbw⟩
def QRes (P Q : Nat) (e : Ending) : Prop := (Q = 0 /\ e = .returned (.tuple #[Rat0, .int .i64 25])) \/ (0 < Q /\ RatRes (rat false P Q) e)
theorem qres_one (P Q : Nat) : ∃ n s t k, (∀ e, QRes P Q e -> e = .returned (.tuple #[.agg #[.bool n, .string s, .string t], .int .i64 k])) /\ QRes P Q (.returned (.tuple #[.agg #[.bool n, .string s, .string t], .int .i64 k])) := by
 rcases Nat.eq_zero_or_pos Q with h | h
 ·refine ⟨_, _, _, _, ?_, .inl ⟨h, rfl⟩⟩; rintro e (⟨_, h2⟩ | ⟨h2, _⟩)
  ·exact h2
  ·omega
 ·obtain ⟨n, s, t, k, h1, h2⟩ := ratRes_one (rat false P Q); refine ⟨n, s, t, k, ?_, .inr ⟨h, h2⟩⟩; rintro e (⟨h3, _⟩ | ⟨_, h3⟩)
  ·omega
  ·exact h1 e h3
theorem of_any' (P Q : Nat) (h1 : OkN P) (h2 : OkN Q) (w : World) : Calls Tryz.prog 78 #[.bool false, .string (S P), .string (S Q)] w fun e w' => QRes P Q e /\ Below w.heap.size w w' := by
 rcases Nat.eq_zero_or_pos Q with rfl | h
 ·exact (of_zero false P h1 w).mono fun e w' ⟨a, b⟩ => ⟨.inl ⟨rfl, a⟩, b⟩
 ·exact (of_core false P Q h1 h2 h w).mono fun e w' ⟨a, b⟩ => ⟨.inr ⟨h, a⟩, b⟩
theorem quot_any {a p q n : Nat} (hv : VC a p q n) (B1 : Option Addr) (l1 : List Int) (m1 : List Nat) (c1 : Nat) (B2 : Option Addr) (l2 : List Int) (m2 : List Nat) (c2 : Nat) (w : World) (hA1 : Ints w B1 l1) (he1 : l1 = m1.map fun (x : Nat) => (x : Int)) (hc1 : l1.length <= c1) (hm1 : c1 <= maxLen) (hs1 : Smalls m1)
  (hA2 : Ints w B2 l2) (he2 : l2 = m2.map fun (x : Nat) => (x : Int)) (hc2 : l2.length <= c2) (hm2 : c2 <= maxLen) (hs2 : Smalls m2) (ht : Tab w) :
  Calls Tryz.prog 62 #[.agg #[.int .i64 (a : Int), .int .i64 (p : Int), .int .i64 (q : Int), .int .i64 (n : Int)], .slice B1 l1.length c1, .slice B2 l2.length c2] w fun e w' => QRes (prodN m1) (prodN m2) e /\ Below w.heap.size w w' := by
 have HV := Lib.hid (mvalid_yes hv); have A1 := Lib.hid hA1; have A2 := Lib.hid hA2; have e1 := Lib.hid he1; have e2 := Lib.hid he2; have S1 := Lib.hid hs1; have S2 := Lib.hid hs2; have T0 := Lib.hid ht; have HO := Lib.hid (fun w => of_any' (prodN m1) (prodN m2) (by have := hs1.all; unfold OkN; omega) (by have := hs2.all; unfold OkN; omega) w); obtain ⟨nz, sz, tz, kz, hend, hres⟩ := qres_one (prodN m1) (prodN m2); have HEND := Lib.hid hend; have HRES := Lib.hid hres; clear hv hA1 hA2 he1 he2 hs1 hs2 ht hend hres; obtain ⟨o_c, o_r, hbw⟩ := new2 w [.int .i64 (a : Int), .int .i64 (p : Int), .int .i64 (q : Int), .int .i64 (n : Int)] [.bool false, .string ⟨#[]⟩, .string ⟨#[]⟩] 47 73
 go_enter Tryz.func62, Tryz.ntmps62
 go_upto_region 1 with (fail)
 generalize ((w.alloc (.cells #[.int .i64 (a : Int), .int .i64 (p : Int), .int .i64 (q : Int), .int .i64 (n : Int)] 47)).alloc (.cells #[.bool false, .string ⟨#[]⟩, .string ⟨#[]⟩] 73)) = wb at o_c o_r hbw |-; obtain ⟨qc_0, qc_1, qc_2, qc_3⟩ := o_c.cells4
 go_wp2_with fail
 clear qc_0 qc_1 qc_2 qc_3; refine (HV.out _).mono ?_; rintro e w1 ⟨rfl, hb1⟩; replace o_c := o_c.below hb1 o_c.lt; replace o_r := o_r.below hb1 o_r.lt; replace hbw := below6 hbw hb1; clear hb1
 go_wp2_with fail
 refine (product_any _ l1 m1 _ _ (Ints.below A1.out hbw) e1.out hc1 hm1 S1.out (T0.out.below hbw)).mono ?_; rintro e w7 ⟨rfl, hb7⟩; replace o_c := o_c.below hb7 o_c.lt; replace o_r := o_r.below hb7 o_r.lt; replace hbw := below6 hbw hb7; clear hb7
 go_wp2_with fail
 refine (product_any _ l2 m2 _ _ (Ints.below A2.out hbw) e2.out hc2 hm2 S2.out (T0.out.below hbw)).mono ?_; rintro e w8 ⟨rfl, hb8⟩; replace o_c := o_c.below hb8 o_c.lt; replace o_r := o_r.below hb8 o_r.lt; replace hbw := below6 hbw hb8; clear hb8
 go_wp2_with fail
 refine (HO.out _).mono ?_; rintro e w9 ⟨hq, hb9⟩; have he := HEND.out _ hq; subst he; replace o_c := o_c.below hb9 o_c.lt; replace o_r := o_r.below hb9 o_r.lt; replace hbw := below6 hbw hb9; clear hb9 hq; obtain ⟨qr_0, qr_1, qr_2⟩ := o_r.cells3; obtain ⟨fr_0, fr_1, fr_2⟩ := o_r.frozens3; have oz := o_r.set3 (.bool nz) (.string sz) (.string tz); have sz9 := Below.set3 hbw (g := w.heap.size + 1) (by omega) (.bool nz) (.string sz) (.string tz)
 go_wp2_with fail
 generalize (((w9.setCell ⟨w.heap.size + 1, 0, none⟩ (.bool nz)).setCell ⟨w.heap.size + 1, 1, none⟩ (.string sz)).setCell ⟨w.heap.size + 1, 2, none⟩ (.string tz)) = wz at oz sz9 |-; obtain ⟨z0, z1, z2⟩ := oz.cells3; exact bodyPost_ret (v := .tuple #[.agg #[.bool nz, .string sz, .string tz], .int .i64 kz]) (by simp [results, Tryz.results62, go_sem, z0, z1, z2]) rfl ⟨HRES.out, sz9⟩
end Go.Proofs.YtjimfbmegmnocaaGreatDoor
