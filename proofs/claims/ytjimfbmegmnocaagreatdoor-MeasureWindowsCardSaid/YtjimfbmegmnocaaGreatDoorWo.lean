/- Parts of the proof: Ms, Wo. No condition of its own. -/
import Derived.Test.YtjimfbmegmnocaaGreatDoorOq
import Derived.Test.YtjimfbmegmnocaaGreatDoorIt
import Derived.Test.YtjimfbmegmnocaaGreatDoorWd
set_option linter.unusedSimpArgs false
set_option linter.unusedVariables false
set_option maxRecDepth 100000
set_option maxHeartbeats 4000000
namespace Go.Proofs.YtjimfbmegmnocaaGreatDoor
open Go.RowKit Dg

structure VC (a p q n : Nat) : Prop where
 n1 : 1 <= n
 n2 : n <= 2147483648
 pn : p <= n
 qn : q <= n
 ap : a <= p
 aq : a <= q
 pq : p + q <= a + n
theorem VC.all {a p q n : Nat} (h : VC a p q n) : 1 <= n /\ n <= 2147483648 /\ p <= n /\ q <= n /\ a <= p /\ a <= q /\ p + q <= a + n := ⟨h.n1, h.n2, h.pn, h.qn, h.ap, h.aq, h.pq⟩
abbrev CV (a p q n : Nat) : Value := .agg #[.int .i64 (a : Int), .int .i64 (p : Int), .int .i64 (q : Int), .int .i64 (n : Int)]
theorem mvalid_yes {a p q n : Nat} (hv : VC a p q n) : ∀ w, Calls Tryz.prog 17 #[.agg #[.int .i64 (a : Int), .int .i64 (p : Int), .int .i64 (q : Int), .int .i64 (n : Int)]] w fun e w' => e = .returned (.bool true) /\ Below w.heap.size w w' := by
 intro w; obtain ⟨o_c, hbw⟩ := new1 w [.int .i64 (a : Int), .int .i64 (p : Int), .int .i64 (q : Int), .int .i64 (n : Int)] 47
 go_enter Tryz.func17, Tryz.ntmps17
 go_upto_region 1 with (fail)
 generalize (w.alloc (.cells #[.int .i64 (a : Int), .int .i64 (p : Int), .int .i64 (q : Int), .int .i64 (n : Int)] 47)) = wb at o_c hbw |-; have t1 : decide ((1 : Int) <= (n : Int)) = true := decide_eq_true (by have := hv.n1; omega); have t2 : decide ((n : Int) <= 2147483648) = true := decide_eq_true (by have := hv.n2; omega); have t3 : decide ((p : Int) <= (n : Int)) = true := decide_eq_true (by have := hv.pn; omega); have t3' : decide (p <= n) = true := decide_eq_true hv.pn; have t4 : decide ((q : Int) <= (n : Int)) = true := decide_eq_true (by have := hv.qn; omega); have t4' : decide (q <= n) = true := decide_eq_true hv.qn; have z1 : IntKind.i64.wrap ((p : Int) + (q : Int)) = (p : Int) + (q : Int) := IntWalk.i64_in _ (by have := hv.all; omega); have z2 : IntKind.i64.wrap ((p : Int) + (q : Int) - (n : Int)) = (p : Int) + (q : Int) - (n : Int) := IntWalk.i64_in _ (by have := hv.all; omega); have t6 : decide ((p : Int) + (q : Int) - (n : Int) <= (a : Int)) = true := decide_eq_true (by have := hv.pq; omega)
 have h1 := hv.n1; have h1' := hv.n2; have h2 := hv.pn; have h3 := hv.qn; have h4 := hv.ap; have h5 := hv.aq; have h6 := hv.pq; clear hv; obtain ⟨qc_0, qc_1, qc_2, qc_3⟩ := o_c.cells4
 go_wp2
 go_ret
 exact ⟨ret_bool (by simp <;> omega), hbw⟩
def prodN : List Nat -> Nat
 | [] => 1
 | x :: l => x * prodN l
theorem prodN_append (l m : List Nat) : prodN (l ++ m) = prodN l * prodN m := by
 induction l with
 | nil => simp [prodN]
 | cons x l ih => rw [List.cons_append, prodN, prodN, ih, Nat.mul_assoc]
theorem prodN_take {l : List Nat} {k : Nat} (h : k < l.length) : prodN (l.take (k + 1)) = prodN (l.take k) * l[k] := by
 rw [List.take_succ_eq_append_getElem h, prodN_append]; simp [prodN]
def Smalls (l : List Nat) : Prop := l.length <= 6 /\ ∀ x ∈ l, x <= 4611686018427387904
theorem prod_lt : ∀ {l : List Nat}, (∀ x ∈ l, x <= 4611686018427387904) -> prodN l < 10 ^ (19 * l.length + 1)
 | [], _ => by decide
 | x :: l, h => by
  have ih := prod_lt (l := l) fun y hy => h y (List.mem_cons_of_mem _ hy); have hx := h x (List.mem_cons_self ..); have e : 19 * (x :: l).length + 1 = (19 * l.length + 1) + 19 := by simp; omega
  rw [prodN, e, Nat.pow_add (m := 19 * l.length + 1), Nat.mul_comm]; exact Nat.mul_lt_mul'' ih (by omega)
theorem Smalls.ok {l : List Nat} (h : Smalls l) (k : Nat) : (dec (prodN (l.take k))).length <= 115 := by
 have h1 := prod_lt (l := l.take k) fun x hx => h.2 x (List.mem_of_mem_take hx); have h2 : (l.take k).length <= 6 := by rw [List.length_take]; have := h.1; omega
 refine dec_len_le (by decide) (Nat.lt_of_lt_of_le h1 (Nat.pow_le_pow_right (by decide) (by omega)))
theorem Smalls.okn {l : List Nat} (h : Smalls l) (k : Nat) : OkN (prodN (l.take k)) := by
 have := h.ok k; unfold OkN; omega
theorem Smalls.all {l : List Nat} (h : Smalls l) : (dec (prodN l)).length <= 115 := by
 have := h.ok l.length
 rwa [List.take_length] at this
theorem product_any (A : Option Addr) (li : List Int) (l : List Nat) (c : Nat) (w : World) (hA : Ints w A li) (hli : li = l.map fun (x : Nat) => (x : Int)) (hc : li.length <= c) (hm : c <= maxLen) (hs : Smalls l) (ht : Tab w) :
  Calls Tryz.prog 79 #[.slice A li.length c] w fun e w' => e = .returned (.string (S (prodN l))) /\ Below w.heap.size w w' := by
 have hll : li.length = l.length := by rw [hli, List.length_map]
 have hl6 := hs.1; have HS := Lib.hid hs; have HA := Lib.hid hA; have HT := Lib.hid ht; have HLI := Lib.hid hli; obtain ⟨N, hN⟩ : ∃ N, li.length = N := ⟨_, rfl⟩; have n1 : N <= l.length := by omega
 have n2 : l.length <= N := by omega
 have HNN := Lib.hid hN; rw [hN] at hc |-; clear hll hN; unfold maxLen at hm; clear hs hA ht hli
 go_enter Tryz.func79, Tryz.ntmps79
 go_wp2_with fail
 go_loopg [3, 10] l.length (fun q v3 v10 wr => ∃ k : Nat, q = l.length - k /\ k <= l.length /\ v10 = .int .i64 (k : Int) /\ v3 = .string (S (prodN (l.take k))) /\ Below w.heap.size w wr)
 case atStart => exact ⟨0, rfl, Nat.zero_le _, rfl, by rw [List.take_zero]; exact congrArg Value.string okS_1.symm, Below.refl _ _⟩
 case round =>
  obtain ⟨k, hq, hk, rfl, rfl, hbw⟩ := hrel; have HQ := Lib.hid hq; clear hq
  by_cases hlt : k < l.length
  ·have hki : k < li.length := by have := HNN.out; omega
   have hkN : k < N := by omega
   obtain ⟨b, off, hAe, hcell⟩ := (Ints.below HA.out hbw).get hki; have hx : li[k] = ((l[k] : Nat) : Int) := by
    have := HLI.out; subst this
    simp
   rw [hx] at hcell; have HX : Hid (l[k] <= 4611686018427387904) := HS.out.2 _ (List.getElem_mem hlt); have HPT : Hid (prodN (l.take (k + 1)) = prodN (l.take k) * l[k]) := prodN_take hlt; have HO1 := Lib.hid (HS.out.okn k); have HO2 := Lib.hid (HS.out.okn (k + 1)); have HO3 : Hid (OkN l[k]) := by
    show OkN _
    have : (dec l[k]).length <= 20 := dec_len_le (by decide) (by have := HX.out; omega); unfold OkN; omega
   have TW := Lib.hid (HT.out.below hbw); clear hx; generalize l[k] = x at *; subst hAe; generalize prodN (l.take k) = P at *
   go_wp2_with fail
   refine (fromint_yes x (by have := HX.out; omega) _ TW.out).mono ?_; rintro e w1 ⟨rfl, hb1⟩; replace hbw := below6 hbw hb1; clear hb1 hcell
   go_wp2_with fail
   refine (natmul_yes P x _ HO1.out HO3.out).mono ?_; rintro e w2 ⟨htx, hb2⟩; have he := htx.ok (by rw [<- HPT.out]; exact HO2.out); rw [<- HPT.out] at he; subst he; replace hbw := below6 hbw hb2; clear htx hb2
   go_wp2_with fail
   go_roundg (l.length - (k + 1))
   case measure => have := HQ.out; omega
   case rel => exact ⟨k + 1, rfl, by omega, by go_num, rfl, hbw⟩
  ·have hkk : l.take k = l := List.take_of_length_le (by omega); rw [hkk]
   go_wp2
   go_ret
   exact ⟨rfl, hbw⟩
def QRes (P Q : Nat) (e : Ending) : Prop := (Q = 0 /\ e = .returned (.tuple #[Rat0, .int .i64 25])) \/ (0 < Q /\ RatRes (rat false P Q) e)
theorem qres_one (P Q : Nat) : ∃ n s t k, (∀ e, QRes P Q e -> e = .returned (.tuple #[.agg #[.bool n, .string s, .string t], .int .i64 k])) /\ QRes P Q (.returned (.tuple #[.agg #[.bool n, .string s, .string t], .int .i64 k])) := by
 rcases Nat.eq_zero_or_pos Q with h | h
 ·refine ⟨_, _, _, _, ?_, .inl ⟨h, rfl⟩⟩; rintro e (⟨_, h2⟩ | ⟨h2, _⟩)
  ·exact h2
  ·omega
 ·obtain ⟨n, s, t, k, h1, h2⟩ := ratRes_one (rat false P Q); refine ⟨n, s, t, k, ?_, .inr ⟨h, h2⟩⟩; rintro e (⟨h3, _⟩ | ⟨_, h3⟩)
  ·omega
  ·exact h1 e h3
theorem of_any' (P Q : Nat) (h1 : OkN P) (h2 : OkN Q) (w : World) : Calls Tryz.prog 78 #[.bool false, .string (S P), .string (S Q)] w fun e w' => QRes P Q e /\ Below w.heap.size w w' := by
 rcases Nat.eq_zero_or_pos Q with rfl | h
 ·exact (of_zero false P h1 w).mono fun e w' ⟨a, b⟩ => ⟨.inl ⟨rfl, a⟩, b⟩
 ·exact (of_core false P Q h1 h2 h w).mono fun e w' ⟨a, b⟩ => ⟨.inr ⟨h, a⟩, b⟩
theorem quot_any {a p q n : Nat} (hv : VC a p q n) (B1 : Option Addr) (l1 : List Int) (m1 : List Nat) (c1 : Nat) (B2 : Option Addr) (l2 : List Int) (m2 : List Nat) (c2 : Nat) (w : World) (hA1 : Ints w B1 l1) (he1 : l1 = m1.map fun (x : Nat) => (x : Int)) (hc1 : l1.length <= c1) (hm1 : c1 <= maxLen) (hs1 : Smalls m1)
  (hA2 : Ints w B2 l2) (he2 : l2 = m2.map fun (x : Nat) => (x : Int)) (hc2 : l2.length <= c2) (hm2 : c2 <= maxLen) (hs2 : Smalls m2) (ht : Tab w) :
  Calls Tryz.prog 62 #[.agg #[.int .i64 (a : Int), .int .i64 (p : Int), .int .i64 (q : Int), .int .i64 (n : Int)], .slice B1 l1.length c1, .slice B2 l2.length c2] w fun e w' => QRes (prodN m1) (prodN m2) e /\ Below w.heap.size w w' := by
 have HV := Lib.hid (mvalid_yes hv); have A1 := Lib.hid hA1; have A2 := Lib.hid hA2; have e1 := Lib.hid he1; have e2 := Lib.hid he2; have S1 := Lib.hid hs1; have S2 := Lib.hid hs2; have T0 := Lib.hid ht; have HO := Lib.hid (fun w => of_any' (prodN m1) (prodN m2) (by have := hs1.all; unfold OkN; omega) (by have := hs2.all; unfold OkN; omega) w); obtain ⟨nz, sz, tz, kz, hend, hres⟩ := qres_one (prodN m1) (prodN m2); have HEND := Lib.hid hend; have HRES := Lib.hid hres; clear hv hA1 hA2 he1 he2 hs1 hs2 ht hend hres; obtain ⟨o_c, o_r, hbw⟩ := new2 w [.int .i64 (a : Int), .int .i64 (p : Int), .int .i64 (q : Int), .int .i64 (n : Int)] [.bool false, .string ⟨#[]⟩, .string ⟨#[]⟩] 47 73
 go_enter Tryz.func62, Tryz.ntmps62
 go_upto_region 1 with (fail)
 generalize ((w.alloc (.cells #[.int .i64 (a : Int), .int .i64 (p : Int), .int .i64 (q : Int), .int .i64 (n : Int)] 47)).alloc (.cells #[.bool false, .string ⟨#[]⟩, .string ⟨#[]⟩] 73)) = wb at o_c o_r hbw |-; obtain ⟨qc_0, qc_1, qc_2, qc_3⟩ := o_c.cells4
 go_wp2_with fail
 clear qc_0 qc_1 qc_2 qc_3; refine (HV.out _).mono ?_; rintro e w1 ⟨rfl, hb1⟩; replace o_c := o_c.below hb1 o_c.lt; replace o_r := o_r.below hb1 o_r.lt; replace hbw := below6 hbw hb1; clear hb1
 go_wp2_with fail
 refine (product_any _ l1 m1 _ _ (Ints.below A1.out hbw) e1.out hc1 hm1 S1.out (T0.out.below hbw)).mono ?_; rintro e w7 ⟨rfl, hb7⟩; replace o_c := o_c.below hb7 o_c.lt; replace o_r := o_r.below hb7 o_r.lt; replace hbw := below6 hbw hb7; clear hb7
 go_wp2_with fail
 refine (product_any _ l2 m2 _ _ (Ints.below A2.out hbw) e2.out hc2 hm2 S2.out (T0.out.below hbw)).mono ?_; rintro e w8 ⟨rfl, hb8⟩; replace o_c := o_c.below hb8 o_c.lt; replace o_r := o_r.below hb8 o_r.lt; replace hbw := below6 hbw hb8; clear hb8
 go_wp2_with fail
 refine (HO.out _).mono ?_; rintro e w9 ⟨hq, hb9⟩; have he := HEND.out _ hq; subst he; replace o_c := o_c.below hb9 o_c.lt; replace o_r := o_r.below hb9 o_r.lt; replace hbw := below6 hbw hb9; clear hb9 hq; obtain ⟨qr_0, qr_1, qr_2⟩ := o_r.cells3; obtain ⟨fr_0, fr_1, fr_2⟩ := o_r.frozens3; have oz := o_r.set3 (.bool nz) (.string sz) (.string tz); have sz9 := Below.set3 hbw (g := w.heap.size + 1) (by omega) (.bool nz) (.string sz) (.string tz)
 go_wp2_with fail
 generalize (((w9.setCell ⟨w.heap.size + 1, 0, none⟩ (.bool nz)).setCell ⟨w.heap.size + 1, 1, none⟩ (.string sz)).setCell ⟨w.heap.size + 1, 2, none⟩ (.string tz)) = wz at oz sz9 |-; obtain ⟨z0, z1, z2⟩ := oz.cells3; exact bodyPost_ret (v := .tuple #[.agg #[.bool nz, .string sz, .string tz], .int .i64 kz]) (by simp [results, Tryz.results62, go_sem, z0, z1, z2]) rfl ⟨HRES.out, sz9⟩
open Go.RowKit

theorem selN_len (ws : List ByteArray) (bl : List Bool) : ∀ i, i <= bl.length -> (selN ws bl i).length = (bl.take i).count true := by
 intro i
 induction i with
 | zero => intro _; simp [selN]
 | succ i ih =>
  intro h; have h1 : i < bl.length := h; rw [selN, List.length_append, ih (by omega), List.take_add_one, List.count_append, List.getElem?_eq_getElem h1]
  cases bl[i] <;> simp
theorem sel_cells (ws : List ByteArray) (bl : List Bool) (s : ByteArray) : ∀ i, i <= bl.length -> i <= ws.length -> cn (selN ws bl i) s <= (bl.take i).count true /\ cn (selN ws bl i) s <= cn (ws.take i) s /\ (bl.take i).count true + cn (ws.take i) s <= cn (selN ws bl i) s + i := by
 intro i
 induction i with
 | zero => intro _ _; simp [selN, cn]
 | succ i ih =>
  intro h h'; have h1 : i < bl.length := h; have h2 : i < ws.length := h'; obtain ⟨a1, a2, a3⟩ := ih (by omega) (by omega); have e1 : cn (ws.take (i + 1)) s = cn (ws.take i) s + if ws[i] = s then 1 else 0 := by
   rw [List.take_add_one, List.getElem?_eq_getElem h2]; exact cn_add _ _ _
  have e2 : (bl.take (i + 1)).count true = (bl.take i).count true + if bl[i] = true then 1 else 0 := by
   rw [List.take_add_one, List.getElem?_eq_getElem h1, List.count_append]
   cases bl[i] <;> simp
  have e3 : cn (selN ws bl (i + 1)) s = cn (selN ws bl i) s + if bl[i] = true /\ ws[i] = s then 1 else 0 := by
   rw [selN, List.getElem?_eq_getElem h1, List.getElem?_eq_getElem h2]
   cases bl[i] with
   | false => simp
   | true => show cn (selN ws bl i ++ [ws[i]]) s = _; rw [cn_add]; simp
  rw [e1, e2, e3]
  by_cases x : bl[i] = true <;> by_cases y : ws[i] = s <;> simp only [x, y, and_self, and_true, and_false, false_and, true_and, if_true, if_false] <;> (try simp only [if_pos, if_neg]) <;> (try simp) <;> omega
def Sub9 (bl bm : List Bool) : Prop := bl.length = bm.length /\ ∀ i : Nat, bl[i]? = some true -> bm[i]? = some true
theorem sel_mono {bl bm : List Bool} (h : Sub9 bl bm) (ws : List ByteArray) (s : ByteArray) : ∀ i, i <= bl.length -> i <= ws.length -> cn (selN ws bl i) s <= cn (selN ws bm i) s := by
 intro i
 induction i with
 | zero => intro _ _; simp [selN, cn]
 | succ i ih =>
  intro h1 h2; have a := ih (by omega) (by omega); have hb : i < bl.length := h1; have hm : i < bm.length := by rw [<- h.1]; exact hb
  have hw : i < ws.length := h2; have hi := h.2 i; rw [List.getElem?_eq_getElem hb, List.getElem?_eq_getElem hm] at hi; rw [selN, selN, List.getElem?_eq_getElem hb, List.getElem?_eq_getElem hm, List.getElem?_eq_getElem hw]
  cases hx : bl[i] with
  | false =>
   cases bm[i] with
   | false => simpa using a
   | true =>
    show cn (selN ws bl i ++ []) s <= cn (selN ws bm i ++ [ws[i]]) s
    rw [cn_add, List.append_nil]; omega
  | true =>
   rw [hx] at hi; have hy : bm[i] = true := Option.some.inj (hi rfl); rw [hy]
   show cn (selN ws bl i ++ [ws[i]]) s <= cn (selN ws bm i ++ [ws[i]]) s
   rw [cn_add, cn_add]; omega
theorem near_sub (C : Cor) (W : Int) : ∀ (L : List (Int × Int)) {bl bm : List Bool}, Sub9 bl bm -> Sub9 (L.foldl (nearStep C W) bl) (L.foldl (nearStep C (W + 1)) bm) := by
 intro L
 induction L with
 | nil => intro bl bm h; exact h
 | cons q r ih =>
  intro bl bm h; rw [List.foldl_cons, List.foldl_cons]; refine ih ⟨by rw [nearStep_len, nearStep_len]; exact h.1, fun i => ?_⟩; unfold nearStep
  cases txtOf C q with
  | none => exact h.2 i
  | some t =>
   show (mk9 bl _)[i]? = _ -> (mk9 bm _)[i]? = _
   rw [mk9_get, mk9_get]; intro hh; obtain ⟨b, hb, hp⟩ := Option.map_eq_some_iff.1 hh; have hi : i < bm.length := by
    rw [<- h.1]
    rcases Nat.lt_or_ge i bl.length with hl | hl
    ·exact hl
    ·rw [List.getElem?_eq_none hl] at hb; cases hb
   rw [List.getElem?_eq_getElem hi]
   show some (bm[i] || hitB t (W + 1) q i) = _
   congr 1
   cases b with
   | true =>
    have := h.2 i hb; rw [List.getElem?_eq_getElem hi] at this; rw [Option.some.inj this]; rfl
   | false =>
    rw [Bool.false_or] at hp; rw [show hitB t (W + 1) q i = true from ?_, Bool.or_true]
    simp only [hitB, Bool.or_eq_true, Bool.and_eq_true, decide_eq_true_eq] at hp |-
    omega
theorem near_grows (C : Cor) (W : Int) (L : List (Int × Int)) : Sub9 (nearL C W L) (nearL C (W + 1) L) := near_sub C W L ⟨rfl, fun _ h => h⟩
def sumC (l : List ByteArray) (W : List ByteArray) : Nat := (l.map (cn W)).sum
open Classical in
theorem sum_ones (t : ByteArray) : ∀ {l : List ByteArray}, l.Nodup -> (l.map fun s => if t = s then 1 else 0).sum = if t ∈ l then 1 else 0 := by
 intro l
 induction l with
 | nil => intro _; simp
 | cons s r ih =>
  intro h; rw [List.nodup_cons] at h; rw [List.map_cons, List.sum_cons, ih h.2]
  by_cases e : t = s
  ·subst e; simp [h.1]
  ·simp [e]
open Classical in
theorem sumC_eq {l : List ByteArray} (hl : l.Nodup) : ∀ W : List ByteArray, sumC l W = W.countP fun t => decide (t ∈ l) := by
 intro W
 induction W with
 | nil => show (l.map (cn [])).sum = 0; rw [show (l.map (cn [])) = l.map fun _ => 0 from rfl]; clear hl; induction l with | nil => rfl | cons s r ih => rw [List.map_cons, List.sum_cons, ih]
 | cons t W ih =>
  have e : ∀ s, cn (t :: W) s = cn W s + if t = s then 1 else 0 := fun s => by
   unfold cn; rw [List.countP_cons]
   by_cases h : t = s <;> simp [h]
  have e2 : sumC l (t :: W) = sumC l W + (l.map fun s => if t = s then 1 else 0).sum := by
   unfold sumC; rw [show l.map (cn (t :: W)) = l.map fun s => cn W s + (if t = s then 1 else 0) from List.map_congr_left fun s _ => e s]; clear hl ih
   induction l with
   | nil => rfl
   | cons s r ih => rw [List.map_cons, List.sum_cons, List.map_cons, List.sum_cons, List.map_cons, List.sum_cons, ih]; omega
  rw [e2, ih, sum_ones t hl, List.countP_cons]
  by_cases h : t ∈ l <;> simp [h]
open Classical in
theorem sumC_le {l : List ByteArray} (hl : l.Nodup) (W : List ByteArray) : sumC l W <= W.length := by rw [sumC_eq hl]; exact List.countP_le_length
open Classical in
theorem sumC_all {l : List ByteArray} (hl : l.Nodup) {W : List ByteArray} (h : ∀ s, s ∈ l ↔ s ∈ W) : sumC l W = W.length := by
 rw [sumC_eq hl, List.countP_eq_length]; intro t ht; exact decide_eq_true ((h t).2 ht)
theorem sumC_step {l W : List ByteArray} {i : Nat} (hi : i < l.length) : sumC (l.take (i + 1)) W = sumC (l.take i) W + cn W l[i] := by
 unfold sumC; rw [List.take_add_one, List.getElem?_eq_getElem hi, List.map_append, List.sum_append]
 show _ + ([cn W l[i]]).sum = _
 simp only [List.sum_cons, List.sum_nil, Nat.add_zero]
theorem spanIn_txt {C : Cor} (hF : ChainT 0 C.texts C.toks.length) {q : Int × Int} (h : SpanIn C q) : txtOf C q ≠ none := by
 obtain ⟨t, ht, h1, h2, h3⟩ := h; intro hn; have := List.find?_eq_none.1 hn t ht; have hr := (hF.range.2 t ht).1
 simp only [inP, Bool.and_eq_true, decide_eq_true_eq, not_and] at this
 exact this hr h1 h2 h3
theorem ResC.ok9 {C : Cor} {L : List (Int × Int)} {W a : Int} {B : Nat} {w : World} {e : Ending} (h : ResC C L W a B w e) (h1 : ¬ (a < 0 \/ (C.attrs.length : Int) <= a \/ W < 1 \/ 50 < W)) (h2 : ∀ q ∈ L, txtOf C q ≠ none) :
  ∃ v l, e = .returned (.tuple #[v, .int .i64 0]) /\ EO (fun k => k < B) w 5 (fun s e => e = colC C a.toNat (nearL C W L) s) v l /\ Srt (ltC (cn (nearW C a.toNat (nearL C W L)))) l /\ ∀ s, s ∈ l ↔ s ∈ nearW C a.toNat (nearL C W L) := by
 cases h with
 | arg h => exact absurd h h1
 | range h h3 => obtain ⟨q, hq, hn⟩ := h3; exact absurd hn (h2 q hq)
 | ok h h3 v l hv hs hm => exact ⟨v, l, rfl, hv, hs, hm⟩
end Go.Proofs.YtjimfbmegmnocaaGreatDoor
