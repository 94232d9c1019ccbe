/- Parts of the proof: Ms, Mt. No condition of its own. -/
import Derived.Test.YtjimfbmegmnocaaGreatDoorIt
set_option linter.unusedSimpArgs false
set_option linter.unusedVariables false
set_option maxRecDepth 100000
set_option maxHeartbeats 4000000
namespace Go.Proofs.YtjimfbmegmnocaaGreatDoor
open Go.RowKit Dg

structure VC (a p q n : Nat) : Prop where
 n1 : 1 <= n
 n2 : n <= 2147483648
 pn : p <= n
 qn : q <= n
 ap : a <= p
 aq : a <= q
 pq : p + q <= a + n
theorem VC.all {a p q n : Nat} (h : VC a p q n) : 1 <= n /\ n <= 2147483648 /\ p <= n /\ q <= n /\ a <= p /\ a <= q /\ p + q <= a + n := ⟨h.n1, h.n2, h.pn, h.qn, h.ap, h.aq, h.pq⟩
abbrev CV (a p q n : Nat) : Value := .agg #[.int .i64 (a : Int), .int .i64 (p : Int), .int .i64 (q : Int), .int .i64 (n : Int)]
theorem mvalid_yes {a p q n : Nat} (hv : VC a p q n) : ∀ w, Calls Tryz.prog 17 #[.agg #[.int .i64 (a : Int), .int .i64 (p : Int), .int .i64 (q : Int), .int .i64 (n : Int)]] w fun e w' => e = .returned (.bool true) /\ Below w.heap.size w w' := by
 intro w; obtain ⟨o_c, hbw⟩ := new1 w [.int .i64 (a : Int), .int .i64 (p : Int), .int .i64 (q : Int), .int .i64 (n : Int)] 47
 go_enter Tryz.func17, Tryz.ntmps17
 go_upto_region 1 with (fail)
 generalize (w.alloc (.cells #[.int .i64 (a : Int), .int .i64 (p : Int), .int .i64 (q : Int), .int .i64 (n : Int)] 47)) = wb at o_c hbw |-; have t1 : decide ((1 : Int) <= (n : Int)) = true := decide_eq_true (by have := hv.n1; omega); have t2 : decide ((n : Int) <= 2147483648) = true := decide_eq_true (by have := hv.n2; omega); have t3 : decide ((p : Int) <= (n : Int)) = true := decide_eq_true (by have := hv.pn; omega); have t3' : decide (p <= n) = true := decide_eq_true hv.pn; have t4 : decide ((q : Int) <= (n : Int)) = true := decide_eq_true (by have := hv.qn; omega); have t4' : decide (q <= n) = true := decide_eq_true hv.qn; have z1 : IntKind.i64.wrap ((p : Int) + (q : Int)) = (p : Int) + (q : Int) := IntWalk.i64_in _ (by have := hv.all; omega); have z2 : IntKind.i64.wrap ((p : Int) + (q : Int) - (n : Int)) = (p : Int) + (q : Int) - (n : Int) := IntWalk.i64_in _ (by have := hv.all; omega); have t6 : decide ((p : Int) + (q : Int) - (n : Int) <= (a : Int)) = true := decide_eq_true (by have := hv.pq; omega)
 have h1 := hv.n1; have h1' := hv.n2; have h2 := hv.pn; have h3 := hv.qn; have h4 := hv.ap; have h5 := hv.aq; have h6 := hv.pq; clear hv; obtain ⟨qc_0, qc_1, qc_2, qc_3⟩ := o_c.cells4
 go_wp2
 go_ret
 exact ⟨ret_bool (by simp <;> omega), hbw⟩
def prodN : List Nat -> Nat
 | [] => 1
 | x :: l => x * prodN l
theorem prodN_append (l m : List Nat) : prodN (l ++ m) = prodN l * prodN m := by
 induction l with
 | nil => simp [prodN]
 | cons x l ih => rw [List.cons_append, prodN, prodN, ih, Nat.mul_assoc]
theorem prodN_take {l : List Nat} {k : Nat} (h : k < l.length) : prodN (l.take (k + 1)) = prodN (l.take k) * l[k] := by
 rw [List.take_succ_eq_append_getElem h, prodN_append]; simp [prodN]
def Smalls (l : List Nat) : Prop := l.length <= 6 /\ ∀ x ∈ l, x <= 4611686018427387904
theorem prod_lt : ∀ {l : List Nat}, (∀ x ∈ l, x <= 4611686018427387904) -> prodN l < 10 ^ (19 * l.length + 1)
 | [], _ => by decide
 | x :: l, h => by
  have ih := prod_lt (l := l) fun y hy => h y (List.mem_cons_of_mem _ hy); have hx := h x (List.mem_cons_self ..); have e : 19 * (x :: l).length + 1 = (19 * l.length + 1) + 19 := by simp; omega
  rw [prodN, e, Nat.pow_add (m := 19 * l.length + 1), Nat.mul_comm]; exact Nat.mul_lt_mul'' ih (by omega)
theorem Smalls.ok {l : List Nat} (h : Smalls l) (k : Nat) : (dec (prodN (l.take k))).length <= 115 := by
 have h1 := prod_lt (l := l.take k) fun x hx => h.2 x (List.mem_of_mem_take hx); have h2 : (l.take k).length <= 6 := by rw [List.length_take]; have := h.1; omega
 refine dec_len_le (by decide) (Nat.lt_of_lt_of_le h1 (Nat.pow_le_pow_right (by decide) (by omega)))
theorem Smalls.okn {l : List Nat} (h : Smalls l) (k : Nat) : OkN (prodN (l.take k)) := by
 have := h.ok k; unfold OkN; omega
theorem Smalls.all {l : List Nat} (h : Smalls l) : (dec (prodN l)).length <= 115 := by
 have := h.ok l.length
 rwa [List.take_length] at this
theorem product_any (A : Option Addr) (li : List Int) (l : List Nat) (c : Nat) (w : World) (hA : Ints w A li) (hli : li = l.map fun (x : Nat) => (x : Int)) (hc : li.length <= c) (hm : c <= maxLen) (hs : Smalls l) (ht : Tab w) :
  Calls Tryz.prog 79 #[.slice A li.length c] w fun e w' => e = .returned (.string (S (prodN l))) /\ Below w.heap.size w w' := by
 have hll : li.length = l.length := by rw [hli, List.length_map]
 have hl6 := hs.1; have HS := Z' hs; have HA := Z' hA; have HT := Z' ht; have HLI := Z' hli; obtain ⟨N, hN⟩ : ∃ N, li.length = N := ⟨_, rfl⟩; have n1 : N <= l.length := by omega
 have n2 : l.length <= N := by omega
 have HNN := Z' hN; rw [hN] at hc |-; clear hll hN; unfold maxLen at hm; clear hs hA ht hli
 go_enter Tryz.func79, Tryz.ntmps79
 go_wp2_with fail
 go_loopg [3, 10] l.length (fun q v3 v10 wr => ∃ k : Nat, q = l.length - k /\ k <= l.length /\ v10 = .int .i64 (k : Int) /\ v3 = .string (S (prodN (l.take k))) /\ Below w.heap.size w wr)
 case atStart => exact ⟨0, rfl, Nat.zero_le _, rfl, by rw [List.take_zero]; exact congrArg Value.string okS_1.symm, Below.refl _ _⟩
 case round =>
  obtain ⟨k, hq, hk, rfl, rfl, hbw⟩ := hrel; have HQ := Z' hq; clear hq
  by_cases hlt : k < l.length
  ·have hki : k < li.length := by have := HNN.out; omega
   have hkN : k < N := by omega
   obtain ⟨b, off, hAe, hcell⟩ := (Ints.below HA.out hbw).get hki; have hx : li[k] = ((l[k] : Nat) : Int) := by
    have := HLI.out; subst this
    simp
   rw [hx] at hcell; have HX : Hid (l[k] <= 4611686018427387904) := HS.out.2 _ (List.getElem_mem hlt); have HPT : Hid (prodN (l.take (k + 1)) = prodN (l.take k) * l[k]) := prodN_take hlt; have HO1 := Z' (HS.out.okn k); have HO2 := Z' (HS.out.okn (k + 1)); have HO3 : Hid (OkN l[k]) := by
    show OkN _
    have : (dec l[k]).length <= 20 := dec_len_le (by decide) (by have := HX.out; omega); unfold OkN; omega
   have TW := Z' (HT.out.below hbw); clear hx; generalize l[k] = x at *; subst hAe; generalize prodN (l.take k) = P at *
   go_wp2_with fail
   refine (fromint_yes x (by have := HX.out; omega) _ TW.out).mono ?_; rintro e w1 ⟨rfl, hb1⟩; replace hbw := below6 hbw hb1; clear hb1 hcell
   go_wp2_with fail
   refine (natmul_yes P x _ HO1.out HO3.out).mono ?_; rintro e w2 ⟨htx, hb2⟩; have he := htx.ok (by rw [<- HPT.out]; exact HO2.out); rw [<- HPT.out] at he; subst he; replace hbw := below6 hbw hb2; clear htx hb2
   go_wp2_with fail
   go_roundg (l.length - (k + 1))
   case measure => have := HQ.out; omega
   case rel => exact ⟨k + 1, rfl, by omega, by go_num, rfl, hbw⟩
  ·have hkk : l.take k = l := List.take_of_length_le (by omega); rw [hkk]
   go_wp2
   go_ret
   exact ⟨rfl, hbw⟩
def QRes (P Q : Nat) (e : Ending) : Prop := (Q = 0 /\ e = .returned (.tuple #[Rat0, .int .i64 25])) \/ (0 < Q /\ RatRes (rat false P Q) e)
theorem qres_one (P Q : Nat) : ∃ n s t k, (∀ e, QRes P Q e -> e = .returned (.tuple #[.agg #[.bool n, .string s, .string t], .int .i64 k])) /\ QRes P Q (.returned (.tuple #[.agg #[.bool n, .string s, .string t], .int .i64 k])) := by
 rcases Nat.eq_zero_or_pos Q with h | h
 ·refine ⟨_, _, _, _, ?_, .inl ⟨h, rfl⟩⟩; rintro e (⟨_, h2⟩ | ⟨h2, _⟩)
  ·exact h2
  ·omega
 ·obtain ⟨n, s, t, k, h1, h2⟩ := ratRes_one (rat false P Q); refine ⟨n, s, t, k, ?_, .inr ⟨h, h2⟩⟩; rintro e (⟨h3, _⟩ | ⟨_, h3⟩)
  ·omega
  ·exact h1 e h3
theorem of_any' (P Q : Nat) (h1 : OkN P) (h2 : OkN Q) (hs9 : Q < 4294967296) (w : World) : Calls Tryz.prog 78 #[.bool false, .string (S P), .string (S Q)] w fun e w' => QRes P Q e /\ Below w.heap.size w w' := by
 rcases Nat.eq_zero_or_pos Q with rfl | h
 ·exact (of_zero false P h1 w).mono fun e w' ⟨a, b⟩ => ⟨.inl ⟨rfl, a⟩, b⟩
 ·exact (of_core false P Q h1 h2 h hs9 w).mono fun e w' ⟨a, b⟩ => ⟨.inr ⟨h, a⟩, b⟩
theorem quot_any {a p q n : Nat} (hv : VC a p q n) (B1 : Option Addr) (l1 : List Int) (m1 : List Nat) (c1 : Nat) (B2 : Option Addr) (l2 : List Int) (m2 : List Nat) (c2 : Nat) (w : World) (hA1 : Ints w B1 l1) (he1 : l1 = m1.map fun (x : Nat) => (x : Int)) (hc1 : l1.length <= c1) (hm1 : c1 <= maxLen) (hs1 : Smalls m1)
  (hA2 : Ints w B2 l2) (he2 : l2 = m2.map fun (x : Nat) => (x : Int)) (hc2 : l2.length <= c2) (hm2 : c2 <= maxLen) (hs2 : Smalls m2) (ht : Tab w) (hs9 : prodN m2 < 4294967296) :
  Calls Tryz.prog 62 #[.agg #[.int .i64 (a : Int), .int .i64 (p : Int), .int .i64 (q : Int), .int .i64 (n : Int)], .slice B1 l1.length c1, .slice B2 l2.length c2] w fun e w' => QRes (prodN m1) (prodN m2) e /\ Below w.heap.size w w' := by
 have HV := Z' (mvalid_yes hv); have A1 := Z' hA1; have A2 := Z' hA2; have e1 := Z' he1; have e2 := Z' he2; have S1 := Z' hs1; have S2 := Z' hs2; have T0 := Z' ht; have HO := Z' (fun w => of_any' (prodN m1) (prodN m2) (by have := hs1.all; unfold OkN; omega) (by have := hs2.all; unfold OkN; omega) hs9 w); obtain ⟨nz, sz, tz, kz, hend, hres⟩ := qres_one (prodN m1) (prodN m2); have HEND := Z' hend; have HRES := Z' hres; clear hv hA1 hA2 he1 he2 hs1 hs2 ht hend hres hs9; obtain ⟨o_c, o_r, hbw⟩ := new2 w [.int .i64 (a : Int), .int .i64 (p : Int), .int .i64 (q : Int), .int .i64 (n : Int)] [.bool false, .string ⟨#[]⟩, .string ⟨#[]⟩] 47 73
 go_enter Tryz.func62, Tryz.ntmps62
 go_upto_region 1 with (fail)
 generalize ((w.alloc (.cells #[.int .i64 (a : Int), .int .i64 (p : Int), .int .i64 (q : Int), .int .i64 (n : Int)] 47)).alloc (.cells #[.bool false, .string ⟨#[]⟩, .string ⟨#[]⟩] 73)) = wb at o_c o_r hbw |-; obtain ⟨qc_0, qc_1, qc_2, qc_3⟩ := o_c.cells4
 go_wp2_with fail
 clear qc_0 qc_1 qc_2 qc_3; refine (HV.out _).mono ?_; rintro e w1 ⟨rfl, hb1⟩; replace o_c := o_c.below hb1 o_c.lt; replace o_r := o_r.below hb1 o_r.lt; replace hbw := below6 hbw hb1; clear hb1
 go_wp2_with fail
 refine (product_any _ l1 m1 _ _ (Ints.below A1.out hbw) e1.out hc1 hm1 S1.out (T0.out.below hbw)).mono ?_; rintro e w7 ⟨rfl, hb7⟩; replace o_c := o_c.below hb7 o_c.lt; replace o_r := o_r.below hb7 o_r.lt; replace hbw := below6 hbw hb7; clear hb7
 go_wp2_with fail
 refine (product_any _ l2 m2 _ _ (Ints.below A2.out hbw) e2.out hc2 hm2 S2.out (T0.out.below hbw)).mono ?_; rintro e w8 ⟨rfl, hb8⟩; replace o_c := o_c.below hb8 o_c.lt; replace o_r := o_r.below hb8 o_r.lt; replace hbw := below6 hbw hb8; clear hb8
 go_wp2_with fail
 refine (HO.out _).mono ?_; rintro e w9 ⟨hq, hb9⟩; have he := HEND.out _ hq; subst he; replace o_c := o_c.below hb9 o_c.lt; replace o_r := o_r.below hb9 o_r.lt; replace hbw := below6 hbw hb9; clear hb9 hq; obtain ⟨qr_0, qr_1, qr_2⟩ := o_r.cells3; obtain ⟨fr_0, fr_1, fr_2⟩ := o_r.frozens3; have oz := o_r.set3 (.bool nz) (.string sz) (.string tz); have sz9 := Below.set3 hbw (g := w.heap.size + 1) (by omega) (.bool nz) (.string sz) (.string tz)
 go_wp2_with fail
 generalize (((w9.setCell ⟨w.heap.size + 1, 0, none⟩ (.bool nz)).setCell ⟨w.heap.size + 1, 1, none⟩ (.string sz)).setCell ⟨w.heap.size + 1, 2, none⟩ (.string tz)) = wz at oz sz9 |-; obtain ⟨z0, z1, z2⟩ := oz.cells3; exact bodyPost_ret (v := .tuple #[.agg #[.bool nz, .string sz, .string tz], .int .i64 kz]) (by simp [results, Tryz.results62, go_sem, z0, z1, z2]) rfl ⟨HRES.out, sz9⟩
open Go.RowKit Dg

theorem observed_yes {a p q n : Nat} (hv : VC a p q n) (w : World) :
  Calls Tryz.prog 61 #[.agg #[.int .i64 (a : Int), .int .i64 (p : Int), .int .i64 (q : Int), .int .i64 (n : Int)]] w fun e w' => e = .returned (.agg #[.int .i64 ((a : Int)), .int .i64 ((p : Int) - (a : Int)), .int .i64 ((q : Int) - (a : Int)), .int .i64 ((n : Int) - (p : Int) - (q : Int) + (a : Int))]) /\ Below w.heap.size w w' := by
 obtain ⟨o_c, o_r, hbw⟩ := new2 w [.int .i64 (a : Int), .int .i64 (p : Int), .int .i64 (q : Int), .int .i64 (n : Int)] [.int .i64 0, .int .i64 0, .int .i64 0, .int .i64 0] 47 117
 go_enter Tryz.func61, Tryz.ntmps61
 go_upto_region 1 with (fail)
 generalize ((w.alloc (.cells #[.int .i64 (a : Int), .int .i64 (p : Int), .int .i64 (q : Int), .int .i64 (n : Int)] 47)).alloc (.cells #[.int .i64 0, .int .i64 0, .int .i64 0, .int .i64 0] 117)) = wb at o_c o_r hbw |-; have z0' : IntKind.i64.wrap ((p : Int) - (a : Int)) = (p : Int) - (a : Int) := IntWalk.i64_in _ (by have := hv.all; omega); have z1' : IntKind.i64.wrap ((q : Int) - (a : Int)) = (q : Int) - (a : Int) := IntWalk.i64_in _ (by have := hv.all; omega); have z2' : IntKind.i64.wrap ((n : Int) - (p : Int)) = (n : Int) - (p : Int) := IntWalk.i64_in _ (by have := hv.all; omega); have z3' : IntKind.i64.wrap ((n : Int) - (p : Int) - (q : Int)) = (n : Int) - (p : Int) - (q : Int) := IntWalk.i64_in _ (by have := hv.all; omega); have z4' : IntKind.i64.wrap ((n : Int) - (p : Int) - (q : Int) + (a : Int)) = (n : Int) - (p : Int) - (q : Int) + (a : Int) := IntWalk.i64_in _ (by have := hv.all; omega)
 clear hv; obtain ⟨qc_0, qc_1, qc_2, qc_3⟩ := o_c.cells4; obtain ⟨qr_0, qr_1, qr_2, qr_3⟩ := o_r.cells4; obtain ⟨fr_0, fr_1, fr_2, fr_3⟩ := o_r.frozens4; have oz := (((o_r.set_ 0 (.int .i64 ((a : Int)))).set_ 1 (.int .i64 ((p : Int) - (a : Int)))).set_ 2 (.int .i64 ((q : Int) - (a : Int)))).set_ 3 (.int .i64 ((n : Int) - (p : Int) - (q : Int) + (a : Int))); replace oz : Own _ _ _ [.int .i64 ((a : Int)), .int .i64 ((p : Int) - (a : Int)), .int .i64 ((q : Int) - (a : Int)), .int .i64 ((n : Int) - (p : Int) - (q : Int) + (a : Int))] := oz; have sz9 := (((hbw.setCell (p := ⟨w.heap.size + 1, 0, none⟩) (by simp) (.int .i64 ((a : Int)))).setCell (p := ⟨w.heap.size + 1, 1, none⟩) (by simp) (.int .i64 ((p : Int) - (a : Int)))).setCell (p := ⟨w.heap.size + 1, 2, none⟩) (by simp) (.int .i64 ((q : Int) - (a : Int)))).setCell (p := ⟨w.heap.size + 1, 3, none⟩) (by simp) (.int .i64 ((n : Int) - (p : Int) - (q : Int) + (a : Int)))
 go_wp2_with fail
 generalize ((((wb.setCell ⟨w.heap.size + 1, 0, none⟩ (.int .i64 ((a : Int)))).setCell ⟨w.heap.size + 1, 1, none⟩ (.int .i64 ((p : Int) - (a : Int)))).setCell ⟨w.heap.size + 1, 2, none⟩ (.int .i64 ((q : Int) - (a : Int)))).setCell ⟨w.heap.size + 1, 3, none⟩ (.int .i64 ((n : Int) - (p : Int) - (q : Int) + (a : Int)))) = wz at oz sz9 |-; obtain ⟨z0, z1, z2, z3⟩ := oz.cells4; exact bodyPost_ret (v := .agg #[.int .i64 ((a : Int)), .int .i64 ((p : Int) - (a : Int)), .int .i64 ((q : Int) - (a : Int)), .int .i64 ((n : Int) - (p : Int) - (q : Int) + (a : Int))]) (by simp [results, Tryz.results61, go_sem, z0, z1, z2, z3]) rfl ⟨rfl, sz9⟩
theorem mul_two62 {x y : Int} (h1 : 0 <= x) (h2 : x <= 2147483648) (h3 : 0 <= y) (h4 : y <= 2147483648) : 0 <= x * y /\ x * y <= 4611686018427387904 :=
 ⟨Int.mul_nonneg h1 h3, Int.le_trans (Int.mul_le_mul h2 h4 h3 (by decide)) (by decide)⟩
theorem xdiff (a p q n : Int) : a * (n - p - q + a) - (p - a) * (q - a) = n * a - p * q := by
 simp only [Int.mul_sub, Int.sub_mul, Int.mul_add]
 have h1 := Int.mul_comm a n; have h2 := Int.mul_comm a p
 omega
theorem chi_yes {a p q n : Nat} (hv : VC a p q n) (w : World) (ht : Tab w) (hs9 : prodN [p, n - p, q, n - q] < 4294967296) :
  Calls Tryz.prog 32 #[.agg #[.int .i64 (a : Int), .int .i64 (p : Int), .int .i64 (q : Int), .int .i64 (n : Int)]] w fun e w' => QRes (prodN [n, ((n : Int) * (a : Int) - (p : Int) * (q : Int)).natAbs, ((n : Int) * (a : Int) - (p : Int) * (q : Int)).natAbs]) (prodN [p, n - p, q, n - q]) e /\ Below w.heap.size w w' := by
 have HS9 := Z' hs9; clear hs9; have HV := Z' hv; have T0 := Z' ht; obtain ⟨nz, sz, tz, kz, hend, hres⟩ := qres_one (prodN [n, ((n : Int) * (a : Int) - (p : Int) * (q : Int)).natAbs, ((n : Int) * (a : Int) - (p : Int) * (q : Int)).natAbs]) (prodN [p, n - p, q, n - q]); have HEND := Z' hend; have HRES := Z' hres; clear ht hend hres; obtain ⟨o_c, o_r, hbw⟩ := new2 w [.int .i64 (a : Int), .int .i64 (p : Int), .int .i64 (q : Int), .int .i64 (n : Int)] [.bool false, .string ⟨#[]⟩, .string ⟨#[]⟩] 47 73
 go_enter Tryz.func32, Tryz.ntmps32
 go_upto_region 1 with (fail)
 generalize ((w.alloc (.cells #[.int .i64 (a : Int), .int .i64 (p : Int), .int .i64 (q : Int), .int .i64 (n : Int)] 47)).alloc (.cells #[.bool false, .string ⟨#[]⟩, .string ⟨#[]⟩] 73)) = wb at o_c o_r hbw |-; have y0 : IntKind.i64.wrap ((n : Int) - (p : Int)) = (n : Int) - (p : Int) := IntWalk.i64_in _ (by have := hv.all; omega); have y1 : IntKind.i64.wrap ((n : Int) - (q : Int)) = (n : Int) - (q : Int) := IntWalk.i64_in _ (by have := hv.all; omega); have b1 := mul_two62 (x := (a : Int)) (y := (n : Int) - (p : Int) - (q : Int) + (a : Int)) (by omega) (by have := hv.all; omega) (by have := hv.all; omega) (by have := hv.all; omega); have b2 := mul_two62 (x := (p : Int) - (a : Int)) (y := (q : Int) - (a : Int)) (by have := hv.all; omega) (by have := hv.all; omega) (by have := hv.all; omega) (by have := hv.all; omega); have b3 := xdiff (a : Int) (p : Int) (q : Int) (n : Int); have y2 : IntKind.i64.wrap ((a : Int) * ((n : Int) - (p : Int) - (q : Int) + (a : Int))) = (a : Int) * ((n : Int) - (p : Int) - (q : Int) + (a : Int)) := IntWalk.i64_in _ (by omega)
 have y3 : IntKind.i64.wrap (((p : Int) - (a : Int)) * ((q : Int) - (a : Int))) = ((p : Int) - (a : Int)) * ((q : Int) - (a : Int)) := IntWalk.i64_in _ (by omega); have y4 : IntKind.i64.wrap ((a : Int) * ((n : Int) - (p : Int) - (q : Int) + (a : Int)) - ((p : Int) - (a : Int)) * ((q : Int) - (a : Int))) = ((n : Int) * (a : Int) - (p : Int) * (q : Int)) := by rw [IntWalk.i64_in _ (by omega)]; exact b3
 have HX : Hid (((n : Int) * (a : Int) - (p : Int) * (q : Int)).natAbs <= 4611686018427387904) := Z' (by omega); have y5 : IntKind.i64.wrap (-((n : Int) * (a : Int) - (p : Int) * (q : Int))) = -((n : Int) * (a : Int) - (p : Int) * (q : Int)) := IntWalk.i64_in _ (by omega); clear b1 b2 b3; obtain ⟨qc_0, qc_1, qc_2, qc_3⟩ := o_c.cells4
 go_wp2_with fail
 clear qc_0 qc_1 qc_2 qc_3; refine (mvalid_yes HV.out _).mono ?_; rintro e w1 ⟨rfl, hb1⟩; replace o_c := o_c.below hb1 o_c.lt; replace o_r := o_r.below hb1 o_r.lt; replace hbw := below6 hbw hb1; clear hb1; obtain ⟨qc_0, qc_1, qc_2, qc_3⟩ := o_c.cells4
 go_wp2_with fail
 clear qc_0 qc_1 qc_2 qc_3; refine (observed_yes HV.out _).mono ?_; rintro e w2 ⟨rfl, hb2⟩; replace o_c := o_c.below hb2 o_c.lt; replace o_r := o_r.below hb2 o_r.lt; replace hbw := below6 hbw hb2; clear hb2; obtain ⟨o_o, hz3⟩ := new1 w2 [.int .i64 ((a : Int)), .int .i64 ((p : Int) - (a : Int)), .int .i64 ((q : Int) - (a : Int)), .int .i64 ((n : Int) - (p : Int) - (q : Int) + (a : Int))] 117; replace o_c := o_c.alloc (.cells #[.int .i64 ((a : Int)), .int .i64 ((p : Int) - (a : Int)), .int .i64 ((q : Int) - (a : Int)), .int .i64 ((n : Int) - (p : Int) - (q : Int) + (a : Int))] 117); replace o_r := o_r.alloc (.cells #[.int .i64 ((a : Int)), .int .i64 ((p : Int) - (a : Int)), .int .i64 ((q : Int) - (a : Int)), .int .i64 ((n : Int) - (p : Int) - (q : Int) + (a : Int))] 117); replace hbw := below6 hbw hz3; clear hz3; obtain ⟨qo_0, qo_1, qo_2, qo_3⟩ := o_o.cells4
 go_upto_region 6 with (fail)
 generalize (w2.alloc (.cells #[.int .i64 ((a : Int)), .int .i64 ((p : Int) - (a : Int)), .int .i64 ((q : Int) - (a : Int)), .int .i64 ((n : Int) - (p : Int) - (q : Int) + (a : Int))] 117)) = wa4 at o_c o_r o_o hbw |-; generalize w2.heap.size = g4 at o_o |-; have E1 : Hid ([(n : Int), max ((n : Int) * (a : Int) - (p : Int) * (q : Int)) (-((n : Int) * (a : Int) - (p : Int) * (q : Int))), max ((n : Int) * (a : Int) - (p : Int) * (q : Int)) (-((n : Int) * (a : Int) - (p : Int) * (q : Int)))] = [n, ((n : Int) * (a : Int) - (p : Int) * (q : Int)).natAbs, ((n : Int) * (a : Int) - (p : Int) * (q : Int)).natAbs].map fun (x : Nat) => (x : Int)) := by
  have := HV.out.all; exact Z' (by simp <;> omega)
 have M1 : Hid (Smalls [n, ((n : Int) * (a : Int) - (p : Int) * (q : Int)).natAbs, ((n : Int) * (a : Int) - (p : Int) * (q : Int)).natAbs]) := by
  have := HV.out.all; have := HX.out
  exact Z' ⟨by simp, by simp <;> omega⟩
 have E2 : Hid ([(p : Int), (n : Int) - (p : Int), (q : Int), (n : Int) - (q : Int)] = [p, n - p, q, n - q].map fun (x : Nat) => (x : Int)) := by
  have := HV.out.all; exact Z' (by simp <;> omega)
 have M2 : Hid (Smalls [p, n - p, q, n - q]) := by
  have := HV.out.all; have := HX.out
  exact Z' ⟨by simp, by simp <;> omega⟩
 obtain ⟨qc_0, qc_1, qc_2, qc_3⟩ := o_c.cells4; obtain ⟨qm0_0, qm0_1, qm0_2, qm0_3⟩ := (o_c.alloc (.cells #[.int .i64 ((n : Int)), .int .i64 (max ((n : Int) * (a : Int) - (p : Int) * (q : Int)) (-((n : Int) * (a : Int) - (p : Int) * (q : Int)))), .int .i64 (max ((n : Int) * (a : Int) - (p : Int) * (q : Int)) (-((n : Int) * (a : Int) - (p : Int) * (q : Int))))] 3)).cells4; obtain ⟨o_s0, o_s1, hz5⟩ := new2 wa4 [.int .i64 ((n : Int)), .int .i64 (max ((n : Int) * (a : Int) - (p : Int) * (q : Int)) (-((n : Int) * (a : Int) - (p : Int) * (q : Int)))), .int .i64 (max ((n : Int) * (a : Int) - (p : Int) * (q : Int)) (-((n : Int) * (a : Int) - (p : Int) * (q : Int))))] [.int .i64 ((p : Int)), .int .i64 ((n : Int) - (p : Int)), .int .i64 ((q : Int)), .int .i64 ((n : Int) - (q : Int))] 3 3; replace o_c := o_c.alloc (.cells #[.int .i64 ((n : Int)), .int .i64 (max ((n : Int) * (a : Int) - (p : Int) * (q : Int)) (-((n : Int) * (a : Int) - (p : Int) * (q : Int)))), .int .i64 (max ((n : Int) * (a : Int) - (p : Int) * (q : Int)) (-((n : Int) * (a : Int) - (p : Int) * (q : Int))))] 3)
 replace o_c := o_c.alloc (.cells #[.int .i64 ((p : Int)), .int .i64 ((n : Int) - (p : Int)), .int .i64 ((q : Int)), .int .i64 ((n : Int) - (q : Int))] 3); replace o_r := o_r.alloc (.cells #[.int .i64 ((n : Int)), .int .i64 (max ((n : Int) * (a : Int) - (p : Int) * (q : Int)) (-((n : Int) * (a : Int) - (p : Int) * (q : Int)))), .int .i64 (max ((n : Int) * (a : Int) - (p : Int) * (q : Int)) (-((n : Int) * (a : Int) - (p : Int) * (q : Int))))] 3); replace o_r := o_r.alloc (.cells #[.int .i64 ((p : Int)), .int .i64 ((n : Int) - (p : Int)), .int .i64 ((q : Int)), .int .i64 ((n : Int) - (q : Int))] 3); replace o_o := o_o.alloc (.cells #[.int .i64 ((n : Int)), .int .i64 (max ((n : Int) * (a : Int) - (p : Int) * (q : Int)) (-((n : Int) * (a : Int) - (p : Int) * (q : Int)))), .int .i64 (max ((n : Int) * (a : Int) - (p : Int) * (q : Int)) (-((n : Int) * (a : Int) - (p : Int) * (q : Int))))] 3); replace o_o := o_o.alloc (.cells #[.int .i64 ((p : Int)), .int .i64 ((n : Int) - (p : Int)), .int .i64 ((q : Int)), .int .i64 ((n : Int) - (q : Int))] 3)
 replace hbw := below6 hbw hz5; clear hz5
 go_wp2_with fail
 generalize ((wa4.alloc (.cells #[.int .i64 ((n : Int)), .int .i64 (max ((n : Int) * (a : Int) - (p : Int) * (q : Int)) (-((n : Int) * (a : Int) - (p : Int) * (q : Int)))), .int .i64 (max ((n : Int) * (a : Int) - (p : Int) * (q : Int)) (-((n : Int) * (a : Int) - (p : Int) * (q : Int))))] 3)).alloc (.cells #[.int .i64 ((p : Int)), .int .i64 ((n : Int) - (p : Int)), .int .i64 ((q : Int)), .int .i64 ((n : Int) - (q : Int))] 3)) = wa6 at o_c o_r o_o o_s0 o_s1 hbw |-; generalize wa4.heap.size = g6 at o_s0 o_s1 |-; refine (quot_any HV.out (some ⟨g6, 0, none⟩) [(n : Int), max ((n : Int) * (a : Int) - (p : Int) * (q : Int)) (-((n : Int) * (a : Int) - (p : Int) * (q : Int))), max ((n : Int) * (a : Int) - (p : Int) * (q : Int)) (-((n : Int) * (a : Int) - (p : Int) * (q : Int)))] [n, ((n : Int) * (a : Int) - (p : Int) * (q : Int)).natAbs, ((n : Int) * (a : Int) - (p : Int) * (q : Int)).natAbs] 3 (some ⟨g6 + 1, 0, none⟩) [(p : Int), (n : Int) - (p : Int), (q : Int), (n : Int) - (q : Int)] [p, n - p, q, n - q] 4 _ o_s0.rd0 E1.out (by simp) (by decide) M1.out o_s1.rd0 E2.out (by simp) (by decide) M2.out (T0.out.below hbw) HS9.out).mono ?_
 rintro e w9 ⟨hq, hb9⟩; have he := HEND.out _ hq; subst he; replace o_c := o_c.below hb9 o_c.lt; replace o_r := o_r.below hb9 o_r.lt; replace hbw := below6 hbw hb9; clear hb9 hq o_s0 o_s1; obtain ⟨qr_0, qr_1, qr_2⟩ := o_r.cells3; obtain ⟨fr_0, fr_1, fr_2⟩ := o_r.frozens3; have oz := o_r.set3 (.bool nz) (.string sz) (.string tz); have sz9 := Below.set3 hbw (g := w.heap.size + 1) (by omega) (.bool nz) (.string sz) (.string tz)
 go_wp2_with fail
 generalize (((w9.setCell ⟨w.heap.size + 1, 0, none⟩ (.bool nz)).setCell ⟨w.heap.size + 1, 1, none⟩ (.string sz)).setCell ⟨w.heap.size + 1, 2, none⟩ (.string tz)) = wz at oz sz9 |-; obtain ⟨z0, z1, z2⟩ := oz.cells3; exact bodyPost_ret (v := .tuple #[.agg #[.bool nz, .string sz, .string tz], .int .i64 kz]) (by simp [results, Tryz.results32, go_sem, z0, z1, z2]) rfl ⟨HRES.out, sz9⟩
end Go.Proofs.YtjimfbmegmnocaaGreatDoor
