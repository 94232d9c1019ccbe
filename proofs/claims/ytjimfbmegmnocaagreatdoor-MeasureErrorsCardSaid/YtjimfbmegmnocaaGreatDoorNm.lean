/- Parts of the proof: Nk, Nm. No condition of its own. -/
import Derived.Test.YtjimfbmegmnocaaGreatDoorNv
set_option linter.unusedSimpArgs false
set_option linter.unusedVariables false
set_option maxRecDepth 100000
set_option maxHeartbeats 4000000
namespace Go.Proofs.YtjimfbmegmnocaaGreatDoor
open Go.RowKit Dg

theorem size_nat (k : Nat) (w : World) (hk : k < 9223372036854775808) : Calls Tryz.prog 125 #[.int .i64 (k : Int)] w fun e w' => ∃ v, e = .returned v /\ NatV w' v k /\ Below w.heap.size w w' := by
 have HO := Z' (of_any k w (by omega)); have d1 : decide ((k : Int) < 0) = false := decide_eq_false (by omega); have g1 : IntKind.u64.wrap (k : Int) = (k : Int) := IntWalk.u64_in _ (by omega); clear hk
 go_enter Tryz.func125, Tryz.ntmps125
 go_wp2_with fail
 refine HO.out.mono ?_; rintro e w1 ⟨v, rfl, hv, hb⟩
 go_wp2
 go_ret
 exact ⟨v, rfl, hv, hb⟩
theorem size_neg (k : Nat) (z : Int) (w : World) (hz : z = -(k : Int)) (hk0 : 0 < k) (hk : k <= 9223372036854775808) : Calls Tryz.prog 125 #[.int .i64 z] w fun e w' => ∃ v, e = .returned v /\ NatV w' v k /\ Below w.heap.size w w' := by
 have HO := Z' (of_any k w (by omega)); have d1 : decide (z < 0) = true := decide_eq_true (by omega); have hz0 : z < 0 := by omega
 have g1 : IntKind.u64.wrap z = z + 18446744073709551616 := by rw [IntKind.wrap_u64]; omega
 have g2 : IntKind.u64.wrap (-(z + 18446744073709551616)) = (k : Int) := by rw [IntKind.wrap_u64]; omega
 have g3 : IntKind.u64.wrap (-18446744073709551616 + -z) = (k : Int) := by rw [IntKind.wrap_u64]; omega
 clear hk hz hk0
 go_enter Tryz.func125, Tryz.ntmps125
 go_wp2_with fail
 refine HO.out.mono ?_; rintro e w1 ⟨v, rfl, hv, hb⟩
 go_wp2
 go_ret
 exact ⟨v, rfl, hv, hb⟩
theorem size_any (z : Int) (w : World) (h1 : -9223372036854775808 <= z) (h2 : z <= 9223372036854775807) : Calls Tryz.prog 125 #[.int .i64 z] w fun e w' => ∃ v, e = .returned v /\ NatV w' v z.natAbs /\ Below w.heap.size w w' := by
 by_cases hz : z < 0
 ·exact size_neg z.natAbs z w (by omega) (by omega) (by omega)
 ·have := size_nat z.natAbs w (by omega); have e : ((z.natAbs : Nat) : Int) = z := by omega
  rw [e] at this; exact this
theorem dw64 {n : Nat} (h : n < 18446744073709551616) : (dw n).length <= 2 := dg_le b32 (by show n < 4294967296 ^ 2; omega)

theorem make_any (num den : Int) (w : World) (h1 : -9223372036854775808 <= num) (h2 : num <= 9223372036854775807) (h3 : -9223372036854775808 <= den) (h4 : den <= 9223372036854775807) (hd : den ≠ 0) (hs9 : den.natAbs < 4294967296) :
  Calls Tryz.prog 104 #[.int .i64 num, .int .i64 den] w fun e w' => LowRes (decide (num < 0) != decide (den < 0)) num.natAbs den.natAbs e /\ Below w.heap.size w w' := by
 have HS9 := Z' hs9; clear hs9; have S1 := Z' (fun w => size_any num w h1 h2); have S2 := Z' (fun w => size_any den w h3 h4); have l1 := dw64 (n := num.natAbs) (by omega); have l2 := dw64 (n := den.natAbs) (by omega); have hd0 : 0 < den.natAbs := by omega
 have b0 : (den == 0) = false := beq_eq_false_iff_ne.2 hd; clear hd h1 h2 h3 h4; have l1' := Z' l1; have l2' := Z' l2; clear l1 l2; have key : ∀ x1 x2 : Bool, decide (num < 0) = x1 -> decide (den < 0) = x2 -> Calls Tryz.prog 104 #[.int .i64 num, .int .i64 den] w fun e w' => LowRes (x1 != x2) num.natAbs den.natAbs e /\ Below w.heap.size w w' := by
  intro x1 x2 t1 t2
  cases x1 <;> cases x2
  all_goals
   go_enter Tryz.func104, Tryz.ntmps104
   go_wp2_with fail
   have hor : Own (w.alloc (.cells #[.bool false, .string ⟨#[]⟩, .string ⟨#[]⟩] 73)) w.heap.size 73 [.bool false, .string ⟨#[]⟩, .string ⟨#[]⟩] := Own.new w _ _; have hbb : Below w.heap.size w (w.alloc (.cells #[.bool false, .string ⟨#[]⟩, .string ⟨#[]⟩] 73)) := (Below.refl _ _).alloc (Nat.le_refl _) _; generalize (w.alloc (.cells #[.bool false, .string ⟨#[]⟩, .string ⟨#[]⟩] 73)) = wb at hor hbb |-; refine (S1.out _).mono ?_; rintro e w1 ⟨v1, rfl, hv1, hb1⟩; have or1 := hor.below hb1 hor.lt; have s1 := hbb.trans (hb1.mono hbb.size); clear hor hbb hb1
   go_wp2_with fail
   refine (S2.out _).mono ?_; rintro e w2 ⟨v2, rfl, hv2, hb2⟩; have or2 := or1.below hb2 or1.lt; have s2 := s1.trans (hb2.mono s1.size); have hv1' := hv1.below hb2; clear or1 s1 hb2 hv1; have N1 := Z' hv1'; have N2 := Z' hv2; obtain ⟨A1, c1, rfl, -⟩ := hv1'; obtain ⟨A2, c2, rfl, -⟩ := hv2
   go_wp2_with fail
   refine (lowest_any _ _ _ _ _ _ N1.out N2.out (by have := l1'.out; omega) (by have := l2'.out; omega) hd0 HS9.out).mono ?_; rintro e w3 ⟨hlow, hb3⟩; have or3 := or2.below hb3 or2.lt; have s3 := s2.trans (hb3.mono s2.size); clear or2 s2 hb3; obtain ⟨hr0, hr1, hr2⟩ := or3.cells3; obtain ⟨hf0, hf1, hf2⟩ := or3.frozens3
   rcases hlow with ⟨hp, hq, rfl⟩ | ⟨hpq, rfl⟩
   ·have HP := Z' hp; have HQ := Z' hq; clear hp hq; generalize hbx : (_ && decide (0 < num.natAbs)) = bx at *; have HBX := Z' hbx; clear hbx; have oz : Own (((w3.setCell ⟨w.heap.size, 0, none⟩ (Value.bool bx)).setCell ⟨w.heap.size, 1, none⟩ (Value.string (S (num.natAbs / num.natAbs.gcd den.natAbs)))).setCell ⟨w.heap.size, 2, none⟩ (Value.string (S (den.natAbs / num.natAbs.gcd den.natAbs)))) (w.heap.size) 73 [Value.bool bx, Value.string (S (num.natAbs / num.natAbs.gcd den.natAbs)), Value.string (S (den.natAbs / num.natAbs.gcd den.natAbs))] := ((or3.set_ 0 (Value.bool bx)).set_ 1 (Value.string (S (num.natAbs / num.natAbs.gcd den.natAbs)))).set_ 2 (Value.string (S (den.natAbs / num.natAbs.gcd den.natAbs))); have sz : Below w.heap.size w (((w3.setCell ⟨w.heap.size, 0, none⟩ (Value.bool bx)).setCell ⟨w.heap.size, 1, none⟩ (Value.string (S (num.natAbs / num.natAbs.gcd den.natAbs)))).setCell ⟨w.heap.size, 2, none⟩ (Value.string (S (den.natAbs / num.natAbs.gcd den.natAbs)))) := ((s3.setCell (Nat.le_refl _) _).setCell (Nat.le_refl _) _).setCell (Nat.le_refl _) _
    go_wp2_with fail
    generalize (((w3.setCell ⟨w.heap.size, 0, none⟩ (Value.bool bx)).setCell ⟨w.heap.size, 1, none⟩ (Value.string (S (num.natAbs / num.natAbs.gcd den.natAbs)))).setCell ⟨w.heap.size, 2, none⟩ (Value.string (S (den.natAbs / num.natAbs.gcd den.natAbs)))) = wz at oz sz |-; obtain ⟨z0, z1, z2⟩ := oz.cells3; exact bodyPost_ret (v := .tuple #[.agg #[Value.bool bx, Value.string (S (num.natAbs / num.natAbs.gcd den.natAbs)), Value.string (S (den.natAbs / num.natAbs.gcd den.natAbs))], .int .i64 0]) (by simp [results, Tryz.results104, go_sem, z0, z1, z2]) rfl ⟨.inl ⟨HP.out, HQ.out, by rw [<- HBX.out]; rfl⟩, sz⟩
   ·have HPQ : Hid (¬ (OkN (num.natAbs / num.natAbs.gcd den.natAbs) /\ OkN (den.natAbs / num.natAbs.gcd den.natAbs))) := hpq; clear hpq; have oz : Own (((w3.setCell ⟨w.heap.size, 0, none⟩ (Value.bool false)).setCell ⟨w.heap.size, 1, none⟩ (Value.string ⟨#[]⟩)).setCell ⟨w.heap.size, 2, none⟩ (Value.string ⟨#[]⟩)) (w.heap.size) 73 [Value.bool false, Value.string ⟨#[]⟩, Value.string ⟨#[]⟩] := ((or3.set_ 0 (Value.bool false)).set_ 1 (Value.string ⟨#[]⟩)).set_ 2 (Value.string ⟨#[]⟩); have sz : Below w.heap.size w (((w3.setCell ⟨w.heap.size, 0, none⟩ (Value.bool false)).setCell ⟨w.heap.size, 1, none⟩ (Value.string ⟨#[]⟩)).setCell ⟨w.heap.size, 2, none⟩ (Value.string ⟨#[]⟩)) := ((s3.setCell (Nat.le_refl _) _).setCell (Nat.le_refl _) _).setCell (Nat.le_refl _) _
    go_wp2_with fail
    generalize (((w3.setCell ⟨w.heap.size, 0, none⟩ (Value.bool false)).setCell ⟨w.heap.size, 1, none⟩ (Value.string ⟨#[]⟩)).setCell ⟨w.heap.size, 2, none⟩ (Value.string ⟨#[]⟩)) = wz at oz sz |-; obtain ⟨z0, z1, z2⟩ := oz.cells3; exact bodyPost_ret (v := .tuple #[.agg #[Value.bool false, Value.string ⟨#[]⟩, Value.string ⟨#[]⟩], .int .i64 2]) (by simp [results, Tryz.results104, go_sem, z0, z1, z2]) rfl ⟨.inr ⟨HPQ.out, rfl⟩, sz⟩
 exact key _ _ rfl rfl

theorem okn_small {n : Nat} (h : n < 10000000000) : OkN n := by
 have : (dec n).length <= 10 := dec_len_le (by decide) h; unfold OkN; omega
open Go.RowKit Dg

theorem tmod_cases (x : Int) (n : Nat) (hn : 0 < n) : (0 <= x.tmod n /\ x.tmod n = x % n /\ x.tmod n < n) \/ (x.tmod n < 0 /\ x.tmod n + n = x % n /\ -(n : Int) < x.tmod n) := by
 have h1 := Int.emod_nonneg x (show (n : Int) ≠ 0 by omega); have h2 := Int.emod_lt_of_pos x (show (0 : Int) < n by omega); have h3 := @Int.tmod_eq_emod x n
 by_cases hc : 0 <= x \/ (n : Int) ∣ x
 ·rw [if_pos hc] at h3; exact .inl ⟨by omega, by omega, by omega⟩
 ·rw [if_neg hc] at h3; have h4 : x % (n : Int) ≠ 0 := fun e => hc (.inr (Int.dvd_of_emod_eq_zero e)); exact .inr ⟨by omega, by omega, by omega⟩
theorem mod_any (x : Int) (n : Nat) (w : World) (hn : 0 < n) (hn2 : n <= 1000000) (h1 : -9223372036854775808 <= x) (h2 : x <= 9223372036854775807) :
  Calls Tryz.prog 9 #[.int .i64 x, .int .i64 (n : Int)] w fun e w' => e = .returned (.int .i64 (x % (n : Int))) /\ w = w' := by
 have hnI : (1 : Int) <= (n : Int) := by omega
 have hn0 : ¬ (n : Int) = 0 := by omega
 have hn0' : ¬ n = 0 := by omega
 have d0 : decide ((n : Int) < 1) = false := decide_eq_false (by omega)
 rcases tmod_cases x n hn with ⟨a1, a2, a3⟩ | ⟨a1, a2, a3⟩
 ·obtain ⟨t, ht⟩ : ∃ t, x.tmod n = t := ⟨_, rfl⟩; rw [ht] at a1 a2 a3; have HA := Z' a2; have gw : IntKind.i64.wrap t = t := IntWalk.i64_in _ (by omega); have d1 : decide (t < 0) = false := decide_eq_false (by omega); have gu : IntKind.i64.wrap (x.tmod n) = t := by rw [ht]; exact gw
  clear a2
  go_enter Tryz.func9, Tryz.ntmps9
  go_wp2
  go_ret
  exact ⟨ret_int HA.out, rfl⟩
 ·obtain ⟨t, ht⟩ : ∃ t, x.tmod n = t := ⟨_, rfl⟩; rw [ht] at a1 a2 a3; have HA := Z' a2; have gw : IntKind.i64.wrap t = t := IntWalk.i64_in _ (by omega); have d1 : decide (t < 0) = true := decide_eq_true (by omega); have gu : IntKind.i64.wrap (x.tmod n) = t := by rw [ht]; exact gw
  clear a2
  go_enter Tryz.func9, Tryz.ntmps9
  go_wp2
  go_ret
  exact ⟨ret_int HA.out, rfl⟩

structure Tape (w : World) (p : Nat) (A : Option Addr) (l : List Int) (c at_ : Nat) : Prop where
 own : Own w p 55 [.slice A l.length c, .int .i64 (at_ : Int)]
 rd : RdOut (fun k => k = p) w A (ci l)
 le : at_ <= l.length
 few : l.length <= 120
 wf : ∀ x ∈ l, -9223372036854775808 <= x /\ x <= 9223372036854775807
theorem Tape.below {w w' : World} {p : Nat} {A : Option Addr} {l : List Int} {c at_ : Nat} (h : Tape w p A l c at_) (hb : Below w.heap.size w w') : Tape w' p A l c at_ :=
 ⟨h.own.below hb h.own.lt, RdOut.chg h.rd (Chg.of_below hb fun k h1 h2 => by omega), h.le, h.few, h.wf⟩

theorem next_any (p : Nat) (A : Option Addr) (l : List Int) (c at_ n : Nat) (w : World) (h : Tape w p A l c at_) (hn : 0 < n) (hn2 : n <= 1000000) :
  Calls Tryz.prog 20 #[.pointer (some ⟨p, 0, none⟩), .int .i64 (n : Int)] w fun e w' => ∃ r at', e = .returned (.int .i64 ((r : Nat) : Int)) /\ r < n /\ Tape w' p A l c at' /\ Chg (fun k => k = p) w w' := by
 have c0 : w.cell? ⟨p, 0, none⟩ = some (.slice A l.length c) := h.own.cell 0; have c1 : w.cell? ⟨p, 1, none⟩ = some (.int .i64 (at_ : Int)) := h.own.cell 1; have f1 := h.own.frozen 1; have hle := h.le; have hfew := h.few
 by_cases hend : at_ < l.length
 ·have d0 : decide ((l.length : Int) <= (at_ : Int)) = false := decide_eq_false (by omega); have d1 : decide (l.length <= at_) = false := decide_eq_false (by omega); have hx := h.wf _ (List.getElem_mem hend); obtain ⟨b, off, rfl, hne, cx⟩ := h.rd at_ (.int .i64 l[at_]) (by simp [hend]); generalize l[at_] = x at hx cx; have hnb : b ≠ p := hne; have hr1 := Int.emod_nonneg x (show (n : Int) ≠ 0 by omega); have hr2 := Int.emod_lt_of_pos x (show (0 : Int) < n by omega); have HM : Hid (∀ w, Calls Tryz.prog 9 #[.int .i64 x, .int .i64 (n : Int)] w fun e w' => e = .returned (.int .i64 (x % (n : Int))) /\ Below w.heap.size w w') := by
   intro w; refine (mod_any x n w hn hn2 hx.1 hx.2).mono ?_; rintro e w' ⟨rfl, rfl⟩; exact ⟨rfl, Below.refl _ _⟩
  obtain ⟨r, hr⟩ : ∃ r : Nat, x % (n : Int) = (r : Int) := ⟨(x % (n : Int)).toNat, by omega⟩; rw [hr] at HM hr1 hr2; clear hr hne; have z1 : IntKind.i64.wrap ((at_ : Int) + 1) = (at_ : Int) + 1 := IntWalk.i64_in _ (by omega); have z2 : IntKind.i64.wrap (at_ : Int) = (at_ : Int) := IntWalk.i64_in _ (by omega)
  go_enter Tryz.func20, Tryz.ntmps20
  go_wp2_with fail
  refine wp_reg_f [some 5, some 6, some 7, some 8, some 9, some 10, some 11, some 12, some 13, some 14] [?v1_0, ?v1_1, ?v1_2, ?v1_3, ?v1_4, ?v1_5, ?v1_6, ?v1_7, ?v1_8, ?v1_9] [[], [0], [1], [2], [], [4], [5], [6], [7], [3, 8]] [(0, _)] ⟨rfl, trivial⟩ rfl (by kernel_rfl) rfl rfl (by kernel_rfl) (by kernel_rfl) ⟨?s1_0, ?s1_1, ?s1_2, ?s1_3, ?s1_4, ?s1_5, ?s1_6, ?s1_7, ?s1_8, ?s1_9, trivial⟩ ?p1
  all_goals try (intro t9 w9 hT9 K9 hK9; simp only [OV, FV, List.getD_cons_succ, List.getD_cons_zero, Option.getD_some]; intros)
  case s1_0 | s1_1 | s1_2 | s1_3 | s1_4 | s1_5 | s1_6 | s1_7 | s1_8 | s1_9 =>
   have d9_0 := grow_cell hT9 c0; have d9_1 := grow_cell hT9 c1
   go_simp; exact hK9 _ (Grow.refl _)
  intro w9 hb9
  simp only [putL, Act.put, List.setIfInBounds_toArray, List.set_cons_succ, List.set_cons_zero]
  have hT9 := h.below hb9; obtain ⟨wx, rfl⟩ : ∃ wx : World, wx = w9 := ⟨_, rfl⟩; have c0' := below_cell hb9 c0; have c1' := below_cell hb9 c1; have cx' := below_cell hb9 cx; have f1' := hT9.own.frozen 1; have hnew : Own (wx.setCell ⟨p, 1, none⟩ (.int .i64 ((at_ : Int) + 1))) p 55 [.slice (some ⟨b, off, none⟩) l.length c, .int .i64 ((at_ : Int) + 1)] := hT9.own.set_ 1 _; have hchg : Chg (fun k => k = p) w (wx.setCell ⟨p, 1, none⟩ (.int .i64 ((at_ : Int) + 1))) := Chg.setCell (p := ⟨p, 1, none⟩) (Chg.of_below (S := fun k => k = p) hb9 fun k h1 h2 => by omega) rfl _; have hrd := RdOut.chg h.rd hchg; have cx2 : (wx.setCell ⟨p, 1, none⟩ (.int .i64 ((at_ : Int) + 1))).cell? ⟨b, off + at_, none⟩ = some (.int .i64 x) := by
   rw [World.cell?_setCell_other _ _ _ _ (by intro e; injection e with e1; exact hnb e1.symm)]; exact cx'
  clear c0 c1 cx f1 hb9 hT9 cx'
  go_wp2_with fail
  generalize (wx.setCell ⟨p, 1, none⟩ (.int .i64 ((at_ : Int) + 1))) = wy at hnew hchg hrd cx2 |-; have e0 : wy.cell? ⟨p, 0, none⟩ = some (.slice (some ⟨b, off, none⟩) l.length c) := hnew.cell 0; have e1 : wy.cell? ⟨p, 1, none⟩ = some (.int .i64 ((at_ : Int) + 1)) := hnew.cell 1; clear c0' c1' f1'; have hI : (at_ : Int) < l.length := by omega
  refine wp_reg_f [some 22, some 23, some 24, some 25, some 26, some 27, some 28, some 29, some 30, some 31, some 32, some 33, some 34, some 4] [?v2_0, ?v2_1, ?v2_2, ?v2_3, ?v2_4, ?v2_5, ?v2_6, ?v2_7, ?v2_8, ?v2_9, ?v2_10, ?v2_11, ?v2_12, ?v2_13] [[], [0], [1], [2], [], [4], [5], [6], [7], [3, 8], [9], [], [10, 11], [12]] [(0, _), (1, _)] ⟨rfl, rfl, trivial⟩ rfl (by kernel_rfl) rfl rfl (by kernel_rfl) (by kernel_rfl) ⟨?s2_0, ?s2_1, ?s2_2, ?s2_3, ?s2_4, ?s2_5, ?s2_6, ?s2_7, ?s2_8, ?s2_9, ?s2_10, ?s2_11, ?s2_12, ?s2_13, trivial⟩ ?p2
  all_goals try (intro t9 w9 hT9 K9 hK9; simp only [OV, FV, List.getD_cons_succ, List.getD_cons_zero, Option.getD_some]; intros)
  case s2_0 | s2_1 | s2_2 | s2_3 | s2_4 | s2_5 | s2_6 | s2_7 | s2_8 | s2_9 | s2_10 | s2_11 =>
   have d9_0 := grow_cell hT9 e0; have d9_1 := grow_cell hT9 e1; have d9_2 := grow_cell hT9 cx2
   go_simp; exact hK9 _ (Grow.refl _)
  case s2_12 =>
   go_simp
   first | exact hK9 _ (Grow.refl _) | (refine (HM.out _).mono ?_; rintro _ w8 ⟨rfl, hb8⟩; exact hK9 _ hb8)
  case s2_13 =>
   have d9_0 := grow_cell hT9 e0; have d9_1 := grow_cell hT9 e1; have d9_2 := grow_cell hT9 cx2
   go_simp; exact hK9 _ (Grow.refl _)
  intro w9 hb9
  simp only [putL, Act.put, List.setIfInBounds_toArray, List.set_cons_succ, List.set_cons_zero]
  go_wp2_with fail
  have hT9 : Tape w9 p (some ⟨b, off, none⟩) l c (at_ + 1) := by
   refine Tape.below (w := wy) ⟨hnew, hrd, by omega, hfew, h.wf⟩ hb9
  go_ret
  exact ⟨r, at_ + 1, rfl, by omega, hT9, hchg.trans (Chg.of_below hb9 fun k h1 h2 => by omega)⟩
 ·have d0 : decide ((l.length : Int) <= (at_ : Int)) = true := decide_eq_true (by omega); have d1 : decide (l.length <= at_) = true := decide_eq_true (by omega)
  go_enter Tryz.func20, Tryz.ntmps20
  go_wp2_with fail
  refine wp_reg_f [some 5, some 6, some 7, some 8, some 9, some 10, some 11, some 12, some 13, some 14] [?v3_0, ?v3_1, ?v3_2, ?v3_3, ?v3_4, ?v3_5, ?v3_6, ?v3_7, ?v3_8, ?v3_9] [[], [0], [1], [2], [], [4], [5], [6], [7], [3, 8]] [(0, _)] ⟨rfl, trivial⟩ rfl (by kernel_rfl) rfl rfl (by kernel_rfl) (by kernel_rfl) ⟨?s3_0, ?s3_1, ?s3_2, ?s3_3, ?s3_4, ?s3_5, ?s3_6, ?s3_7, ?s3_8, ?s3_9, trivial⟩ ?p3
  all_goals try (intro t9 w9 hT9 K9 hK9; simp only [OV, FV, List.getD_cons_succ, List.getD_cons_zero, Option.getD_some]; intros)
  case s3_0 | s3_1 | s3_2 | s3_3 | s3_4 | s3_5 | s3_6 | s3_7 | s3_8 | s3_9 =>
   have d9_0 := grow_cell hT9 c0; have d9_1 := grow_cell hT9 c1
   go_simp; exact hK9 _ (Grow.refl _)
  intro w9 hb9
  simp only [putL, Act.put, List.setIfInBounds_toArray, List.set_cons_succ, List.set_cons_zero]
  have hT9 := h.below hb9; have hchg : Chg (fun k => k = p) w w9 := Chg.of_below hb9 fun k h1 h2 => by omega
  go_wp2
  go_ret
  exact ⟨0, at_, rfl, hn, hT9, hchg⟩

theorem new_any (A : Option Addr) (l : List Int) (c : Nat) (w : World) (hA : Ints w A l) (hl : l.length <= c) (hc : c <= maxLen) (hwf : ∀ x ∈ l, -9223372036854775808 <= x /\ x <= 9223372036854775807) :
  Calls Tryz.prog 7 #[.slice A l.length c] w fun e w' => e = .returned (.pointer (some ⟨w.heap.size, 0, none⟩)) /\ (∃ l', Tape w' w.heap.size A l' c 0) /\ Below w.heap.size w w' := by
 unfold maxLen at hc; have key : ∀ l' : List Int, Ints w A l' -> l'.length <= 120 -> (∀ x ∈ l', -9223372036854775808 <= x /\ x <= 9223372036854775807) -> Tape (w.alloc (.cells #[.slice A l'.length c, .int .i64 0] 55)) w.heap.size A l' c 0 := by
  intro l' hI hf hw; refine ⟨Own.new w _ [.slice A l'.length c, .int .i64 0], ?_, Nat.zero_le _, hf, hw⟩; intro j u hu; obtain ⟨b, off, e, hcell⟩ := hI j u hu; have hb := World.block_lt_of_cell? w _ hcell; exact ⟨b, off, e, fun h => by subst h; exact absurd hb (Nat.lt_irrefl _), below_cell ((Below.refl w.heap.size w).alloc (Nat.le_refl _) _) hcell⟩
 by_cases h120 : 120 < l.length
 ·have hk := key (l.take 120) (by have := Rd.take (show Rd w A (ci l) from hA) 120; unfold Ints; rw [<- List.map_take] at this; exact this) (by rw [List.length_take]; omega) (fun x hx => hwf x (List.mem_of_mem_take hx)); have e : (l.take 120).length = 120 := by rw [List.length_take]; omega
  rw [e] at hk; have HK := Z' hk; have h120I : (120 : Int) <= (c : Int) := by omega
  clear hk key hwf hA
  go_enter Tryz.func7, Tryz.ntmps7
  go_wp2
  go_ret
  exact ⟨rfl, ⟨_, HK.out⟩, (Below.refl _ _).alloc (Nat.le_refl _) _⟩
 ·have HK := Z' (key l hA (by omega) hwf); clear key hwf hA
  go_enter Tryz.func7, Tryz.ntmps7
  go_wp2
  go_ret
  exact ⟨rfl, ⟨_, HK.out⟩, (Below.refl _ _).alloc (Nat.le_refl _) _⟩

end Go.Proofs.YtjimfbmegmnocaaGreatDoor
