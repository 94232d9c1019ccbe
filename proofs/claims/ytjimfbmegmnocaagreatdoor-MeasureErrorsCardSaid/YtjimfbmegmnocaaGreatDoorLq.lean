/- Parts of the proof: Lq. No condition of its own. -/
import Derived.Test.YtjimfbmegmnocaaGreatDoorLo
import Derived.Test.YtjimfbmegmnocaaGreatDoorIt
set_option linter.unusedSimpArgs false
set_option linter.unusedVariables false
set_option maxRecDepth 100000
set_option maxHeartbeats 4000000
namespace Go.Proofs.YtjimfbmegmnocaaGreatDoor
open Go.RowKit Dg

theorem cmpR_gt {x y : Rat} : (0 < cmpR x y) ↔ y < x := by
 unfold cmpR
 by_cases h1 : x < y
 ·rw [if_pos h1]; constructor
  ·intro h; omega
  ·intro h; exact absurd (show x < x by grind) Rat.lt_irrefl
 ·rw [if_neg h1]
  by_cases h2 : x = y
  ·rw [if_pos h2]; constructor
   ·intro h; omega
   ·intro h; rw [h2] at h; exact absurd h Rat.lt_irrefl
  ·rw [if_neg h2]; constructor
   ·intro _; grind
   ·intro _; omega
theorem cmpR_zero {x y : Rat} : (cmpR x y = 0) ↔ x = y := by
 unfold cmpR
 by_cases h1 : x < y
 ·rw [if_pos h1]; constructor
  ·intro h; omega
  ·intro h; rw [h] at h1; exact absurd h1 Rat.lt_irrefl
 ·rw [if_neg h1]
  by_cases h2 : x = y
  ·rw [if_pos h2]; simp [h2]
  ·rw [if_neg h2]; simp [h2]
def noU (v : Value) : Bool := match v with | .int .u32 _ => false | _ => true
theorem NatV.set1 {w : World} {v : Value} {n g : Nat} {t : TypeId} {c : Value} (h : NatV w v n) (ho : Own w g t [c]) (hc : noU c = true) (i : Nat) (u : Value) : NatV (w.setCell ⟨g, i, none⟩ u) v n := by
 obtain ⟨A, k, rfl, h1, h2, h3⟩ := h; refine ⟨A, k, rfl, h1, h2, Rd.set_own h3 ho (fun x hx hm => ?_) i u⟩; rw [List.mem_singleton.1 hx] at hm
 simp only [cw, List.mem_map] at hm
 obtain ⟨y, _, rfl⟩ := hm
 cases hc
def LogRes (X : Rat) (e : Ending) : Prop := ∃ n : Int, e = .returned (.tuple #[.int .i64 n, .bool (decide (p2 n = X)), .int .i64 0]) /\ IsLog X n /\ -1000000 <= n /\ n <= 1000000
theorem LogRes.eq {X : Rat} {e e' : Ending} (h : LogRes X e) (h' : LogRes X e') : e = e' := by
 obtain ⟨n, rfl, h1, -⟩ := h; obtain ⟨m, rfl, h2, -⟩ := h'; rw [h1.eq h2]

theorem log_core (s t : ByteArray) (k P Q : Nat) (w : World) (hi : RetV 99 #[.agg #[.bool false, .string s, .string t]] (.bool true)) (hs : (s.toList == [48]) = false) (hk : k <= 8)
  (hp : ∀ w, Calls Tryz.prog 101 #[.string s, .int .i64 (k : Int)] w fun e w' => ∃ v, e = .returned v /\ NatV w' v P /\ Below w.heap.size w w')
  (hq : ∀ w, Calls Tryz.prog 101 #[.string t, .int .i64 (k : Int)] w fun e w' => ∃ v, e = .returned v /\ NatV w' v Q /\ Below w.heap.size w w')
  (hP : 0 < P) (hQ : 0 < Q) (l1 : (dw P).length <= 20000) (l2 : (dw Q).length <= 20000) (b1 : blen P <= 400000) (b2 : blen Q <= 400000) :
  Calls Tryz.prog 80 #[.agg #[.bool false, .string s, .string t], .int .i64 (k : Int)] w fun e w' => LogRes (rat false P Q) e /\ Below w.heap.size w w' := by
 have HI := Z' hi; have HP := Z' hp; have HQ := Z' hq; have HQ0 := Z' hQ; have HUP := Z' (log_up hP hQ); have HDN := Z' (log_down hP hQ); have hkI : (k : Int) <= 8 := by omega
 have hkI0 : (0 : Int) <= (k : Int) := by omega
 obtain ⟨n, hn⟩ : ∃ n : Int, (blen P : Int) - (blen Q : Int) = n := ⟨_, rfl⟩; rw [hn] at HUP HDN; have hn1 : -400000 <= n := by omega
 have hn2 : n <= 400000 := by omega
 have HN := Z' hn; clear hi hp hq hP hQ hn; obtain ⟨o0, o1, o2, o3, hbw⟩ := new4 w [.bool false, .string s, .string t] [.int .i64 0] [.bool false] [.int .i64 0] 73 3 4 36; have hmf : ∀ (fn : Fn) (first cap : Array Value) (w : World), (Instr.makeFunc fn first cap).run Tryz.prog w = .ok (.func fn first cap) w := fun _ _ _ _ => rfl
 go_enter_defers Tryz.func80, Tryz.ntmps80
 go_upto_region 1 with (fail)
 generalize ((((w.alloc (.cells #[.bool false, .string s, .string t] 73)).alloc (.cells #[.int .i64 0] 3)).alloc (.cells #[.bool false] 4)).alloc (.cells #[.int .i64 0] 36)) = wb at o0 o1 o2 o3 hbw |-; obtain ⟨c0, c1, c2⟩ := o0.cells3
 go_wp2_with fail
 refine (HI.out _).mono ?_; rintro e wc ⟨rfl, hb1⟩; replace o0 := o0.below hb1 o0.lt; replace o1 := o1.below hb1 o1.lt; replace o2 := o2.below hb1 o2.lt; replace o3 := o3.below hb1 o3.lt; replace hbw := below6 hbw hb1; clear hb1 c0 c1 c2; obtain ⟨c0, c1, c2⟩ := o0.cells3
 go_upto_region 4 with (fail)
 refine wp_reg_ra [some 31, some 32, some 33, some 34, some 35, some 36, some 37, some 38, some 7, some 8] [isV ?v1_0, isV ?v1_1, isV ?v1_2, (fun v w' => NatV w' v P), isV ?v1_4, isV ?v1_5, isV ?v1_6, (fun v w' => NatV w' v Q), (fun v w' => NatV w' v P), (fun v w' => NatV w' v Q)] rfl (by kernel_rfl) rfl rfl ?k1 ⟨?s1_0, ?s1_1, ?s1_2, ?s1_3, ?s1_4, ?s1_5, ?s1_6, ?s1_7, ?s1_8, ?s1_9, trivial⟩ ?p1
 case s1_0 =>
  intro t9 w9 hT9 hV9 hO9 K9 hK9; have o9_2 := hO9.l 2; clear hV9 hO9; go_simp
  (refine hK9 _ _ (Grow.refl _) ?_; exact rfl)
 case s1_1 =>
  intro t w T V O K k; have p0 : t[31]? = some ?v1_0 := V.v 0 31 rfl rfl (by kernel_rfl) rfl; clear V O; have d0 := grow_cell T c0; have d1 := grow_cell T c1; have d2 := grow_cell T c2; go_simp
  (refine k _ _ (Grow.refl _) ?_; exact rfl)
 case s1_2 =>
  intro t9 w9 hT9 hV9 hO9 K9 hK9; have o9_1 := hO9.l 1; clear hV9 hO9; go_simp
  (refine hK9 _ _ (Grow.refl _) ?_; exact rfl)
 case s1_3 =>
  intro t w T V O K k; have p1 : t[32]? = some ?v1_1 := V.v 1 32 rfl rfl (by kernel_rfl) rfl; have p2 : t[33]? = some ?v1_2 := V.v 2 33 rfl rfl (by kernel_rfl) rfl; clear V O; go_simp; refine (HP.out _).mono ?_; rintro _ w8 ⟨v8, rfl, hv8, hb8⟩; exact k _ _ hb8 hv8
 case s1_4 =>
  intro t9 w9 hT9 hV9 hO9 K9 hK9; have o9_2 := hO9.l 2; clear hV9 hO9; go_simp
  (refine hK9 _ _ (Grow.refl _) ?_; exact rfl)
 case s1_5 =>
  intro t w T V O K k; have p4 : t[35]? = some ?v1_4 := V.v 4 35 rfl rfl (by kernel_rfl) rfl; clear V O; have d0 := grow_cell T c0; have d1 := grow_cell T c1; have d2 := grow_cell T c2; go_simp
  (refine k _ _ (Grow.refl _) ?_; exact rfl)
 case s1_6 =>
  intro t9 w9 hT9 hV9 hO9 K9 hK9; have o9_1 := hO9.l 1; clear hV9 hO9; go_simp
  (refine hK9 _ _ (Grow.refl _) ?_; exact rfl)
 case s1_7 =>
  intro t w T V O K k; have p5 : t[36]? = some ?v1_5 := V.v 5 36 rfl rfl (by kernel_rfl) rfl; have p6 : t[37]? = some ?v1_6 := V.v 6 37 rfl rfl (by kernel_rfl) rfl; clear V O; go_simp; refine (HQ.out _).mono ?_; rintro _ w8 ⟨v8, rfl, hv8, hb8⟩; exact k _ _ hb8 hv8
 case s1_8 =>
  intro t w T V O K k; obtain ⟨x3, p3, q3⟩ := V 3 34 rfl rfl (of_decide_eq_true (by kernel_rfl)); replace q3 : ((fun v w' => NatV w' v P)) x3 _ := q3; clear V O; go_simp; exact k _ _ (Grow.refl _) q3
 case s1_9 =>
  intro t w T V O K k; obtain ⟨x7, p7, q7⟩ := V 7 38 rfl rfl (of_decide_eq_true (by kernel_rfl)); replace q7 : ((fun v w' => NatV w' v Q)) x7 _ := q7; clear V O; go_simp; exact k _ _ (Grow.refl _) q7
 case k1 =>
  intro i9 v9 w9 x9 h9 g9
  match i9, h9 with
  | 0, h9 => exact h9
  | 1, h9 => exact h9
  | 2, h9 => exact h9
  | 3, h9 => (replace h9 : (fun v w' => NatV w' v P) v9 w9 := h9); exact NatV.below h9 g9
  | 4, h9 => exact h9
  | 5, h9 => exact h9
  | 6, h9 => exact h9
  | 7, h9 => (replace h9 : (fun v w' => NatV w' v Q) v9 w9 := h9); exact NatV.below h9 g9
  | 8, h9 => (replace h9 : (fun v w' => NatV w' v P) v9 w9 := h9); exact NatV.below h9 g9
  | 9, h9 => (replace h9 : (fun v w' => NatV w' v Q) v9 w9 := h9); exact NatV.below h9 g9
  | _ + 10, h9 => exact trivial
 intro u9 w9 hE9 hu9; have r9_0 : u9 0 = ?v1_0 := hu9 0 (by decide); have r9_1 : u9 1 = ?v1_1 := hu9 1 (by decide); have r9_2 : u9 2 = ?v1_2 := hu9 2 (by decide); have r9_3 : (fun v w' => NatV w' v P) (u9 3) w9 := hu9 3 (by decide); have r9_4 : u9 4 = ?v1_4 := hu9 4 (by decide); have r9_5 : u9 5 = ?v1_5 := hu9 5 (by decide); have r9_6 : u9 6 = ?v1_6 := hu9 6 (by decide); have r9_7 : (fun v w' => NatV w' v Q) (u9 7) w9 := hu9 7 (by decide); have r9_8 : (fun v w' => NatV w' v P) (u9 8) w9 := hu9 8 (by decide); have r9_9 : (fun v w' => NatV w' v Q) (u9 9) w9 := hu9 9 (by decide); clear hu9
 simp only [putAll, Act.put, List.setIfInBounds_toArray, List.set_cons_succ, List.set_cons_zero, List.getD_cons_succ, List.getD_cons_zero, Nat.reduceAdd, Nat.zero_add]
 simp only [r9_0, r9_1, r9_2, r9_4, r9_5, r9_6]
 clear r9_0 r9_1 r9_2 r9_4 r9_5 r9_6; generalize u9 8 = z9_8 at r9_8 |-; generalize u9 9 = z9_9 at r9_9 |-; clear c0 c1 c2 o0 HP HQ HI hmf; replace o1 := o1.below hE9 o1.lt; replace o2 := o2.below hE9 o2.lt; replace o3 := o3.below hE9 o3.lt; replace hbw := below6 hbw hE9; clear hE9; replace r9_8 : NatV w9 z9_8 P := r9_8; replace r9_9 : NatV w9 z9_9 Q := r9_9; clear r9_3 r9_7; obtain ⟨wd, rfl⟩ : ∃ wx : World, wx = w9 := ⟨_, rfl⟩; have hn9 : (blen P : Int) - (blen Q : Int) = n := HN.out; have zs : IntKind.i64.wrap n = n := IntWalk.i64_in _ (by omega); have zs2 : IntKind.i64.wrap ((blen P : Int) - (blen Q : Int)) = n := by rw [hn9]; exact zs
 have z1 : wd.cell? ⟨w.heap.size + 1, 0, none⟩ = some (.int .i64 0) := o1.cell 0; have z2 : wd.cell? ⟨w.heap.size + 1 + 1, 0, none⟩ = some (.bool false) := o2.cell 0; have z3 : wd.cell? ⟨w.heap.size + 1 + 1 + 1, 0, none⟩ = some (.int .i64 0) := o3.cell 0; have f1 := o1.frozen 0; have f2 := o2.frozen 0; have f3 := o3.frozen 0
 go_wp2_with fail
 refine (bits_any _ r9_8 (by omega)).mono ?_; rintro e we ⟨rfl, rfl⟩
 go_wp2_with fail
 refine (bits_any _ r9_9 (by omega)).mono ?_; rintro e we ⟨rfl, rfl⟩
 go_wp2_with fail
 have o1r := o1; replace o1 := o1.set_ 0 (.int .i64 n); replace o2 := o2.far (p := ⟨w.heap.size + 1, 0, none⟩) (by intro e; have e2 : w.heap.size + 1 + 1 = w.heap.size + 1 := e; omega) (.int .i64 n); replace o3 := o3.far (p := ⟨w.heap.size + 1, 0, none⟩) (by intro e; have e2 : w.heap.size + 1 + 1 + 1 = w.heap.size + 1 := e; omega) (.int .i64 n); replace hbw := hbw.setCell (p := ⟨w.heap.size + 1, 0, none⟩) (show w.heap.size <= w.heap.size + 1 by omega) (.int .i64 n); replace r9_8 := NatV.set1 r9_8 o1r rfl 0 (.int .i64 n); replace r9_9 := NatV.set1 r9_9 o1r rfl 0 (.int .i64 n); generalize (wd.setCell ⟨w.heap.size + 1, 0, none⟩ (.int .i64 n)) = wf at o1 o2 o3 hbw r9_8 r9_9 |-; clear z1 z2 z3 f1 f2 f3 hn9 zs2; have HT := fun (m : Int) (w : World) h1 h2 g1 g2 => Z' (times_any (v1 := z9_8) (v2 := z9_9) (P := P) (Q := Q) m w h1 h2 HQ0.out g1 g2 (by omega) (by omega)); refine (HT n _ r9_8 r9_9 (by omega) (by omega)).out.mono ?_
 rintro e wg ⟨rfl, hb6⟩; replace r9_8 := r9_8.below hb6; replace r9_9 := r9_9.below hb6; replace o1 := o1.below hb6 o1.lt; replace o2 := o2.below hb6 o2.lt; replace o3 := o3.below hb6 o3.lt; replace hbw := below6 hbw hb6; clear hb6; have hz1 := (cmpR_gt (x := p2 n) (y := rat false P Q)); have hz2 := (cmpR_zero (x := p2 n) (y := rat false P Q)); generalize cmpR (p2 n) (rat false P Q) = z at hz1 hz2 |-; have HZ1 := Z' hz1; have HZ2 := Z' hz2; clear hz1 hz2
 by_cases hz : 0 < z
 ·have HLT := Z' (HZ1.out.1 hz); have HR := Z' (HDN.out HLT.out); have zn : IntKind.i64.wrap (n - 1) = n - 1 := IntWalk.i64_in _ (by omega); have dz : decide (0 < z) = true := decide_eq_true hz; clear hz HZ1 HZ2; have z1 : wg.cell? ⟨w.heap.size + 1, 0, none⟩ = some (.int .i64 n) := o1.cell 0; have z2 : wg.cell? ⟨w.heap.size + 1 + 1, 0, none⟩ = some (.bool false) := o2.cell 0; have z3 : wg.cell? ⟨w.heap.size + 1 + 1 + 1, 0, none⟩ = some (.int .i64 0) := o3.cell 0; have f1 := o1.frozen 0; have f2 := o2.frozen 0; have f3 := o3.frozen 0
  go_wp2_with fail
  have o1r := o1; replace o1 := o1.set_ 0 (.int .i64 (n - 1)); replace o2 := o2.far (p := ⟨w.heap.size + 1, 0, none⟩) (by intro e; have e2 : w.heap.size + 1 + 1 = w.heap.size + 1 := e; omega) (.int .i64 (n - 1)); replace o3 := o3.far (p := ⟨w.heap.size + 1, 0, none⟩) (by intro e; have e2 : w.heap.size + 1 + 1 + 1 = w.heap.size + 1 := e; omega) (.int .i64 (n - 1)); replace hbw := hbw.setCell (p := ⟨w.heap.size + 1, 0, none⟩) (show w.heap.size <= w.heap.size + 1 by omega) (.int .i64 (n - 1)); replace r9_8 := NatV.set1 r9_8 o1r rfl 0 (.int .i64 (n - 1)); replace r9_9 := NatV.set1 r9_9 o1r rfl 0 (.int .i64 (n - 1)); generalize (wg.setCell ⟨w.heap.size + 1, 0, none⟩ (.int .i64 (n - 1))) = wh at o1 o2 o3 hbw r9_8 r9_9 |-; clear z1 z2 z3 f1 f2 f3; refine (HT (n - 1) _ r9_8 r9_9 (by omega) (by omega)).out.mono ?_; rintro e wi ⟨rfl, hb7⟩; replace o1 := o1.below hb7 o1.lt; replace o2 := o2.below hb7 o2.lt
  replace o3 := o3.below hb7 o3.lt; replace hbw := below6 hbw hb7; clear hb7 r9_8 r9_9; have hz2 := (cmpR_zero (x := p2 (n - 1)) (y := rat false P Q)); generalize cmpR (p2 (n - 1)) (rat false P Q) = z' at hz2 |-; obtain ⟨bx, hbx, hbx2⟩ : ∃ bx, (z' == 0) = bx /\ bx = decide (p2 (n - 1) = rat false P Q) := ⟨_, rfl, by rw [Bool.eq_iff_iff]; simp [hz2]⟩; have HBX := Z' hbx2; clear hz2 hbx2; obtain ⟨n', hn'⟩ : ∃ n' : Int, n - 1 = n' := ⟨_, rfl⟩; rw [hn'] at o1 HBX HR; have HNB : Hid (-1000000 <= n' /\ n' <= 1000000) := by show _ /\ _; omega
  clear zn dz; rw [hn']; clear hn'; have z1 : wi.cell? ⟨w.heap.size + 1, 0, none⟩ = some (.int .i64 n') := o1.cell 0; have z2 : wi.cell? ⟨w.heap.size + 1 + 1, 0, none⟩ = some (.bool false) := o2.cell 0; have z3 : wi.cell? ⟨w.heap.size + 1 + 1 + 1, 0, none⟩ = some (.int .i64 0) := o3.cell 0; have f1 := o1.frozen 0; have f2 := o2.frozen 0; have f3 := o3.frozen 0
  go_wp2_with fail
  replace o1 := o1.set_ 0 (.int .i64 n'); replace o2 := o2.far (p := ⟨w.heap.size + 1, 0, none⟩) (by intro e; have e2 : w.heap.size + 1 + 1 = w.heap.size + 1 := e; omega) (.int .i64 n'); replace o3 := o3.far (p := ⟨w.heap.size + 1, 0, none⟩) (by intro e; have e2 : w.heap.size + 1 + 1 + 1 = w.heap.size + 1 := e; omega) (.int .i64 n'); replace hbw := hbw.setCell (p := ⟨w.heap.size + 1, 0, none⟩) (show w.heap.size <= w.heap.size + 1 by omega) (.int .i64 n'); replace o1 := o1.far (p := ⟨w.heap.size + 1 + 1, 0, none⟩) (by intro e; have e2 : w.heap.size + 1 = w.heap.size + 1 + 1 := e; omega) (.bool bx); replace o2 := o2.set_ 0 (.bool bx); replace o3 := o3.far (p := ⟨w.heap.size + 1 + 1, 0, none⟩) (by intro e; have e2 : w.heap.size + 1 + 1 + 1 = w.heap.size + 1 + 1 := e; omega) (.bool bx); replace hbw := hbw.setCell (p := ⟨w.heap.size + 1 + 1, 0, none⟩) (show w.heap.size <= w.heap.size + 1 + 1 by omega) (.bool bx)
  replace o1 := o1.far (p := ⟨w.heap.size + 1 + 1 + 1, 0, none⟩) (by intro e; have e2 : w.heap.size + 1 = w.heap.size + 1 + 1 + 1 := e; omega) (.int .i64 0); replace o2 := o2.far (p := ⟨w.heap.size + 1 + 1 + 1, 0, none⟩) (by intro e; have e2 : w.heap.size + 1 + 1 = w.heap.size + 1 + 1 + 1 := e; omega) (.int .i64 0); replace o3 := o3.set_ 0 (.int .i64 0); replace hbw := hbw.setCell (p := ⟨w.heap.size + 1 + 1 + 1, 0, none⟩) (show w.heap.size <= w.heap.size + 1 + 1 + 1 by omega) (.int .i64 0); generalize (((wi.setCell ⟨w.heap.size + 1, 0, none⟩ (.int .i64 n')).setCell ⟨w.heap.size + 1 + 1, 0, none⟩ (.bool bx)).setCell ⟨w.heap.size + 1 + 1 + 1, 0, none⟩ (.int .i64 0)) = wz at o1 o2 o3 hbw |-; have y1 : wz.cell? ⟨w.heap.size + 1, 0, none⟩ = some (.int .i64 n') := o1.cell 0; have y2 : wz.cell? ⟨w.heap.size + 1 + 1, 0, none⟩ = some (.bool bx) := o2.cell 0; have y3 : wz.cell? ⟨w.heap.size + 1 + 1 + 1, 0, none⟩ = some (.int .i64 0) := o3.cell 0
  refine leaves_cons (f := 100) (args := #[.pointer (some ⟨w.heap.size + 1, 0, none⟩), .pointer (some ⟨w.heap.size + 1 + 1, 0, none⟩), .pointer (some ⟨w.heap.size + 1 + 1 + 1, 0, none⟩)]) (by simp) (by simp [go_sem]) ?_; refine (log_catch _ _ _ _).mono ?_; rintro e u' w'' ⟨rfl, rfl, rfl⟩
  simp [Leaves, settle, results, Tryz.results80, go_sem, y1, y2, y3]
  exact ⟨⟨n', by rw [HBX.out], HR.out, HNB.out⟩, hbw⟩
 ·have HLE : Hid (p2 n <= rat false P Q) := by
   show _ <= _
   rw [<- Rat.not_lt]; exact fun h => hz (HZ1.out.2 h)
  have HR := Z' (HUP.out HLE.out); have dz : decide (0 < z) = false := decide_eq_false hz; obtain ⟨bx, hbx, hbx2⟩ : ∃ bx, (z == 0) = bx /\ bx = decide (p2 n = rat false P Q) := ⟨_, rfl, by rw [Bool.eq_iff_iff]; simp [HZ2.out]⟩; have HBX := Z' hbx2; have HNB : Hid (-1000000 <= n /\ n <= 1000000) := by show _ /\ _; omega
  clear hbx2 hz HZ1 HZ2 r9_8 r9_9; have z1 : wg.cell? ⟨w.heap.size + 1, 0, none⟩ = some (.int .i64 n) := o1.cell 0; have z2 : wg.cell? ⟨w.heap.size + 1 + 1, 0, none⟩ = some (.bool false) := o2.cell 0; have z3 : wg.cell? ⟨w.heap.size + 1 + 1 + 1, 0, none⟩ = some (.int .i64 0) := o3.cell 0; have f1 := o1.frozen 0; have f2 := o2.frozen 0; have f3 := o3.frozen 0
  go_wp2_with fail
  replace o1 := o1.set_ 0 (.int .i64 n); replace o2 := o2.far (p := ⟨w.heap.size + 1, 0, none⟩) (by intro e; have e2 : w.heap.size + 1 + 1 = w.heap.size + 1 := e; omega) (.int .i64 n); replace o3 := o3.far (p := ⟨w.heap.size + 1, 0, none⟩) (by intro e; have e2 : w.heap.size + 1 + 1 + 1 = w.heap.size + 1 := e; omega) (.int .i64 n); replace hbw := hbw.setCell (p := ⟨w.heap.size + 1, 0, none⟩) (show w.heap.size <= w.heap.size + 1 by omega) (.int .i64 n); replace o1 := o1.far (p := ⟨w.heap.size + 1 + 1, 0, none⟩) (by intro e; have e2 : w.heap.size + 1 = w.heap.size + 1 + 1 := e; omega) (.bool bx); replace o2 := o2.set_ 0 (.bool bx); replace o3 := o3.far (p := ⟨w.heap.size + 1 + 1, 0, none⟩) (by intro e; have e2 : w.heap.size + 1 + 1 + 1 = w.heap.size + 1 + 1 := e; omega) (.bool bx); replace hbw := hbw.setCell (p := ⟨w.heap.size + 1 + 1, 0, none⟩) (show w.heap.size <= w.heap.size + 1 + 1 by omega) (.bool bx)
  replace o1 := o1.far (p := ⟨w.heap.size + 1 + 1 + 1, 0, none⟩) (by intro e; have e2 : w.heap.size + 1 = w.heap.size + 1 + 1 + 1 := e; omega) (.int .i64 0); replace o2 := o2.far (p := ⟨w.heap.size + 1 + 1 + 1, 0, none⟩) (by intro e; have e2 : w.heap.size + 1 + 1 = w.heap.size + 1 + 1 + 1 := e; omega) (.int .i64 0); replace o3 := o3.set_ 0 (.int .i64 0); replace hbw := hbw.setCell (p := ⟨w.heap.size + 1 + 1 + 1, 0, none⟩) (show w.heap.size <= w.heap.size + 1 + 1 + 1 by omega) (.int .i64 0); generalize (((wg.setCell ⟨w.heap.size + 1, 0, none⟩ (.int .i64 n)).setCell ⟨w.heap.size + 1 + 1, 0, none⟩ (.bool bx)).setCell ⟨w.heap.size + 1 + 1 + 1, 0, none⟩ (.int .i64 0)) = wz at o1 o2 o3 hbw |-; have y1 : wz.cell? ⟨w.heap.size + 1, 0, none⟩ = some (.int .i64 n) := o1.cell 0; have y2 : wz.cell? ⟨w.heap.size + 1 + 1, 0, none⟩ = some (.bool bx) := o2.cell 0; have y3 : wz.cell? ⟨w.heap.size + 1 + 1 + 1, 0, none⟩ = some (.int .i64 0) := o3.cell 0
  refine leaves_cons (f := 100) (args := #[.pointer (some ⟨w.heap.size + 1, 0, none⟩), .pointer (some ⟨w.heap.size + 1 + 1, 0, none⟩), .pointer (some ⟨w.heap.size + 1 + 1 + 1, 0, none⟩)]) (by simp) (by simp [go_sem]) ?_; refine (log_catch _ _ _ _).mono ?_; rintro e u' w'' ⟨rfl, rfl, rfl⟩
  simp [Leaves, settle, results, Tryz.results80, go_sem, y1, y2, y3]
  exact ⟨⟨n, by rw [HBX.out], HR.out, HNB.out⟩, hbw⟩
end Go.Proofs.YtjimfbmegmnocaaGreatDoor
