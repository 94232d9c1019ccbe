/- Parts of the proof: Kp, Wc. No condition of its own. -/
import Derived.Test.YtjimfbmegmnocaaGreatDoorCc
import Derived.Shelf.SlSortCmp.NoneTotal
import Derived.Lib.Small
import Derived.Test.YtjimfbmegmnocaaGreatDoorCma
set_option linter.unusedSimpArgs false
set_option linter.unusedVariables false
set_option maxRecDepth 100000
set_option maxHeartbeats 4000000
namespace Go.Proofs.YtjimfbmegmnocaaGreatDoor
open Go.RowKit Go.Sort

section
variable {α : Type} {lt : α -> α -> Bool}
structure Tot (lt : α -> α -> Bool) : Prop where
 irr : ∀ x, lt x x = false
 trans : ∀ x y z, lt x y = true -> lt y z = true -> lt x z = true
 tri : ∀ x y, lt x y = false -> lt y x = false -> x = y
theorem Tot.swo (T : Tot lt) : SWO lt where
 irrefl := T.irr
 trans := T.trans
 ntrans x y z h1 h2 := by
  cases h : lt x z with
  | false => rfl
  | true =>
   cases h3 : lt y x with
   | true => have := T.trans y x z h3 h; rw [h2] at this; cases this
   | false => have := T.tri x y h1 h3; subst this; rw [h] at h2; exact h2
def Srt (lt : α -> α -> Bool) (l : List α) : Prop := l.Pairwise (fun x y => lt x y = true)
theorem Srt.nodup (T : Tot lt) {l : List α} (h : Srt lt l) : l.Nodup := h.imp fun {a b} h e => by subst e; rw [T.irr] at h; cases h
theorem Srt.uniq (T : Tot lt) {l m : List α} (hl : Srt lt l) (hm : Srt lt m) (h : ∀ x, x ∈ l ↔ x ∈ m) : l = m := by
 refine List.Perm.eq_of_pairwise (le := fun a b => lt a b = true) (fun a b _ _ h1 h2 => ?_) hl hm ((List.perm_ext_iff_of_nodup (hl.nodup T) (hm.nodup T)).2 h); have := T.trans a b a h1 h2; rw [T.irr] at this
 cases this
theorem Srt.put (T : Tot lt) {l : List α} (h : Srt lt l) {x : α} {k : Nat} (h1 : ∀ y ∈ l.drop k, lt x y = true) (h2 : ∀ y ∈ l.take k, lt y x = true) : Srt lt (l.take k ++ x :: l.drop k) := by
 have h' : Srt lt (l.take k ++ l.drop k) := by rw [List.take_append_drop]; exact h
 have h3 := List.pairwise_append.1 h'; refine List.pairwise_append.2 ⟨h3.1, List.pairwise_cons.2 ⟨h1, h3.2.1⟩, fun a ha b hb => ?_⟩
 rcases List.mem_cons.1 hb with rfl | hb
 ·exact h2 a ha
 ·exact h3.2.2 a ha b hb
theorem Srt.ahead (T : Tot lt) {l : List α} (h : Srt lt l) {x y : α} {k : Nat} (hy : l[k]? = some y) (hl : lt y x = true) : ∀ z ∈ l.take (k + 1), lt z x = true := by
 intro z hz; obtain ⟨j, hj, e⟩ := List.mem_take_iff_getElem.1 hz; have hk : k < l.length := by
  rcases Nat.lt_or_ge k l.length with hk | hk
  ·exact hk
  ·rw [List.getElem?_eq_none hk] at hy; cases hy
 have hyk : l[k] = y := by rw [List.getElem?_eq_getElem hk] at hy; exact Option.some.inj hy
 by_cases hjk : j = k
 ·subst hjk; rw [<- e, hyk]; exact hl
 ·have := List.pairwise_iff_getElem.1 h j k (by omega) hk (by omega); rw [hyk, e] at this; exact T.trans z y x this hl
end

def ltC (f : ByteArray -> Nat) (x y : ByteArray) : Bool := decide (f y < f x) || (decide (f x = f y) && ltS x y)
theorem ltS_tot : Tot ltS := ⟨ltS_irrefl, fun _ _ _ => ltS_trans, fun x y h1 h2 => by
 rcases ltS_total x y with h | h | h
 ·rw [h] at h1; cases h1
 ·exact h
 ·rw [h] at h2; cases h2⟩
theorem ltC_tot (f : ByteArray -> Nat) : Tot (ltC f) where
 irr x := by simp [ltC, ltS_irrefl]
 trans x y z h1 h2 := by
  simp only [ltC, Bool.or_eq_true, Bool.and_eq_true, decide_eq_true_eq] at *
  rcases h1 with h1 | ⟨h1, h3⟩
  ·rcases h2 with h2 | ⟨h2, -⟩ <;> exact .inl (by omega)
  ·rcases h2 with h2 | ⟨h2, h4⟩
   ·exact .inl (by omega)
   ·exact .inr ⟨by omega, ltS_trans h3 h4⟩
 tri x y h1 h2 := by
  simp only [ltC, Bool.or_eq_false_iff, Bool.and_eq_false_iff, decide_eq_false_iff_not] at h1 h2
  have e : f x = f y := by omega
  refine ltS_tot.tri x y ?_ ?_
  ·exact h1.2.elim (fun h => absurd e h) id
  ·exact h2.2.elim (fun h => absurd e.symm h) id
def cmpW (x y : ByteArray) : Int := if ltS x y = true then -1 else if ltS y x = true then 1 else 0
theorem cmpW_neg (x y : ByteArray) : decide (cmpW x y < 0) = ltS x y := by
 unfold cmpW
 cases h : ltS x y <;> cases h2 : ltS y x <;> simp
def cfC (f : ByteArray -> Nat) (x y : ByteArray) : Int := if Lib.compareInt (f y : Int) (f x : Int) = 0 then cmpW x y else Lib.compareInt (f y : Int) (f x : Int)
theorem cfC_lt (f : ByteArray -> Nat) (x y : ByteArray) : decide (cfC f x y < 0) = ltC f x y := by
 unfold cfC ltC Lib.compareInt
 rcases Nat.lt_trichotomy (f y) (f x) with h | h | h
 ·simp [h, show (f y : Int) < (f x : Int) by omega]
 ·simp [h, cmpW_neg]
 ·simp [show ¬ (f y : Int) < (f x : Int) by omega, show (f x : Int) < (f y : Int) by omega, show ¬ (f y < f x) by omega, show ¬ f x = f y by omega]
open Go.RowKit Go.Sort

def GD (w w' : World) : Prop := Below w.heap.size w w' /\ w.drawn <= w'.drawn
section
variable {w w' w'' : World}
theorem GD.refl (w : World) : GD w w := ⟨Below.refl _ _, Nat.le_refl _⟩
theorem GD.trans (h : GD w w') (h' : GD w' w'') : GD w w'' := ⟨h.1.trans (h'.1.mono h.1.size), Nat.le_trans h.2 h'.2⟩
theorem GD.drew (h : GD w w') : GD w w'.drew := ⟨⟨h.1.os, h.1.tape, h.1.output, h.1.size, h.1.block⟩, Nat.le_trans h.2 (Nat.le_succ _)⟩
theorem GD.alloc (h : GD w w') (o : Obj) : GD w (w'.alloc o) := ⟨h.1.alloc h.1.size o, h.2⟩
theorem GD.chg {S : Nat -> Prop} (h : GD w w') : Chg S w w' := Chg.grow9 h.1
theorem GD.grow (h : GD w w') : ∃ q os, w' = Go.Sort.grow (w.drewN q) os := by
 refine ⟨w'.drawn - w.drawn, w'.heap.extract w.heap.size w'.heap.size, ?_⟩; obtain ⟨⟨h1, h2, h3, h4, h5⟩, h6⟩ := h; have e1 : w'.heap = w.heap ++ w'.heap.extract w.heap.size w'.heap.size := by
  apply Array.ext
  ·simp; omega
  ·intro i hi1 hi2; rw [Array.getElem_append]
   split
   ·rename_i hlt
    have := h5 i hlt; rw [Array.getElem?_eq_getElem hi1, Array.getElem?_eq_getElem hlt] at this; exact Option.some.inj this
   ·rename_i hge
    rw [Array.getElem_extract]
    congr 1
    omega
 have e2 : w'.drawn = w.drawn + (w'.drawn - w.drawn) := by omega
 cases w; cases w'
 simp only at h1 h2 h3
 subst h1 h2 h3; unfold Go.Sort.grow World.drewN
 simp only at e1 e2 |-
 rw [<- e1, <- e2]
end
theorem nanI_any (x : Int) (w : World) : Calls Tryz.prog 56 #[.int .i64 x] w fun e w' => e = .returned (.bool false) /\ w = w' := by
 go_enter Tryz.func56, Tryz.ntmps56
 go_wp2
 go_ret
 exact ⟨rfl, rfl⟩
theorem nanS_any (x : ByteArray) (w : World) : Calls Tryz.prog 57 #[.string x] w fun e w' => e = .returned (.bool false) /\ w = w' := by
 have d : (x.toList == x.toList) = true := by rw [str_beq]; exact decide_eq_true rfl
 go_enter Tryz.func57, Tryz.ntmps57
 go_wp2
 go_ret
 exact ⟨rfl, rfl⟩
theorem cmpI_any (x y : Int) (w : World) : Calls Tryz.prog 27 #[.int .i64 x, .int .i64 y] w fun e w' => e = .returned (.int .i64 (Lib.compareInt x y)) /\ w = w' := by
 rcases Int.lt_trichotomy x y with h | h | h
 ·have H : Hid (Lib.compareInt x y = -1) := by show _ = _; simp [Lib.compareInt, h]
  have d1 : decide (x < y) = true := decide_eq_true h
  go_enter Tryz.func27, Tryz.ntmps27
  go_wp2_with (refine (nanI_any _ _).mono ?_; rintro e w' ⟨rfl, rfl⟩)
  go_ret
  exact ⟨by rw [H.out]; rfl, rfl⟩
 ·subst h; have H : Hid (Lib.compareInt x x = 0) := by show _ = _; simp [Lib.compareInt]
  have d1 : decide (x < x) = false := decide_eq_false (by omega)
  go_enter Tryz.func27, Tryz.ntmps27
  go_wp2_with (refine (nanI_any _ _).mono ?_; rintro e w' ⟨rfl, rfl⟩)
  go_ret
  exact ⟨by rw [H.out]; rfl, rfl⟩
 ·have H : Hid (Lib.compareInt x y = 1) := by show _ = _; unfold Lib.compareInt; rw [if_neg (by omega), if_pos h]
  have d1 : decide (x < y) = false := decide_eq_false (by omega); have d2 : decide (y < x) = true := decide_eq_true h
  go_enter Tryz.func27, Tryz.ntmps27
  go_wp2_with (refine (nanI_any _ _).mono ?_; rintro e w' ⟨rfl, rfl⟩)
  go_ret
  exact ⟨by rw [H.out]; rfl, rfl⟩
theorem cmpS_any (x y : ByteArray) (w : World) : Calls Tryz.prog 29 #[.string x, .string y] w fun e w' => e = .returned (.int .i64 (cmpW x y)) /\ w = w' := by
 rcases ltS_total x y with h | h | h
 ·have H : Hid (cmpW x y = -1) := by show _ = _; simp [cmpW, h]
  have d1 : Op.bytesLess x.toList y.toList = true := h
  go_enter Tryz.func29, Tryz.ntmps29
  go_wp2_with (refine (nanS_any _ _).mono ?_; rintro e w' ⟨rfl, rfl⟩)
  go_ret
  exact ⟨by rw [H.out]; rfl, rfl⟩
 ·subst h; have H : Hid (cmpW x x = 0) := by show _ = _; simp [cmpW, ltS_irrefl]
  have d1 : Op.bytesLess x.toList x.toList = false := ltS_irrefl x
  go_enter Tryz.func29, Tryz.ntmps29
  go_wp2_with (refine (nanS_any _ _).mono ?_; rintro e w' ⟨rfl, rfl⟩)
  go_ret
  exact ⟨by rw [H.out]; rfl, rfl⟩
 ·have H : Hid (cmpW x y = 1) := by show _ = _; simp [cmpW, h, ltS_asymm h]
  have d1 : Op.bytesLess x.toList y.toList = false := ltS_asymm h; have d2 : Op.bytesLess y.toList x.toList = true := h; have d3 : (x.toList == y.toList) = false := by rw [str_beq]; exact decide_eq_false fun e => by rw [e, ltS_irrefl] at h; cases h
  go_enter Tryz.func29, Tryz.ntmps29
  go_wp2_with (refine (nanS_any _ _).mono ?_; rintro e w' ⟨rfl, rfl⟩)
  go_ret
  exact ⟨by rw [H.out]; rfl, rfl⟩
theorem or2_any (x y : Int) (g : Nat) (w : World) (ho : Own w g 3 [.int .i64 x, .int .i64 y]) : Calls Tryz.prog 28 #[.slice (some ⟨g, 0, none⟩) 2 2] w fun e w' => e = .returned (.int .i64 (if x = 0 then y else x)) /\ w = w' := by
 obtain ⟨k0, k1⟩ := ho.cells2; clear ho
 by_cases h : x = 0
 ·subst h
  by_cases h2 : y = 0
  ·subst h2
   go_enter Tryz.func28, Tryz.ntmps28
   go_wp2
   refine wp_loop_rounds 3 ?_; rw [rounds_succ]
   go_wp2
   rw [rounds_succ]
   go_wp2
   rw [rounds_succ]
   go_wp2
   go_ret
   exact ⟨rfl, rfl⟩
  ·have d1 : (y == (0 : Int)) = false := beq_eq_false_iff_ne.2 h2; have d2 : (y != (0 : Int)) = true := by rw [bne_iff_ne]; exact h2
   go_enter Tryz.func28, Tryz.ntmps28
   go_wp2
   refine wp_loop_rounds 2 ?_; rw [rounds_succ]
   go_wp2
   rw [rounds_succ]
   go_wp2
   go_ret
   exact ⟨rfl, rfl⟩
 ·have d1 : (x == (0 : Int)) = false := beq_eq_false_iff_ne.2 h; have d2 : (x != (0 : Int)) = true := by rw [bne_iff_ne]; exact h
  go_enter Tryz.func28, Tryz.ntmps28
  go_wp2
  refine wp_loop_rounds 1 ?_; rw [rounds_succ]
  go_wp2
  go_ret
  exact ⟨rfl, rfl⟩
def BW (x y : Int) (v : Value) (w : World) : Prop := ∃ g, v = .slice (some ⟨g, 0, none⟩) 2 2 /\ Own w g 3 [.int .i64 x, .int .i64 y]
theorem BW.gd {x y : Int} {v : Value} {w w' : World} (h : BW x y v w) (hc : GD w w') : BW x y v w' := by
 obtain ⟨g, rfl, h2⟩ := h; exact ⟨g, rfl, (hc.chg (S := fun _ => False)).own h2 id⟩
theorem cmpC_any (x y : ByteArray) (x1 x2 x3 x4 y1 y2 y3 y4 : Int) (w : World) : Calls Tryz.prog 39 #[.agg #[.string x, .int .i64 x1, .int .i64 x2, .int .i64 x3, .int .i64 x4], .agg #[.string y, .int .i64 y1, .int .i64 y2, .int .i64 y3, .int .i64 y4]] w fun e w' => e = .returned (.int .i64 (if Lib.compareInt y1 x1 = 0 then cmpW x y else Lib.compareInt y1 x1)) /\ GD w w' := by
 obtain ⟨res, hres⟩ : ∃ res, res = (if Lib.compareInt y1 x1 = 0 then cmpW x y else Lib.compareInt y1 x1) := ⟨_, rfl⟩; rw [<- hres]; have HR := Lib.hid hres; clear hres; obtain ⟨o_x, o_y, hbw⟩ := new2 w [.string x, .int .i64 x1, .int .i64 x2, .int .i64 x3, .int .i64 x4] [.string y, .int .i64 y1, .int .i64 y2, .int .i64 y3, .int .i64 y4] 49 49; have hgd : GD w ((w.alloc (.cells #[.string x, .int .i64 x1, .int .i64 x2, .int .i64 x3, .int .i64 x4] 49)).alloc (.cells #[.string y, .int .i64 y1, .int .i64 y2, .int .i64 y3, .int .i64 y4] 49)) := ((GD.refl w).alloc _).alloc _; have hsz : ((w.alloc (.cells #[.string x, .int .i64 x1, .int .i64 x2, .int .i64 x3, .int .i64 x4] 49)).alloc (.cells #[.string y, .int .i64 y1, .int .i64 y2, .int .i64 y3, .int .i64 y4] 49)).heap.size = w.heap.size + 1 + 1 := by simp
 go_enter Tryz.func39, Tryz.ntmps39
 go_upto_region 1 with (fail)
 generalize ((w.alloc (.cells #[.string x, .int .i64 x1, .int .i64 x2, .int .i64 x3, .int .i64 x4] 49)).alloc (.cells #[.string y, .int .i64 y1, .int .i64 y2, .int .i64 y3, .int .i64 y4] 49)) = wb at o_x o_y hbw hgd hsz |-; generalize w.heap.size = B at o_x o_y hsz |-; obtain ⟨x_0, x_1, x_2, x_3, x_4⟩ := o_x.cells5; obtain ⟨y_0, y_1, y_2, y_3, y_4⟩ := o_y.cells5; have nf : ∀ g : Nat, ¬ (fun _ : Nat => False) g := fun _ => id; refine wp_reg_t (fun a b => GD a b) ((fun a => GD.refl a)) ((fun _ _ _ h h' => h.trans h')) [some 5, some 6, some 7, some 8, some 9, some 10, some 11, some 12, some 13, some 14, some 15, some 16, some 17, some 18, some 4] [isV ?v1_0, isV ?v1_1, isV ?v1_2, isV ?v1_3, isV ?v1_4, isV ?v1_5, isV (.int .i64 (Lib.compareInt y1 x1)), isV ?v1_7, isV ?v1_8, isV ?v1_9, isV ?v1_10, isV (.int .i64 (cmpW x y)), (BW (Lib.compareInt y1 x1) (cmpW x y)), isV (.int .i64 res), isV ?v1_14] rfl (by kernel_rfl) rfl rfl ?k1 ⟨?s1_0, ?s1_1, ?s1_2, ?s1_3, ?s1_4, ?s1_5, ?s1_6, ?s1_7, ?s1_8, ?s1_9, ?s1_10, ?s1_11, ?s1_12, ?s1_13, ?s1_14, trivial⟩ ?p1
 case s1_0 | s1_9 =>
  intro t w T V O K k; have o3 := O 3 _ (show List.contains _ _ = false from by kernel_rfl) rfl; clear V O; go_simp
  (refine k _ _ ((fun a => GD.refl a) w) ?_; exact rfl)
 case s1_1 =>
  intro t w T V O K k; have p0 : t[5]? = some ?v1_0 := V.v 0 5 rfl rfl (by kernel_rfl) rfl; clear V O; go_simp
  (refine k _ _ ((fun a => GD.refl a) w) ?_; exact rfl)
 case s1_2 =>
  intro t w T V O K k; have p1 : t[6]? = some ?v1_1 := V.v 1 6 rfl rfl (by kernel_rfl) rfl; clear V O; have d0 := below_cell T.1 x_0; have d1 := below_cell T.1 x_1; have d2 := below_cell T.1 y_0; have d3 := below_cell T.1 y_1; go_simp
  (refine k _ _ ((fun a => GD.refl a) w) ?_; exact rfl)
 case s1_3 | s1_7 =>
  intro t w T V O K k; have o2 := O 2 _ (show List.contains _ _ = false from by kernel_rfl) rfl; clear V O; go_simp
  (refine k _ _ ((fun a => GD.refl a) w) ?_; exact rfl)
 case s1_4 =>
  intro t w T V O K k; have p3 : t[8]? = some ?v1_3 := V.v 3 8 rfl rfl (by kernel_rfl) rfl; clear V O; go_simp
  (refine k _ _ ((fun a => GD.refl a) w) ?_; exact rfl)
 case s1_5 =>
  intro t w T V O K k; have p4 : t[9]? = some ?v1_4 := V.v 4 9 rfl rfl (by kernel_rfl) rfl; clear V O; have d0 := below_cell T.1 x_0; have d1 := below_cell T.1 x_1; have d2 := below_cell T.1 y_0; have d3 := below_cell T.1 y_1; go_simp
  (refine k _ _ ((fun a => GD.refl a) w) ?_; exact rfl)
 case s1_6 =>
  intro t w T V O K k; have p9_2 : t[7]? = some ?v1_2 := V.v 2 7 rfl rfl (by kernel_rfl) rfl; have p9_5 : t[10]? = some ?v1_5 := V.v 5 10 rfl rfl (by kernel_rfl) rfl; clear V O; have d9_0 := below_cell T.1 x_0; have d9_1 := below_cell T.1 x_1; have d9_2 := below_cell T.1 y_0; have d9_3 := below_cell T.1 y_1; go_simp; refine (cmpI_any y1 x1 _).mono ?_; rintro _ _ ⟨rfl, rfl⟩; exact k _ _ (GD.refl _) rfl
 case s1_8 =>
  intro t w T V O K k; have p7 : t[12]? = some ?v1_7 := V.v 7 12 rfl rfl (by kernel_rfl) rfl; clear V O; have d0 := below_cell T.1 x_0; have d1 := below_cell T.1 x_1; have d2 := below_cell T.1 y_0; have d3 := below_cell T.1 y_1; go_simp
  (refine k _ _ ((fun a => GD.refl a) w) ?_; exact rfl)
 case s1_10 =>
  intro t w T V O K k; have p9 : t[14]? = some ?v1_9 := V.v 9 14 rfl rfl (by kernel_rfl) rfl; clear V O; have d0 := below_cell T.1 x_0; have d1 := below_cell T.1 x_1; have d2 := below_cell T.1 y_0; have d3 := below_cell T.1 y_1; go_simp
  (refine k _ _ ((fun a => GD.refl a) w) ?_; exact rfl)
 case s1_11 =>
  intro t w T V O K k; have p8 : t[13]? = some ?v1_8 := V.v 8 13 rfl rfl (by kernel_rfl) rfl; have p10 : t[15]? = some ?v1_10 := V.v 10 15 rfl rfl (by kernel_rfl) rfl; clear V O; have d0 := below_cell T.1 x_0; have d1 := below_cell T.1 x_1; have d2 := below_cell T.1 y_0; have d3 := below_cell T.1 y_1; go_simp; refine (cmpS_any x y _).mono ?_; rintro _ _ ⟨rfl, rfl⟩; exact k _ _ (GD.refl _) rfl
 case s1_12 =>
  intro t w T V O K k; have p9_6 : t[11]? = some ((.int .i64 (Lib.compareInt y1 x1))) := V.v 6 11 rfl rfl (by kernel_rfl) rfl; have p9_11 : t[16]? = some ((.int .i64 (cmpW x y))) := V.v 11 16 rfl rfl (by kernel_rfl) rfl; clear V O; have d9_0 := below_cell T.1 x_0; have d9_1 := below_cell T.1 x_1; have d9_2 := below_cell T.1 y_0; have d9_3 := below_cell T.1 y_1; go_simp; exact k _ _ ((GD.refl _).alloc _) ⟨_, rfl, Own.new _ _ _⟩
 case s1_13 =>
  intro t w T V O K k; obtain ⟨x9_12, p9_12, q9_12⟩ := V 12 17 rfl rfl (of_decide_eq_true (by kernel_rfl)); replace q9_12 : ((BW (Lib.compareInt y1 x1) (cmpW x y))) x9_12 w := q9_12; clear V O; have d9_0 := below_cell T.1 x_0; have d9_1 := below_cell T.1 x_1; have d9_2 := below_cell T.1 y_0; have d9_3 := below_cell T.1 y_1; obtain ⟨g9, rfl, ho9⟩ := q9_12; go_simp; refine (or2_any _ _ _ _ ho9).mono ?_; rintro _ _ ⟨rfl, rfl⟩; exact k _ _ (GD.refl _) (congrArg (Value.int .i64) HR.out.symm)
 case s1_14 =>
  intro t w T V O K k; have p13 : t[18]? = some ((.int .i64 res)) := V.v 13 18 rfl rfl (by kernel_rfl) rfl; clear V O; go_simp
  (refine k _ _ ((fun a => GD.refl a) w) ?_; exact rfl)
 case k1 =>
  intro i9 v9 w9 x9 h9 g9
  match i9, h9 with
  | 0, h9 => exact h9
  | 1, h9 => exact h9
  | 2, h9 => exact h9
  | 3, h9 => exact h9
  | 4, h9 => exact h9
  | 5, h9 => exact h9
  | 6, h9 => exact h9
  | 7, h9 => exact h9
  | 8, h9 => exact h9
  | 9, h9 => exact h9
  | 10, h9 => exact h9
  | 11, h9 => exact h9
  | 12, h9 => (replace h9 : (BW (Lib.compareInt y1 x1) (cmpW x y)) v9 w9 := h9); exact h9.gd g9
  | 13, h9 => exact h9
  | 14, h9 => exact h9
  | _ + 15, h9 => exact trivial
 intro u9 w9 hE9 hu9; have r9_0 : u9 0 = ?v1_0 := hu9 0 (by decide); have r9_1 : u9 1 = ?v1_1 := hu9 1 (by decide); have r9_2 : u9 2 = ?v1_2 := hu9 2 (by decide); have r9_3 : u9 3 = ?v1_3 := hu9 3 (by decide); have r9_4 : u9 4 = ?v1_4 := hu9 4 (by decide); have r9_5 : u9 5 = ?v1_5 := hu9 5 (by decide); have r9_6 : u9 6 = (.int .i64 (Lib.compareInt y1 x1)) := hu9 6 (by decide); have r9_7 : u9 7 = ?v1_7 := hu9 7 (by decide); have r9_8 : u9 8 = ?v1_8 := hu9 8 (by decide); have r9_9 : u9 9 = ?v1_9 := hu9 9 (by decide); have r9_10 : u9 10 = ?v1_10 := hu9 10 (by decide); have r9_11 : u9 11 = (.int .i64 (cmpW x y)) := hu9 11 (by decide); have r9_12 : (BW (Lib.compareInt y1 x1) (cmpW x y)) (u9 12) w9 := hu9 12 (by decide); have r9_13 : u9 13 = (.int .i64 res) := hu9 13 (by decide); have r9_14 : u9 14 = ?v1_14 := hu9 14 (by decide); clear hu9
 simp only [putAll, Act.put, List.setIfInBounds_toArray, List.set_cons_succ, List.set_cons_zero, List.getD_cons_succ, List.getD_cons_zero, Nat.reduceAdd, Nat.zero_add]
 simp only [r9_0, r9_1, r9_2, r9_3, r9_4, r9_5, r9_6, r9_7, r9_8, r9_9, r9_10, r9_11, r9_13, r9_14]
 clear r9_0 r9_1 r9_2 r9_3 r9_4 r9_5 r9_6 r9_7 r9_8 r9_9 r9_10 r9_11 r9_13 r9_14; clear r9_12
 go_wp2
 go_ret
 exact ⟨rfl, hgd.trans ((GD.refl wb).drew.trans hE9)⟩
end Go.Proofs.YtjimfbmegmnocaaGreatDoor
