/- Parts of the proof: Xv, Xw. No condition of its own. -/
import Derived.Test.YtfenjklilocjgaaGreatDoorXu
import Derived.Test.YtfenjklilocjgaaGreatDoorSlas
import Derived.Shelf.Slices.In.SortNone
import Derived.Sort.OwnSorted
set_option linter.unusedSimpArgs false
set_option linter.unusedVariables false
set_option linter.unusedSectionVars false
namespace Go.Proofs.YtfenjklilocjgaaGreatDoor
set_option linter.unusedSimpArgs false
set_option linter.unusedVariables false
set_option linter.unusedSectionVars false
open Go.RowKit

theorem chg_low {S : Nat → Prop} {w w1 w2 : World} (h : Chg S w w1) (h2 : Chg (fun k => S k ∨ w.heap.size ≤ k) w1 w2) : Chg S w w2 :=
  ⟨h2.os.trans h.os, h2.tape.trans h.tape, h2.output.trans h.output, Nat.le_trans h.size h2.size, fun k hk hn => (h2.block k (by have := h.size; omega) (fun e => e.elim hn (fun x => by omega))).trans (h.block k hk hn)⟩
theorem chg_grown {S : Nat → Prop} {w w' : World} {row : Option Nat} (hg : w.grownBy w' row) (hr : ∀ k, row = some k → S k) : Chg S w w' :=
  ⟨hg.os, hg.tape, hg.output, hg.size, fun k hk hn => hg.block k hk fun e => hn (hr k e.symm)⟩
set_option maxRecDepth 100000 in
set_option maxHeartbeats 4000000 in
theorem finish_any (p : Nat) (D : List ByteArray) (A A2 : Option Addr) (c n2 c2 : Nat) (hD : D.length ≤ 1000) (hs : ∀ s ∈ D, s.size ≤ 1000) (w : World) (o : Own w p 49 [.slice A D.length c, .slice A2 n2 c2, .slice none 0 0]) (hR : Rd w A (strs D)) :
    Calls Tryz.prog 15 #[.pointer (some ⟨p, 0, none⟩)] w fun e w' => e = .returned (.tuple #[]) ∧ (∃ rv, Own w' p 49 [.slice A D.length c, .slice A2 n2 c2, rv]) ∧ Chg (fun k => k = p) w w' := by
  obtain ⟨i0, hi0, hz0, hz1, hz2⟩ := int_parts
  have hmk := run_make_strs D.length (by omega) w
  have HRO := Lib.hid (rd_lex o hR)
  have HS := Lib.hid hs
  have n0 : w.cell? ⟨p, 0, none⟩ = some (.slice A D.length c) := o.cell 0
  have hp := o.lt
  clear hR hs
  obtain ⟨o_row, o_box, hbw⟩ := new2 w (emps D.length) [.slice (some ⟨w.heap.size, 0, none⟩) D.length D.length] 9 28
  have hsz := size2 w (.cells (emps D.length).toArray 9) (.cells #[.slice (some ⟨w.heap.size, 0, none⟩) D.length D.length] 28)
  have o_p := o.below hbw hp
  have hc0 : Chg (fun k => k = p) w ((w.alloc (.cells (emps D.length).toArray 9)).alloc (.cells #[.slice (some ⟨w.heap.size, 0, none⟩) D.length D.length] 28)) := Chg.grow9 hbw
  clear o
  go_enter Tryz.func15, Tryz.ntmps15
  go_upto_region 1 with (fail)
  generalize ((w.alloc (.cells (emps D.length).toArray 9)).alloc (.cells #[.slice (some ⟨w.heap.size, 0, none⟩) D.length D.length] 28)) = wb at o_row o_box hbw hsz o_p hc0 ⊢
  clear hmk n0
  have n0 : wb.cell? ⟨p, 0, none⟩ = some (.slice A D.length c) := o_p.cell 0
  obtain ⟨B, hB⟩ : ∃ B, B = w.heap.size := ⟨_, rfl⟩
  rw [← hB] at o_row o_box hsz hp ⊢
  have HB := Lib.hid hB
  clear hB hbw
  have HW : Hid (Own wb B 9 (strs (List.replicate D.length ⟨#[]⟩))) := by
    have e : strs (List.replicate D.length ⟨#[]⟩) = emps D.length := by unfold strs emps; rw [List.map_replicate]
    show Own _ _ _ _
    rw [e]; exact o_row
  have HX := Lib.hid o_box
  have HP := Lib.hid o_p
  have HC := Lib.hid hc0
  clear o_row o_box o_p hc0
  go_wp2_with fail
  clear n0
  go_loopg [16] (D.length + 1) (fun q v16 wr => ∃ (i : Nat) (l : List ByteArray) (v : Value), q = D.length + 1 - i ∧ i ≤ D.length ∧ v16 = .int .i64 (i : Int) ∧ Hid (l.length = D.length) ∧ Hid (Own wr B 9 (strs l)) ∧ Hid (Own wr (B + 1) 28 [.slice (some ⟨B, 0, none⟩) D.length D.length]) ∧ Hid (Own wr p 49 [.slice A D.length c, .slice A2 n2 c2, v]) ∧ Hid (wr.ownsRow (B + 2) 3 1 v i (ints (List.range i))) ∧ Hid (Chg (fun k => k = p) w wr) ∧ B + 2 ≤ wr.heap.size)
  case atStart => exact ⟨0, _, _, rfl, Nat.zero_le _, rfl, (show (List.replicate D.length _).length = _ by simp), HW, HX, HP, World.ownsRow_nil _ _ _ _, HC, by omega⟩
  case round =>
    clear HW HX HP HC hsz
    obtain ⟨i, l, v, rfl, hi, rfl, HL, HW, HX, HP, HO, HC, hwr⟩ := hrel
    have x0 : wr.cell? ⟨B + 1, 0, none⟩ = some (.slice (some ⟨B, 0, none⟩) D.length D.length) := HX.out.cell 0
    by_cases hlt : i < D.length
    · obtain ⟨bA, oA, hA, k0⟩ := (HRO.out.chg HC.out).rd i (.string D[i]) (by unfold strs; rw [List.getElem?_map, List.getElem?_eq_getElem hlt]; rfl)
      have HSi := Lib.hid (HS.out _ (List.getElem_mem hlt))
      generalize D[i] = u at k0 HSi
      subst hA
      have HIL : Hid (i < l.length) := by show i < l.length; rw [HL.out]; exact hlt
      go_upto_region 4 with (fail)
      refine wp_reg_st [some 21, some 22, some 23, some 24, some 25, none] [isV ?v1_0, isV ?v1_1, isV ?v1_2, (fun (v : Value) (w' : World) => (∃ t : ByteArray, v = .string t) ∧ World.heap w' = World.heap w'), isV (.pointer (some ⟨B, i, none⟩)), fun _ _ => False] [anyV, anyV, anyV, anyV, anyV, anyV] 5 [0, 1, 2, 3, 4] (fun _ => fun w' => ∃ t : ByteArray, Own w' B 9 (strs (l.set i t)) ∧ Chg (fun k => k = B) wr w') rfl (by kernel_rfl) rfl rfl (by decide) (by kernel_rfl) (by kernel_rfl) (fun _ _ _ _ h => h) ?k1 ?m1 ⟨?s1_0, ?s1_1, ?s1_2, ?s1_3, ?s1_4, ?s1_5, trivial⟩ ?p1
      case s1_0 =>
        rw [if_neg (by decide)]
        constructor
        · rw [if_neg (by decide)]
          intro t9 w9 hT9 hV9 hO9 K9 hK9
          have o9_2 := hO9 2 _ (.inl (show List.contains _ _ = false from by kernel_rfl)) rfl
          clear hV9 hO9
          have d9_0 := grow_cell hT9 x0
          go_simp
          (refine hK9 _ _ (Grow.refl _) ?_; exact rfl)
        · rw [if_pos (by decide)]; trivial
      case s1_1 =>
        rw [if_neg (by decide)]
        constructor
        · rw [if_neg (by decide)]
          intro t9 w9 hT9 hV9 hO9 K9 hK9
          have o9_3 := hO9 3 _ (.inl (show List.contains _ _ = false from by kernel_rfl)) rfl
          clear hV9 hO9
          go_simp
          (refine hK9 _ _ (Grow.refl _) ?_; exact rfl)
        · rw [if_pos (by decide)]; trivial
      case s1_2 =>
        rw [if_neg (by decide)]
        constructor
        · rw [if_neg (by decide)]
          intro t9 w9 hT9 hV9 hO9 K9 hK9
          have o9_4 := hO9 4 _ (.inl (show List.contains _ _ = false from by kernel_rfl)) rfl
          clear hV9 hO9
          go_simp
          (refine hK9 _ _ (Grow.refl _) ?_; exact rfl)
        · rw [if_pos (by decide)]; trivial
      case s1_3 =>
        rw [if_neg (by decide)]
        constructor
        · rw [if_neg (by decide)]
          intro t9 w9 hT9 hV9 hO9 K9 hK9
          obtain ⟨x9_2, p9_2, q9_2⟩ := hV9 2 23 rfl rfl (of_decide_eq_true (by kernel_rfl))
          obtain rfl : x9_2 = ?v1_2 := q9_2
          clear hV9 hO9
          go_simp
          refine (reverse_any u HSi.out _).mono ?_
          rintro e w8 ⟨t, rfl, -, hb8⟩
          exact hK9 _ _ hb8 ⟨⟨t, rfl⟩, rfl⟩
        · rw [if_pos (by decide)]; trivial
      case s1_4 =>
        rw [if_neg (by decide)]
        constructor
        · rw [if_neg (by decide)]
          intro t9 w9 hT9 hV9 hO9 K9 hK9
          obtain ⟨x9_0, p9_0, q9_0⟩ := hV9 0 21 rfl rfl (of_decide_eq_true (by kernel_rfl))
          obtain rfl : x9_0 = ?v1_0 := q9_0
          obtain ⟨x9_1, p9_1, q9_1⟩ := hV9 1 22 rfl rfl (of_decide_eq_true (by kernel_rfl))
          obtain rfl : x9_1 = ?v1_1 := q9_1
          clear hV9 hO9
          go_simp
          (refine hK9 _ _ (Grow.refl _) ?_; exact rfl)
        · rw [if_pos (by decide)]; trivial
      case s1_5 =>
        rw [if_pos (by decide)]
        intro t9 w9 hT9 hV9 hO9 K9 hK9
        obtain ⟨x9_3, p9_3, q9_3⟩ := hV9 3 24 (by decide) rfl (of_decide_eq_true (by kernel_rfl))
        replace q9_3 : ((fun (v : Value) (w' : World) => (∃ t : ByteArray, v = .string t) ∧ World.heap w' = World.heap w')) x9_3 _ := q9_3
        obtain ⟨⟨t3, rfl⟩, -⟩ := q9_3
        obtain ⟨x9_4, p9_4, q9_4⟩ := hV9 4 25 (by decide) rfl (of_decide_eq_true (by kernel_rfl))
        obtain rfl : x9_4 = (.pointer (some ⟨B, i, none⟩)) := q9_4
        clear hV9 hO9
        have og := HW.out.below hT9.below HW.out.lt
        have d0 : w9.cell? ⟨B, i, none⟩ = some (.string (l[i]'HIL.out)) := by rw [og.cell]; unfold strs; rw [List.getElem?_map, List.getElem?_eq_getElem HIL.out]; rfl
        have f0 := og.frozen i
        have HE : Hid ((fun w' => ∃ t : ByteArray, Own w' B 9 (strs (l.set i t)) ∧ Chg (fun k => k = B) wr w') (w9.setCell ⟨B, i, none⟩ (.string t3))) := ⟨t3, strs_set l i t3 ▸ og.set_ i _, Chg.setCell (S := fun k => k = B) (Chg.grow9 hT9.below) (p := ⟨B, i, none⟩) rfl _⟩
        clear og
        go_simp
        exact hK9 undef _ HE.out trivial
      case k1 =>
        intro i9 v9 w9 x9 h9 g9
        match i9, h9 with
        | 0, h9 => exact h9
        | 1, h9 => exact h9
        | 2, h9 => exact h9
        | 3, h9 => (replace h9 : (fun (v : Value) (w' : World) => (∃ t : ByteArray, v = .string t) ∧ World.heap w' = World.heap w') v9 w9 := h9); exact ⟨h9.1, rfl⟩
        | 4, h9 => exact h9
        | 5, h9 => exact h9
        | _ + 6, h9 => exact trivial
      case m1 =>
        intro i9 v9 w9 x9 ha9 hs9 h9
        match i9, ha9, hs9, h9 with
        | 0, ha9, hs9, h9 => exact absurd (by decide) ha9
        | 1, ha9, hs9, h9 => exact absurd (by decide) ha9
        | 2, ha9, hs9, h9 => exact absurd (by decide) ha9
        | 3, ha9, hs9, h9 => exact absurd (by decide) ha9
        | 4, ha9, hs9, h9 => exact absurd (by decide) ha9
        | 5, ha9, hs9, h9 => exact absurd rfl hs9
        | _ + 6, ha9, hs9, h9 => exact trivial
      intro u9 w9 hE9 hu9
      obtain ⟨_, r9_0⟩ := (hu9 0 (by decide)).pre (by decide)
      replace r9_0 : u9 0 = ?v1_0 := r9_0
      obtain ⟨_, r9_1⟩ := (hu9 1 (by decide)).pre (by decide)
      replace r9_1 : u9 1 = ?v1_1 := r9_1
      obtain ⟨_, r9_2⟩ := (hu9 2 (by decide)).pre (by decide)
      replace r9_2 : u9 2 = ?v1_2 := r9_2
      obtain ⟨_, r9_4⟩ := (hu9 4 (by decide)).pre (by decide)
      replace r9_4 : u9 4 = (.pointer (some ⟨B, i, none⟩)) := r9_4
      clear hu9
      obtain ⟨t9', HW9, hc9⟩ := hE9
      simp only [putAll, Act.put, List.setIfInBounds_toArray, List.set_cons_succ, List.set_cons_zero, List.getD_cons_succ, List.getD_cons_zero, Nat.reduceAdd, Nat.zero_add]
      simp only [r9_0, r9_1, r9_2, r9_4]
      clear r9_0 r9_1 r9_2 r9_4
      have HX9 := Lib.hid (hc9.own HX.out (show ¬ B + 1 = B by omega))
      have HP9 := Lib.hid (hc9.own HP.out (show ¬ p = B by omega))
      have HO9 := Lib.hid (ownsRow_o HO.out hc9 (fun k hk e => by omega))
      have HL9 : Hid ((l.set i t9').length = D.length) := by show _ = _; rw [List.length_set, HL.out]
      have HW9' := Lib.hid HW9
      have HC9 := Lib.hid (chg_low HC.out (hc9.mono (T := fun k => k = p ∨ w.heap.size ≤ k) fun k _ e => .inr (by have := HB.out; omega)))
      have hw9 := hc9.size
      clear HW HX HP HO HC HL HW9 hc9 x0 k0 HIL
      have n2' : w9.cell? ⟨p, 2, none⟩ = some v := HP9.out.cell 2
      go_wp2_with (at_builtin; refine wpList_append_own_at _ rfl (.tmp 30) (.tmp 32) 27 rfl (B + 2) 3 i0 _ 1 8 Tryz.underlying27 hi0 hz0 hz1 hz2 rfl (by decide) _ i (ints (List.range i)) rfl (HO9.out.alloc _) ⟨w9.heap.size, 0, none⟩ 1 1 [.int .i64 (i : Int)] rfl rfl (cells_u8 _ _ _) (by simp [Value.oneCell']) (by unfold maxLen; omega) (by omega) (by rw [size1]; omega) ?_)
      intro v' w' hown' hgrow _ _
      have hca : Chg (fun k => B + 2 ≤ k) w9 w' := ((Chg.refl _ w9).alloc _).trans (chg_grown hgrow fun k e => own_lt HO9.out k e)
      have HWa := Lib.hid (hca.own HW9'.out (show ¬ B + 2 ≤ B by omega))
      have HXa := Lib.hid (hca.own HX9.out (show ¬ B + 2 ≤ B + 1 by omega))
      have o_pa := hca.own HP9.out (show ¬ B + 2 ≤ p by omega)
      have HOa : Hid (w'.ownsRow (B + 2) 3 1 v' (i + 1) (ints (List.range (i + 1)))) := by show World.ownsRow _ _ _ _ _ _ _; rw [ints_range]; exact hown'
      have hca2 := chg_low HC9.out (hca.mono (T := fun k => k = p ∨ w.heap.size ≤ k) fun k _ e => .inr (by have := HB.out; omega))
      have hwa := hca.size
      obtain ⟨A', c', rfl, -, -⟩ := own_form hown'
      have n3 : w'.cell? ⟨p, 2, none⟩ = some v := o_pa.cell 2
      have f3 := o_pa.frozen 2
      have hnb : (Value.slice A' (i + 1) c').ownBlock ≠ some p := fun e => by have := own_lt hown' _ e; omega
      have HPb := Lib.hid (o_pa.set_ 2 (.slice A' (i + 1) c'))
      have HWb := Lib.hid (HWa.out.far (p := ⟨p, 2, none⟩) (show B ≠ p by omega) (.slice A' (i + 1) c'))
      have HXb := Lib.hid (HXa.out.far (p := ⟨p, 2, none⟩) (show B + 1 ≠ p by omega) (.slice A' (i + 1) c'))
      have HOb := Lib.hid (HOa.out.kept (grownBy_setCell w' ⟨p, 2, none⟩ (.slice A' (i + 1) c')) (.inr hnb))
      have HCb := Lib.hid (hca2.setCell (p := ⟨p, 2, none⟩) rfl (.slice A' (i + 1) c'))
      have hwb : B + 2 ≤ (w'.setCell ⟨p, 2, none⟩ (.slice A' (i + 1) c')).heap.size := by simp only [World.setCell, Array.size_modify]; omega
      clear hgrow hown' hca HO9 HW9' HX9 HP9 HC9 HWa HXa HOa o_pa hca2 n2' hnb
      go_wp2_with fail
      go_roundg (D.length + 1 - (i + 1))
      case measure => omega
      case rel => exact ⟨i + 1, _, _, rfl, by omega, by go_num, HL9, HWb, HXb, HPb, HOb, HCb, hwb⟩
    · have n2' : wr.cell? ⟨p, 2, none⟩ = some v := HP.out.cell 2
      have HO2 : Hid (wr.ownsRow (B + 2) 3 1 v D.length (ints (List.range D.length))) := by
        have e : i = D.length := by omega
        have := HO.out
        rw [e] at this; exact this
      clear HO
      go_wp2_with fail
      refine (sort_rev (B + 2) (B + 1) B l v D.length HL.out (by omega) wr HO2.out (by omega) (by omega) x0 HW.out).mono ?_
      rintro e w2 ⟨rfl, hc2⟩
      have HP2 := Lib.hid (hc2.own HP.out (show ¬ B + 2 ≤ p by omega))
      have HC2 := Lib.hid (chg_low HC.out (hc2.mono (T := fun k => k = p ∨ w.heap.size ≤ k) fun k _ e => .inr (by have := HB.out; omega)))
      clear hc2 n2' x0
      go_wp2
      go_end0
      exact ⟨rfl, ⟨_, HP2.out⟩, HC2.out⟩
set_option linter.unusedSimpArgs false
set_option linter.unusedVariables false
set_option linter.unusedSectionVars false
open Go.RowKit Go.Sort Go.Shelf

theorem le_pair (bs : List (List UInt8)) : (bs.mergeSort fun x y => decide (x ≤ y)).Pairwise fun x y => decide (x ≤ y) = true := by
  refine List.pairwise_mergeSort (le := fun x y => decide (x ≤ y)) (fun a b c h1 h2 => ?_) (fun a b => ?_) bs
  · simp only [decide_eq_true_eq] at *
    exact List.le_trans h1 h2
  · simp only [Bool.or_eq_true, decide_eq_true_eq]
    exact List.le_total a b
theorem sort_strs (base : Nat) (v : Value) (ss : List ByteArray) (hn : ss.Nodup) (hl : ss.length ≤ 1000000) (w : World) (hrow : w.ownsRow base 9 1 v ss.length (strs ss)) :
    Calls Tryz.prog 14 #[v] w fun e w' => e = .returned (.tuple #[]) ∧ (∃ D, Srt ltS D ∧ (∀ s, s ∈ D ↔ s ∈ ss) ∧ D.length = ss.length ∧ w'.ownsRow base 9 1 v D.length (strs D)) ∧ Chg (fun k => base ≤ k) w w' := by
  rcases hrow.2 with ⟨rfl, h0⟩ | ⟨g, cap, cur, rfl, hB, hh, hnc, hcm, hcs, htk⟩
  · obtain rfl : ss = [] := List.eq_nil_of_length_eq_zero h0
    refine (Any.slices_Sort_string_none Tryz.sortStrs none 0 w).mono ?_
    rintro e w' ⟨rfl, rfl⟩
    exact ⟨rfl, ⟨[], List.Pairwise.nil, fun _ => Iff.rfl, rfl, World.ownsRow_nil _ _ _ _⟩, Chg.refl _ _⟩
  · obtain ⟨bs, hbs⟩ : ∃ bs : List (List UInt8), bs = ss.map fun s => s.data.toList := ⟨_, rfl⟩
    have hbl : bs.length = ss.length := by rw [hbs, List.length_map]
    have hst : strs ss = bs.map encStr := by
      rw [hbs, List.map_map]; rfl
    have hH : Holds encStr w g 0 bs.toArray := holds_of_block hh (by rw [hbl, ← hst]; simpa using htk)
    have hlt : g < w.heap.size := (Array.getElem?_eq_some_iff.1 hh).1
    have hz := Any.slices_Sort_string Tryz.sortStrs g 0 cap bs w hH hlt (by omega)
    rw [hbl] at hz
    refine hz.mono ?_
    rintro e w' ⟨rfl, n, os, rfl⟩
    have hp := le_pair bs
    have hpm : (bs.mergeSort fun x y => decide (x ≤ y)).Perm bs := List.mergeSort_perm bs _
    generalize (bs.mergeSort fun x y => decide (x ≤ y)) = ts at hp hpm ⊢
    have hnb : bs.Nodup := by
      rw [hbs]
      refine (List.pairwise_map.2 (hn.imp fun {a b} hab e => hab ?_))
      cases a; cases b
      simp only [ByteArray.mk.injEq] at *
      exact Array.toList_inj.1 e
    have hnt : ts.Nodup := hpm.nodup_iff.2 hnb
    have hr := ownsRow_sorted (w := w) (n := n) (os := os) (ss := bs) (ts := ts) hpm.length_eq hB hh (by rw [hbl]; exact hnc) hcm hcs
    have hg := grownBy_sorted (w := w) (g := g) (n := n) (os := os) ts.toArray
    refine ⟨rfl, ⟨ts.map fun b => (⟨b.toArray⟩ : ByteArray), srt_le hp hnt, fun s => ?_, by rw [List.length_map, hpm.length_eq, hbl], ?_⟩, chg_grown hg fun k e => by injection e with e; omega⟩
    · rw [List.mem_map]
      constructor
      · rintro ⟨b, hb, rfl⟩
        rw [hpm.mem_iff, hbs, List.mem_map] at hb
        obtain ⟨s, hs, rfl⟩ := hb
        exact hs
      · intro hs
        exact ⟨s.data.toList, by rw [hpm.mem_iff, hbs]; exact List.mem_map.2 ⟨s, hs, rfl⟩, rfl⟩
    · have e : strs (ts.map fun b => (⟨b.toArray⟩ : ByteArray)) = ts.map encStr := by unfold strs; rw [List.map_map]; rfl
      rw [e, List.length_map, hpm.length_eq, hbl]
      rw [hbl] at hr
      exact hr
end Go.Proofs.YtfenjklilocjgaaGreatDoor
