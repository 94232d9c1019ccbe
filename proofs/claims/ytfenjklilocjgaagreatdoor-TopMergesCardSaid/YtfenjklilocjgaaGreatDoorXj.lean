/- Parts of the proof: Xp, Xi, Xj. No condition of its own. -/
import Derived.Test.YtfenjklilocjgaaGreatDoorKp
import Derived.Test.YtfenjklilocjgaaGreatDoorSlsr
set_option linter.unusedSimpArgs false
set_option linter.unusedVariables false
set_option linter.unusedSectionVars false
namespace Go.Proofs.YtfenjklilocjgaaGreatDoor
set_option linter.unusedSimpArgs false
set_option linter.unusedVariables false
set_option linter.unusedSectionVars false
open Go.RowKit

/-- The different words of ws, in ascending order. -/
structure Lex (D ws : List ByteArray) : Prop where
  srt : Srt ltS D
  mem : ∀ s, s ∈ D ↔ s ∈ ws
theorem Lex.uniq {D D' ws ws' : List ByteArray} (h : Lex D ws) (h' : Lex D' ws') (hm : ∀ s, s ∈ ws ↔ s ∈ ws') : D = D' :=
  h.srt.uniq ltS_tot h'.srt fun x => (h.mem x).trans ((hm x).trans (h'.mem x).symm)
theorem Lex.nodup {D ws : List ByteArray} (h : Lex D ws) : D.Nodup := h.srt.nodup ltS_tot
/-- A word's number: how many words are less. -/
def idx (D : List ByteArray) (s : ByteArray) : Nat := D.countP fun t => ltS t s
theorem idx_get : ∀ {D : List ByteArray}, Srt ltS D → ∀ {i : Nat} {s : ByteArray}, D[i]? = some s → idx D s = i := by
  intro D
  induction D with
  | nil => intro _ i s h; simp at h
  | cons t r ih =>
    intro hs i s h
    have hp := List.pairwise_cons.1 (show (t :: r).Pairwise _ from hs)
    unfold idx
    rw [List.countP_cons]
    cases i with
    | zero =>
      have h : t = s := by simpa using h
      subst h
      rw [if_neg (by rw [ltS_irrefl]; decide), Nat.add_zero, List.countP_eq_zero]
      intro x hx hlt
      have h1 := hp.1 x hx
      have := ltS_trans h1 hlt
      rw [ltS_irrefl] at this
      cases this
    | succ i =>
      have h : r[i]? = some s := by simpa using h
      have hm := List.mem_of_getElem? h
      rw [if_pos (hp.1 s hm)]
      have : r.countP (fun t => ltS t s) = i := ih hp.2 h
      rw [this]
theorem Lex.at_ {D ws : List ByteArray} (h : Lex D ws) {s : ByteArray} (hs : s ∈ ws) : idx D s < D.length ∧ D[idx D s]? = some s := by
  obtain ⟨i, hi⟩ := List.mem_iff_getElem?.1 ((h.mem s).2 hs)
  rw [idx_get h.srt hi]
  exact ⟨(List.getElem?_eq_some_iff.1 hi).1, hi⟩
/-- The words, each as often as it stands. -/
def allOf (D ws : List ByteArray) : List ByteArray := D.flatMap fun s => List.replicate (cn ws s) s
theorem cn_app (a b : List ByteArray) (s : ByteArray) : cn (a ++ b) s = cn a s + cn b s := List.countP_append
theorem cn_rep (n : Nat) (t s : ByteArray) : cn (List.replicate n t) s = if t = s then n else 0 := by
  unfold cn
  rw [List.countP_replicate]
  by_cases h : t = s <;> simp [h]
open Classical in
theorem cn_flat (ws : List ByteArray) (s : ByteArray) : ∀ {D : List ByteArray}, D.Nodup → cn (allOf D ws) s = if s ∈ D then cn ws s else 0 := by
  intro D
  induction D with
  | nil => intro _; simp [allOf, cn]
  | cons t r ih =>
    intro hn
    rw [List.nodup_cons] at hn
    show cn (List.replicate (cn ws t) t ++ allOf r ws) s = _
    rw [cn_app, cn_rep, ih hn.2]
    by_cases e : t = s
    · subst e; simp [hn.1]
    · have e' : ¬ s = t := fun x => e x.symm
      simp [e, e']
open Classical in
theorem Lex.cn_all {D ws : List ByteArray} (h : Lex D ws) (s : ByteArray) : cn (allOf D ws) s = cn ws s := by
  rw [cn_flat ws s h.nodup]
  by_cases e : s ∈ D
  · rw [if_pos e]
  · rw [if_neg e]
    rcases Nat.eq_zero_or_pos (cn ws s) with h0 | h0
    · exact h0.symm
    · exact absurd ((h.mem s).2 (cn_pos.1 h0)) e
theorem Lex.mem_all {D ws : List ByteArray} (h : Lex D ws) (s : ByteArray) : s ∈ allOf D ws ↔ s ∈ ws := by rw [← cn_pos, h.cn_all, cn_pos]
theorem flat_len (f : ByteArray → Nat) : ∀ D : List ByteArray, (D.flatMap fun s => List.replicate (f s) s).length = (D.map f).sum := by
  intro D
  induction D with
  | nil => rfl
  | cons t r ih => rw [List.flatMap_cons, List.length_append, List.length_replicate, ih, List.map_cons, List.sum_cons]
open Classical in
/-- The counts of different words are at most all. -/
theorem sum_le (ws : List ByteArray) : ∀ {D : List ByteArray}, D.Nodup → (D.map (cn ws)).sum ≤ ws.length := by
  induction ws with
  | nil =>
    intro D _
    have : ∀ D : List ByteArray, (D.map (cn [])).sum = 0 := by
      intro D
      induction D with
      | nil => rfl
      | cons t r ih => rw [List.map_cons, List.sum_cons, ih]; rfl
    rw [this]; exact Nat.zero_le _
  | cons t ws ih =>
    intro D hD
    have key : ∀ D : List ByteArray, D.Nodup → (D.map (cn (t :: ws))).sum ≤ (D.map (cn ws)).sum + (if t ∈ D then 1 else 0) := by
      intro D
      induction D with
      | nil => intro _; simp
      | cons u r ih2 =>
        intro hn
        rw [List.nodup_cons] at hn
        have h1 := ih2 hn.2
        have h2 : cn (t :: ws) u = cn ws u + if t = u then 1 else 0 := by
          unfold cn
          rw [List.countP_cons]
          by_cases e : t = u <;> simp [e]
        rw [List.map_cons, List.sum_cons, List.map_cons, List.sum_cons, h2]
        by_cases e : t = u
        · subst e
          rw [if_neg hn.1] at h1
          simp
          omega
        · simp only [List.mem_cons, e, false_or, if_false]
          omega
    have h3 := key D hD
    have h4 := ih hD
    have h5 : (if t ∈ D then 1 else 0) ≤ 1 := by split <;> omega
    rw [List.length_cons]
    omega
theorem Lex.all_len {D ws : List ByteArray} (h : Lex D ws) : (allOf D ws).length ≤ ws.length := by
  unfold allOf
  rw [flat_len]
  exact sum_le ws h.nodup
theorem Lex.len {D ws : List ByteArray} (h : Lex D ws) : D.length ≤ ws.length := by
  refine Nat.le_trans ?_ (sum_le ws h.nodup)
  have : ∀ D : List ByteArray, (∀ s ∈ D, 0 < cn ws s) → D.length ≤ (D.map (cn ws)).sum := by
    intro D
    induction D with
    | nil => intro _; exact Nat.le_refl _
    | cons t r ih =>
      intro hp
      have h1 := ih fun s hs => hp s (by simp [hs])
      have h2 := hp t (by simp)
      rw [List.length_cons, List.map_cons, List.sum_cons]
      omega
  exact this D fun s hs => cn_pos.2 ((h.mem s).1 hs)
/-- What is merged: the lexicon of both. -/
theorem Lex.merge {Dx Dy Dz Dw u v : List ByteArray} (hx : Lex Dx u) (hy : Lex Dy v) (hz : Lex Dz (u ++ v)) (hw : Lex Dw (allOf Dx u ++ allOf Dy v)) :
    Dw = Dz ∧ ∀ s, cn (allOf Dx u ++ allOf Dy v) s = cn (u ++ v) s := by
  refine ⟨hw.uniq hz fun s => ?_, fun s => ?_⟩
  · rw [List.mem_append, List.mem_append, hx.mem_all, hy.mem_all]
  · rw [cn_app, cn_app, hx.cn_all, hy.cn_all]
/-- A number renamed. -/
theorem Lex.renamed {Dx Dz u ws : List ByteArray} (hx : Lex Dx u) (hz : Lex Dz ws) {s : ByteArray} (hs : s ∈ u) : (Dx.map (idx Dz))[idx Dx s]? = some (idx Dz s) := by
  rw [List.getElem?_map, (hx.at_ hs).2]
  rfl
set_option linter.unusedSimpArgs false
set_option linter.unusedVariables false
set_option linter.unusedSectionVars false
open Go.RowKit

set_option maxRecDepth 100000 in
set_option maxHeartbeats 2000000 in
theorem num_closure (bx bw p bA oA c i : Nat) (D : List ByteArray) (s : ByteArray) (hi : i < D.length) (W : World)
    (hx : W.cell? ⟨bx, 0, none⟩ = some (.pointer (some ⟨p, 0, none⟩))) (hw : W.cell? ⟨bw, 0, none⟩ = some (.string s)) (hp : W.cell? ⟨p, 0, none⟩ = some (.slice (some ⟨bA, oA, none⟩) D.length c)) (hc : W.cell? ⟨bA, oA + i, none⟩ = some (.string D[i])) (hl : D.length ≤ 1000000) :
    Calls Tryz.prog 35 (#[.int .i64 i] ++ #[.pointer (some ⟨bx, 0, none⟩), .pointer (some ⟨bw, 0, none⟩)]) W fun e w' => e = .returned (.bool (!ltS D[i] s)) ∧ ∃ q, w' = W.drewN q := by
  generalize D[i] = t at hc ⊢
  have hiz : (i : Int) < (D.length : Int) := by omega
  have mixed : Tryz.prog.follows .mixedOrders = true := by kernel_rfl
  go_enter Tryz.func35, Tryz.ntmps35
  go_wp2
  go_region_o
  all_goals go_wp2
  all_goals go_ret
  all_goals exact ⟨by first | rfl | simp [ltS], 1, rfl⟩
theorem range_getD (D : List ByteArray) (d : ByteArray) : (List.range D.length).map (fun i => D.getD i d) = D := by
  apply List.ext_getElem
  · simp
  · intro i h1 h2
    simp only [List.getElem_map, List.getElem_range]
    simp [List.getD_eq_getElem?_getD, List.getElem?_eq_getElem h2]
theorem range_count (D : List ByteArray) (d s : ByteArray) : (List.range D.length).countP (fun i => !(!ltS (D.getD i d) s)) = idx D s := by
  have : idx D s = ((List.range D.length).map (fun i => D.getD i d)).countP fun t => ltS t s := by rw [range_getD]; rfl
  rw [this, List.countP_map]
  congr 1
  funext i
  simp
theorem srt_mono {D : List ByteArray} (h : Srt ltS D) (d s : ByteArray) : ∀ a b, a ≤ b → b < D.length → (!ltS (D.getD a d) s) = true → (!ltS (D.getD b d) s) = true := by
  intro a b hab hb h1
  rcases Nat.eq_or_lt_of_le hab with rfl | hlt
  · exact h1
  · have ha : a < D.length := by omega
    have h2 := List.pairwise_iff_getElem.1 (show D.Pairwise _ from h) a b ha hb hlt
    rw [List.getD_eq_getElem?_getD, List.getElem?_eq_getElem ha, Option.getD_some] at h1
    rw [List.getD_eq_getElem?_getD, List.getElem?_eq_getElem hb, Option.getD_some]
    cases h3 : ltS D[b] s with
    | false => rfl
    | true => rw [ltS_trans h2 h3] at h1; cases h1
set_option maxRecDepth 100000 in
set_option maxHeartbeats 4000000 in
theorem number_any (p : Nat) (E : List (ByteArray × Nat)) (D : List ByteArray) (hD : E.map (·.1) = D) (hs : Srt ltS D) (hE : D.length ≤ 1000) (s : ByteArray) (hi : D[idx D s]? = some s) (w : World) (h : LexIn w p E) :
    Calls Tryz.prog 16 #[.pointer (some ⟨p, 0, none⟩), .string s] w fun e w' => e = .returned (.tuple #[.int .i64 (idx D s : Int), .bool true]) ∧ Below w.heap.size w w' := by
  obtain ⟨A, c, A2, c2, rv, o_x, hR1, -, hc1, hc2, -, -⟩ := h
  have eL : E.length = D.length := by rw [← hD, List.length_map]
  have eM : (E.map fun e => Value.string e.1) = strs D := by rw [← hD]; simp [strs]
  rw [eM] at hR1
  rw [eL] at o_x hc1
  have hlt := (List.getElem?_eq_some_iff.1 hi).1
  obtain ⟨bA, oA, rfl, k0⟩ := hR1 (idx D s) (.string s) (by unfold strs; rw [List.getElem?_map, hi]; rfl)
  have HR1 := Lib.hid hR1
  clear hR1 hD eM eL E
  obtain ⟨o_a, o_b, hbw⟩ := new2 w [.pointer (some ⟨p, 0, none⟩)] [.string s] 33 9
  have hsz : ((w.alloc (.cells #[.pointer (some ⟨p, 0, none⟩)] 33)).alloc (.cells #[.string s] 9)).heap.size = w.heap.size + 2 := by simp
  go_enter Tryz.func16, Tryz.ntmps16
  go_upto_region 1 with (fail)
  have o_xw := o_x.below hbw o_x.lt
  have HRw := Lib.hid (HR1.out.below hbw)
  have k0w := below_cell hbw k0
  generalize ((w.alloc (.cells #[.pointer (some ⟨p, 0, none⟩)] 33)).alloc (.cells #[.string s] 9)) = wb at o_a o_b hbw hsz o_xw HRw k0w ⊢
  have ca : wb.cell? ⟨w.heap.size, 0, none⟩ = some (.pointer (some ⟨p, 0, none⟩)) := o_a.cell 0
  have cb : wb.cell? ⟨w.heap.size + 1, 0, none⟩ = some (.string s) := o_b.cell 0
  have cp : wb.cell? ⟨p, 0, none⟩ = some (.slice (some ⟨bA, oA, none⟩) D.length c) := o_xw.cell 0
  have hS := Any.sort_Search (P := Tryz.prog) Tryz.search 35 #[.pointer (some ⟨w.heap.size, 0, none⟩), .pointer (some ⟨w.heap.size + 1, 0, none⟩)] D.length (fun i => !ltS (D.getD i s) s) wb (enters_of Tryz.func35 (by kernel_rfl) rfl) (by omega)
    (fun m os i hi => by
      obtain ⟨b9, off9, e9, cc⟩ := HRw.out i (.string D[i]) (by unfold strs; rw [List.getElem?_map, List.getElem?_eq_getElem hi]; rfl)
      injection e9 with e9
      injection e9 with q1 q2
      subst q1 q2
      refine (num_closure w.heap.size (w.heap.size + 1) p bA oA c i D s hi _ (cell_grown (show w.heap.size < _ by omega) ca m os) (cell_grown (show w.heap.size + 1 < _ by omega) cb m os) (cell_grown (World.block_lt_of_cell? wb _ (by rw [cp])) cp m os) (cell_grown (World.block_lt_of_cell? wb _ (by rw [cc])) cc m os) (by omega)).mono ?_
      rintro e w' ⟨rfl, q, rfl⟩
      refine ⟨?_, q, #[], by rw [Sort.grow_empty]⟩
      rw [List.getD_eq_getElem?_getD, List.getElem?_eq_getElem hi, Option.getD_some])
    (srt_mono hs s s)
  rw [range_count] at hS
  have HS := Lib.hid hS
  clear hS
  go_wp2_with fail
  refine (HS.out).mono ?_
  rintro e w' ⟨rfl, q, os, rfl⟩
  have hb2 := below_grown_sl wb.heap.size wb q os (Nat.le_refl _)
  generalize Sort.grow (wb.drewN q) os = w2 at hb2 ⊢
  have ca2 := below_cell hb2 ca
  have cb2 := below_cell hb2 cb
  have cp2 := below_cell hb2 cp
  have ck2 := below_cell hb2 k0w
  clear HS ca cb cp k0w
  have d1 : ((idx D s : Int) == (D.length : Int)) = false := beq_eq_false_iff_ne.2 (by omega)
  generalize hk : idx D s = k at *
  go_upto_region 2 with (fail)
  refine wp_reg_f [some 14, some 15, some 16, some 17, some 18, some 19, some 20, some 21, some 22, some 23, some 24, some 25, some 26, some 27, some 28, some 29, some 30, some 31] [?v1_0, ?v1_1, ?v1_2, ?v1_3, ?v1_4, ?v1_5, ?v1_6, ?v1_7, ?v1_8, ?v1_9, ?v1_10, ?v1_11, ?v1_12, ?v1_13, ?v1_14, ?v1_15, ?v1_16, ?v1_17] [[], [], [1], [2], [3], [4], [0, 5], [6], [7], [7, 8], [7, 9], [7, 10], [7], [7, 11, 12], [7, 13], [7], [7, 14, 15], [7, 16]] [(2, _), (3, _), (6, _)] ⟨rfl, rfl, rfl, trivial⟩ rfl (by kernel_rfl) rfl rfl (by kernel_rfl) (by kernel_rfl) ⟨?s1_0, ?s1_1, ?s1_2, ?s1_3, ?s1_4, ?s1_5, ?s1_6, ?s1_7, ?s1_8, ?s1_9, ?s1_10, ?s1_11, ?s1_12, ?s1_13, ?s1_14, ?s1_15, ?s1_16, ?s1_17, trivial⟩ ?p1
  all_goals try (intro t9 w9 hT9 K9 hK9; simp only [OV, FV, List.getD_cons_succ, List.getD_cons_zero, Option.getD_some]; intros)
  case s1_0 | s1_1 | s1_2 | s1_3 | s1_4 | s1_5 | s1_6 | s1_7 | s1_8 | s1_9 | s1_10 | s1_11 | s1_12 | s1_13 | s1_14 | s1_15 | s1_16 | s1_17 =>
    have d9_0 := grow_cell hT9 ca2; have d9_1 := grow_cell hT9 cb2; have d9_2 := grow_cell hT9 cp2; have d9_3 := grow_cell hT9 ck2
    go_simp
    exact hK9 _ (Grow.refl _)
  intro w9 hb9
  simp only [putL, Act.put, List.setIfInBounds_toArray, List.set_cons_succ, List.set_cons_zero]
  have hb3 : Below w.heap.size w w9 := by
    have h1 : w.heap.size ≤ wb.heap.size := hbw.size
    have h2 := hbw.trans (hb2.mono h1)
    exact h2.trans (hb9.mono h2.size)
  go_wp2
  go_ret2
  exact ⟨by rw [hk]; rfl, hb3⟩
set_option linter.unusedSimpArgs false
set_option linter.unusedVariables false
set_option linter.unusedSectionVars false
open Go.RowKit

def ints (L : List Nat) : List Value := L.map fun (n : Nat) => Value.int .i64 (n : Int)
theorem int_parts : ∃ i, Tryz.prog.info? 3 = some i ∧ i.zero = some (.int .i64 0) ∧ i.size = 1 ∧ i.bytes = 8 := by
  obtain ⟨i0, hi0, hz0, hz1, hz2⟩ := info_parts (show (Tryz.prog.info? 3).map (fun i => (i.zero, i.size, i.bytes)) = some (some (.int .i64 0), 1, 8) by kernel_rfl)
  exact ⟨i0, hi0, hz0, hz1, hz2⟩
set_option maxRecDepth 100000 in
set_option maxHeartbeats 4000000 in
theorem numbersOf_any (p q : Nat) (Ez Ey : List (ByteArray × Nat)) (D : List ByteArray) (hD : Ez.map (·.1) = D) (hs : Srt ltS D) (hE : D.length ≤ 1000) (hY : Ey.length ≤ 1000)
    (hi : ∀ e ∈ Ey, D[idx D e.1]? = some e.1) (w : World) (hz : LexIn w p Ez) (hy : LexIn w q Ey) :
    Calls Tryz.prog 18 #[.pointer (some ⟨p, 0, none⟩), .pointer (some ⟨q, 0, none⟩)] w fun e w' => ∃ v, e = .returned v ∧ w'.ownsRow w.heap.size 3 1 v Ey.length (ints (Ey.map fun e => idx D e.1)) ∧ Below w.heap.size w w' := by
  have HZ := Lib.hid hz
  have HI := Lib.hid hi
  obtain ⟨A, c, A2, c2, rv, o_x, hR1, -, hc1, hc2, -, -⟩ := hy
  have HR1 := Lib.hid hR1
  clear hz hi hR1
  obtain ⟨i0, hi0, hz0, hz1, hz2⟩ := int_parts
  have n0 := o_x.cell 0
  obtain ⟨B, hB⟩ : ∃ B, B = w.heap.size := ⟨_, rfl⟩
  have HB := Lib.hid hB
  clear hB
  go_enter Tryz.func18, Tryz.ntmps18
  go_wp2_with fail
  go_loopg [5, 15] (Ey.length + 1) (fun q v5 v15 wr => ∃ (i : Nat) (L : List Nat), q = Ey.length + 1 - i ∧ i ≤ Ey.length ∧ v15 = .int .i64 (i : Int) ∧ L.length = i ∧ Hid (L = (Ey.take i).map fun e => idx D e.1) ∧ Hid (wr.ownsRow B 3 1 v5 i (ints L)) ∧ Below B w wr)
  case atStart => exact ⟨0, [], rfl, Nat.zero_le _, rfl, rfl, rfl, World.ownsRow_nil _ _ _ _, Below.refl _ _⟩
  case round =>
    obtain ⟨i, L, rfl, hi, rfl, hLl, HL, HO, hb⟩ := hrel
    have hbw : Below w.heap.size w wr := by rw [← HB.out]; exact hb
    clear n0
    by_cases hlt : i < Ey.length
    · have HL2 : Hid (L ++ [idx D Ey[i].1] = (Ey.take (i + 1)).map fun e => idx D e.1) := by
        show _ = _
        rw [List.take_add_one, List.getElem?_eq_getElem hlt, List.map_append, ← HL.out]
        rfl
      have hi1 := HI.out Ey[i] (List.getElem_mem hlt)
      obtain ⟨bA, oA, hA, k0⟩ := (HR1.out.below hbw) i (.string Ey[i].1) (by rw [List.getElem?_map, List.getElem?_eq_getElem hlt]; rfl)
      generalize Ey[i] = ei at *
      obtain ⟨s, k⟩ := ei
      subst hA
      simp only at k0 hi1
      have HZr := Lib.hid (HZ.out.below hbw)
      have hn := number_any p Ez D hD hs hE s hi1 wr HZr.out
      clear hi1 HL
      generalize idx D s = m at hn HL2
      go_wp2_with fail
      refine hn.mono ?_
      rintro e w2 ⟨rfl, hb2⟩
      have HOa := Lib.hid (ownsRow_b HO.out hb2)
      have hb3 : Below B w w2 := by rw [HB.out]; exact hbw.trans (hb2.mono hbw.size)
      have hBs : B ≤ w2.heap.size := by have := hb3.size; rw [HB.out]; exact this
      have h63 : i + 1 ≤ maxLen := by unfold maxLen; omega
      clear HO hb2 hn k0
      go_wp2_with (at_builtin; refine wpList_append_own_at _ rfl (.tmp 25) (.tmp 27) 27 rfl B 3 i0 _ 1 8 Tryz.underlying27 hi0 hz0 hz1 hz2 rfl (by decide) _ i (ints L) rfl (HOa.out.alloc _) ⟨w2.heap.size, 0, none⟩ 1 1 [.int .i64 (m : Int)] rfl rfl (cells_u8 _ _ _) (by simp [Value.oneCell']) h63 (by omega) (by rw [size1]; omega) ?_)
      intro v' w' hown' hgrow _ _
      have hb4 := (hb3.alloc hBs (.cells #[.int .i64 (m : Int)] 3)).grown hgrow (by rw [size1]; omega) (own_lt HOa.out)
      have HO2 : Hid (w'.ownsRow B 3 1 v' (i + 1) (ints (L ++ [m]))) := by
        have e : ints (L ++ [m]) = ints L ++ [.int .i64 (m : Int)] := by simp [ints]
        show World.ownsRow _ _ _ _ _ _ _
        rw [e]
        exact hown'
      clear hgrow hown' HOa
      go_wp2_with fail
      go_roundg (Ey.length + 1 - (i + 1))
      case measure => omega
      case rel => exact ⟨i + 1, L ++ [m], rfl, by omega, by go_num, by rw [List.length_append, List.length_singleton, hLl], HL2, HO2, hb4⟩
    · have ei : i = Ey.length := by omega
      subst ei
      rw [List.take_length] at HL
      rw [HL.out] at HO
      go_wp2
      go_ret
      exact ⟨_, rfl, HB.out ▸ HO.out, hbw⟩
end Go.Proofs.YtfenjklilocjgaaGreatDoor
