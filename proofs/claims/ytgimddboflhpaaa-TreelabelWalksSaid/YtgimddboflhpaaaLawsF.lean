/- The law that domination is what the parents say: it returns true and leaves all memory as it was. -/
import Derived.Test.YtgimddboflhpaaaLawsD0
import Derived.Test.YtgimddboflhpaaaDep
import Derived.Test.YtgimddboflhpaaaReg2
import Derived.Test.YtgimddboflhpaaaRef09
import Derived.IntWalk
namespace Go.Proofs.Ytgimddboflhpaaa
set_option linter.unusedSimpArgs false
set_option linter.unusedVariables false
set_option linter.unusedSectionVars false
open Go.RowKit Tr

/-- n times false as cells. -/
abbrev cb (l : List Bool) : List Value := l.map Value.bool
theorem cb_rep (n : Nat) : (cb (List.replicate n false)).toArray = Array.replicate n (.bool false) := by simp [cb]
theorem run_make_bools {P : Program} {t e : TypeId} (ht : P.underlying t = some (.slice e)) (hi : (P.info? e).map (fun i => (i.zero, i.size, i.bytes)) = some (some (.bool false), 1, 1)) (n : Nat) (hn : n ≤ 1073741824) (w : World) :
    (Instr.makeSlice t (.int .i64 (n : Int)) (.int .i64 (n : Int))).run P w = .ok (.slice (some ⟨w.heap.size, 0, none⟩) n n) (w.alloc (.cells (Array.replicate n (.bool false)) e)) := by
  rw [← cb_rep]
  obtain ⟨i0, hi0, hz0, hz1, hz2⟩ := info_parts hi
  have hr := run_make (P := P) w t e i0 _ ht hi0 hz0 .i64 .i64 n n (by omega) (by omega) (by rw [hz2]; omega) (by omega)
  rw [hr, hz1]
  have : madeCells (Value.bool false).cells n = (cb (List.replicate n false)).toArray := by
    show madeCells #[Value.bool false] n = _
    rw [madeCells_one]
    simp [cb]
  simp only [Int.toNat_natCast, Nat.mul_one, this]

/-- The nodes that m steps up from i have met. -/
def Abv (ps : List Int) (i m : Nat) (bs : List Bool) : Prop := bs.length = ps.length ∧ ∀ x : Nat, x < ps.length → (bs.getD x false = true ↔ ∃ j, j < m ∧ it ps (j + 1) i = (x : Int))
theorem Abv.start (ps : List Int) (i : Nat) : Abv ps i 0 (List.replicate ps.length false) := by
  refine ⟨by simp, fun x hx => ?_⟩
  constructor
  · intro h; simp [List.getD, hx] at h
  · rintro ⟨j, hj, _⟩; omega
theorem Abv.step {ps : List Int} {i m : Nat} {bs : List Bool} (h : Abv ps i m bs) {y : Nat} (hy : y < ps.length) (he : it ps (m + 1) i = (y : Int)) : Abv ps i (m + 1) (bs.set y true) := by
  refine ⟨by rw [List.length_set]; exact h.1, fun x hx => ?_⟩
  have h2 := h.2 x hx
  by_cases e : y = x
  · subst e
    constructor
    · intro _; exact ⟨m, by omega, he⟩
    · intro _; simp [List.getD, h.1, hy]
  · have e1 : (bs.set y true).getD x false = bs.getD x false := by simp [List.getD, List.getElem?_set, e]
    rw [e1, h2]
    constructor
    · rintro ⟨j, hj, hje⟩; exact ⟨j, by omega, hje⟩
    · rintro ⟨j, hj, hje⟩
      by_cases e2 : j = m
      · subst e2; rw [he] at hje; omega
      · exact ⟨j, by omega, hje⟩
theorem Abv.done {ps : List Int} {i m : Nat} {bs : List Bool} (h : Abv ps i m bs) (hneg : it ps (m + 1) i < 0) {x : Nat} (hx : x < ps.length) : bs.getD x false = true ↔ Anc ps x i := by
  rw [h.2 x hx]
  constructor
  · rintro ⟨j, _, hj⟩; exact ⟨j, hj⟩
  · rintro ⟨j, hj⟩
    refine ⟨j, ?_, hj⟩
    rcases Nat.lt_or_ge j m with h1 | h1
    · exact h1
    · have := it_neg_mono (show m + 1 ≤ j + 1 by omega) hneg
      omega
theorem tall_walk {ps : List Int} {i m : Nat} (hpos : ∀ j, j < m → 0 ≤ it ps (j + 1) i) (hneg : it ps (m + 1) i < 0) : Tall ps i (m + 1) := by
  refine ⟨fun k hk => ?_, hneg⟩
  cases k with
  | zero => show (0 : Int) ≤ (i : Int); omega
  | succ k => exact hpos k (by omega)
/-- The four relations: none for one node, else just one. -/
def cnt (l : List Bool) (j : Nat) : Nat := ((l.take j).filter id).length
theorem four {ps : List Int} {ls : List Lab} (F : Facts ps ls) {i k : Nat} (hi : i < ps.length) (hk : k < ps.length) :
    cnt [Dom (labAt ls k) (labAt ls i), Prec (labAt ls k) (labAt ls i), Dom (labAt ls i) (labAt ls k), Prec (labAt ls i) (labAt ls k)] 4 = if i = k then 0 else 1 := by
  have key : ∀ x y : Lab, ((Above x y ∨ Before x y ∨ Above y x ∨ Before y x) → cnt [Dom x y, Prec x y, Dom y x, Prec y x] 4 = 1) ∧ (¬ (Above x y ∨ Before x y ∨ Above y x ∨ Before y x) → cnt [Dom x y, Prec x y, Dom y x, Prec y x] 4 = 0) := by
    intro x y
    have e1 : (Dom x y = true) = Above x y := propext Dom_iff
    have e2 : (Prec x y = true) = Before x y := propext Prec_iff
    have e3 : (Dom y x = true) = Above y x := propext Dom_iff
    have e4 : (Prec y x = true) = Before y x := propext Prec_iff
    unfold Above at e1 e3
    unfold Before at e2 e4
    unfold Above Before
    cases h1 : Dom x y <;> cases h2 : Prec x y <;> cases h3 : Dom y x <;> cases h4 : Prec y x <;> simp only [h1, h2, h3, h4, Bool.false_eq_true, eq_iff_iff, true_iff, false_iff] at e1 e2 e3 e4 <;> first
      | exact ⟨fun _ => rfl, fun h => by omega⟩
      | exact ⟨fun h => by omega, fun _ => rfl⟩
      | (exfalso; omega)
  by_cases e : i = k
  · subst e
    rw [if_pos rfl]
    refine (key _ _).2 ?_
    unfold Above Before; omega
  · rw [if_neg e]
    refine (key _ _).1 ?_
    rcases Facts.tri_ (ps := ps) k i with h | h | h | h
    · exact absurd h.symm e
    · exact .inl (F.anc k i hk hi h)
    · exact .inr (.inr (.inl (F.anc i k hi hk h)))
    · rcases F.apart k i hk hi h with h1 | h1
      · exact .inr (.inl h1)
      · exact .inr (.inr (.inr h1))
theorem cnt_succ {l : List Bool} {j : Nat} (h : j < l.length) : cnt l (j + 1) = cnt l j + if l[j] then 1 else 0 := by
  unfold cnt
  rw [List.take_succ_eq_append_getElem h, List.filter_append, List.length_append]
  cases l[j] <;> rfl
theorem cnt_le (l : List Bool) (j : Nat) : cnt l j ≤ j := by
  unfold cnt
  have := List.length_filter_le id (l.take j)
  rw [List.length_take] at this
  omega
theorem prec_call (x y : Lab) (b : Bool) (h : Prec x y = b) : ∀ w, Calls Try.prog 21 #[.agg #[.int .i64 x.1, .int .i64 x.2.1, .int .i64 x.2.2], .agg #[.int .i64 y.1, .int .i64 y.2.1, .int .i64 y.2.2]] w fun e w' => e = .returned (.bool b) ∧ Below w.heap.size w w' := by
  intro w
  have := precedes_any x y w
  rw [h] at this
  exact this
theorem bool_info4 : (Try.prog.info? 4).map (fun i => (i.zero, i.size, i.bytes)) = some (some (.bool false), 1, 1) := by kernel_rfl

set_option maxRecDepth 100000 in
set_option maxHeartbeats 8000000 in
theorem law_walks (A : Option Addr) (c : Nat) (ps : List Int) (w : World) (hA : Ints w A ps) (hx : ps.length ≤ maxLen) :
    Calls Try.prog 6 #[.slice A ps.length c] w (Holds w) := by
  by_cases hn : 40 < ps.length
  · unfold maxLen at hx
    go_enter Try.func6, Try.ntmps6
    go_wp2
    go_ret
    exact ⟨rfl, Below.refl _ _⟩
  have hr40 : decide ((40 : Int) < ps.length) = false := decide_eq_false (by omega)
  have hr40' : decide (40 < ps.length) = false := decide_eq_false (by omega)
  by_cases hc : (chk ps).2 = 0
  · have hc0 : chk ps = (0, 0) := by
      obtain ⟨_, _, _, h1⟩ := chk_zero hc
      exact Prod.ext h1 hc
    obtain ⟨_, hv, ha, _⟩ := chk_zero hc
    have hll := labels_length hv ha
    have hF : Hid (IsF (labels ps) ps) := ⟨hc0, rfl⟩
    have F : Hid (Facts ps (labels ps)) := (facts hF.out).2
    have HLL := Lib.hid hll
    have HV : Hid (Calls Try.prog 19 #[.slice A ps.length c] w fun e w' => e = .returned (.bool true) ∧ w = w') := by
      have := r9valid_any A c ps w hA hx
      rw [hc0] at this
      exact this
    have HA : Hid (Calls Try.prog 11 #[.slice A ps.length c] w (fun e w' => ∃ Ag cg, e = .returned (.tuple #[.slice Ag ps.length cg, .int .i64 0, .int .i64 0]) ∧ Labs w' Ag (labels ps) ∧ Below w.heap.size w w')) := by
      refine (assign_ok A c ps w hA hc0).mono ?_
      rintro e w' ⟨v, rfl, ⟨Ag, cg, rfl, _, _, hrd⟩, hb⟩
      exact ⟨Ag, cg, rfl, hrd, hb⟩
    have mk := fun w => run_make_bools Try.underlying39 bool_info4 ps.length (by omega) w
    unfold maxLen at hx
    clear hc hc0 hv ha hll
    go_enter Try.func6, Try.ntmps6
    go_wp2_with fail
    refine HV.out.mono ?_
    rintro e w0 ⟨rfl, rfl⟩
    go_wp2_with fail
    refine HA.out.mono ?_
    rintro e w1 ⟨Ag, cg, rfl, hL, hb1⟩
    go_wp2_with fail
    go_loopg [7] ps.length (fun q v wr => ∃ i : Nat, q = ps.length - i ∧ i ≤ ps.length ∧ v = .int .i64 i ∧ Labs wr Ag (labels ps) ∧ Below w.heap.size w wr)
    case atStart => exact ⟨0, rfl, Nat.zero_le _, rfl, hL, hb1⟩
    case round =>
      clear hL hb1
      obtain ⟨i, hq, hi, rfl, hL, hbw⟩ := hrel
      obtain ⟨wo, rfl⟩ : ∃ wo : World, wo = wr := ⟨_, rfl⟩
      have HQ := Lib.hid hq; clear hq
      by_cases hlt : i < ps.length
      · have hAr := hA.below hbw
        obtain ⟨bA, oA, rfl, hci⟩ := hAr.get hlt
        have hup0 : Hid (ps[i] = it ps (0 + 1) i) := by show _ = _; rw [it_succ]; exact (up_nat hlt).symm
        have hsz := hbw.size
        have hbl : bA < wo.heap.size := World.block_lt_of_cell? wo _ hci
        have hown0 : Own (wo.alloc (.cells (Array.replicate ps.length (.bool false)) 4)) wo.heap.size 4 (cb (List.replicate ps.length false)) := by rw [← cb_rep]; exact Own.new wo 4 _
        have hbw0 : Below wo.heap.size wo (wo.alloc (.cells (Array.replicate ps.length (.bool false)) 4)) := (Below.refl _ _).alloc (Nat.le_refl _) _
        go_wp2_with fail
        generalize (wo.alloc (.cells (Array.replicate ps.length (.bool false)) 4)) = wa at hown0 hbw0 ⊢
        rw [hup0.out]
        go_loopg [9, 10] ps.length (fun q v9 v10 wr => ∃ (m : Nat) (bs : List Bool), q = ps.length - m ∧ m ≤ ps.length ∧ v9 = .int .i64 m ∧ v10 = .int .i64 (it ps (m + 1) i) ∧ Hid (∀ j, j < m → 0 ≤ it ps (j + 1) i) ∧ Hid (Abv ps i m bs) ∧ bs.length = ps.length ∧ Own wr wo.heap.size 4 (cb bs) ∧ Below wo.heap.size wo wr)
        case atStart => exact ⟨0, _, rfl, Nat.zero_le _, rfl, rfl, fun j hj => absurd hj (Nat.not_lt_zero _), Abv.start ps i, by simp, hown0, hbw0⟩
        case round =>
          clear hown0 hbw0
          obtain ⟨m, bs, hq, hm, rfl, rfl, hpos, habv, hbs, hown, hbq⟩ := hrel
          have HQ2 := Lib.hid hq; clear hq
          have hszq := hbq.size
          have hlq := hown.lt
          by_cases hneg : it ps (m + 1) (i : Int) < 0
          · have t1 : decide ((0 : Int) ≤ it ps (m + 1) (i : Int)) = false := decide_eq_false (by omega)
            have htall : Tall ps i (m + 1) := tall_walk hpos.out hneg
            have hdep : (labAt (labels ps) i).2.2 = (m : Int) := by rw [tall_depth F.out hlt htall]; omega
            have hanc : Hid (∀ x, x < ps.length → (bs.getD x false = true ↔ Anc ps x i)) := fun x hx => habv.out.done hneg hx
            have hil : i < (labels ps).length := by rw [HLL.out]; exact hlt
            have hLq := hL.below hbq
            obtain ⟨bl, offl, rfl, m0, m1, m2⟩ := hLq.get hil
            rw [labAt_get hil] at m0 m1 m2
            rw [hdep] at m2
            clear htall hneg hpos habv hil hdep
            go_wp2_with fail
            clear m0 m1 m2
            obtain ⟨wp, rfl⟩ : ∃ wp : World, wp = wr := ⟨_, rfl⟩
            go_loopg [11] ps.length (fun q v wr => ∃ k : Nat, q = ps.length - k ∧ k ≤ ps.length ∧ v = .int .i64 k ∧ Below wp.heap.size wp wr)
            case atStart => exact ⟨0, rfl, Nat.zero_le _, rfl, Below.refl _ _⟩
            case round =>
              obtain ⟨k, hq3, hk, rfl, hb3⟩ := hrel
              have HQ3 := Lib.hid hq3; clear hq3
              by_cases hkt : k < ps.length
              · have hil : i < (labels ps).length := by rw [HLL.out]; exact hlt
                have hkl : k < (labels ps).length := by rw [HLL.out]; exact hkt
                obtain ⟨_, _, e, i0, i1, i2⟩ := (hLq.below hb3).get hil
                cases e
                obtain ⟨_, _, e, k0, k1, k2⟩ := (hLq.below hb3).get hkl
                cases e
                rw [labAt_get hil] at i0 i1 i2
                rw [labAt_get hkl] at k0 k1 k2
                obtain ⟨ba, hba⟩ : ∃ b, Dom (labAt (labels ps) k) (labAt (labels ps) i) = b := ⟨_, rfl⟩
                obtain ⟨bb, hbb⟩ : ∃ b, Prec (labAt (labels ps) k) (labAt (labels ps) i) = b := ⟨_, rfl⟩
                obtain ⟨bc, hbc⟩ : ∃ b, Dom (labAt (labels ps) i) (labAt (labels ps) k) = b := ⟨_, rfl⟩
                obtain ⟨bd, hbd⟩ : ∃ b, Prec (labAt (labels ps) i) (labAt (labels ps) k) = b := ⟨_, rfl⟩
                have h4 := four F.out hlt hkt
                have hda : bs.getD k false = ba := by
                  rw [Bool.eq_iff_iff, hanc.out k hkt, ← hba, Dom_iff, F.out.anc_iff hkt hlt]
                rw [hba, hbb, hbc, hbd] at h4
                have H4 := Lib.hid h4
                have HD1 := Lib.hid (dom_call _ _ ba hba)
                have HP1 := Lib.hid (prec_call _ _ bb hbb)
                have HD2 := Lib.hid (dom_call _ _ bc hbc)
                have HP2 := Lib.hid (prec_call _ _ bd hbd)
                have hkI : (k : Int) < ps.length := by omega
                have hiI : (i : Int) < ps.length := by omega
                have hcA : Hid (wp.cell? ⟨wo.heap.size, k, none⟩ = some (.bool ba)) := by
                  show _ = _
                  rw [hown.cell, ← hda]
                  simp [List.getD, hbs, hkt]
                clear h4 hda hba hbb hbc hbd hil hkl
                go_wp2_with fail
                refine wp_reg_abs [some 76, some 77, some 78, some 79, some 80, some 81, some 82, some 83, some 84, some 85, some 86, some 87, some 88, some 89, some 90, some 91, some 92, some 93, some 12, some 13] [?v1_0, ?v1_1, ?v1_2, ?v1_3, ?v1_4, ?v1_5, ?v1_6, ?v1_7, ?v1_8, ?v1_9, ?v1_10, ?v1_11, ?v1_12, ?v1_13, ?v1_14, ?v1_15, ?v1_16, ?v1_17, ?v1_18, ?v1_19] rfl (by kernel_rfl) rfl rfl ⟨?s1_0, ?s1_1, ?s1_2, ?s1_3, ?s1_4, ?s1_5, ?s1_6, ?s1_7, ?s1_8, ?s1_9, ?s1_10, ?s1_11, ?s1_12, ?s1_13, ?s1_14, ?s1_15, ?s1_16, ?s1_17, ?s1_18, ?s1_19, trivial⟩ ?p1
                case s1_0 =>
                  intro t9 w9 hT9 hV9 hO9 K9 hK9
                  have o9_4 := hO9 4 _ (by kernel_rfl) rfl
                  clear hV9 hO9
                  go_simp
                  exact hK9 _ (Grow.refl _)
                case s1_1 =>
                  intro t9 w9 hT9 hV9 hO9 K9 hK9
                  have o9_11 := hO9 11 _ (by kernel_rfl) rfl
                  clear hV9 hO9
                  go_simp
                  exact hK9 _ (Grow.refl _)
                case s1_2 =>
                  intro t9 w9 hT9 hV9 hO9 K9 hK9
                  have p9_0 : t9[76]? = some ?v1_0 := hV9 0 76 rfl rfl (of_decide_eq_true (by kernel_rfl))
                  have p9_1 : t9[77]? = some ?v1_1 := hV9 1 77 rfl rfl (of_decide_eq_true (by kernel_rfl))
                  clear hV9 hO9
                  go_simp
                  exact hK9 _ (Grow.refl _)
                case s1_3 =>
                  intro t9 w9 hT9 hV9 hO9 K9 hK9
                  have p9_2 : t9[78]? = some ?v1_2 := hV9 2 78 rfl rfl (of_decide_eq_true (by kernel_rfl))
                  clear hV9 hO9
                  have d9_0 := grow_cell hT9 i0
                  have d9_1 := grow_cell hT9 i1
                  have d9_2 := grow_cell hT9 i2
                  have d9_3 := grow_cell hT9 k0
                  have d9_4 := grow_cell hT9 k1
                  have d9_5 := grow_cell hT9 k2
                  go_simp
                  exact hK9 _ (Grow.refl _)
                case s1_4 =>
                  intro t9 w9 hT9 hV9 hO9 K9 hK9
                  have o9_4 := hO9 4 _ (by kernel_rfl) rfl
                  clear hV9 hO9
                  go_simp
                  exact hK9 _ (Grow.refl _)
                case s1_5 =>
                  intro t9 w9 hT9 hV9 hO9 K9 hK9
                  have o9_7 := hO9 7 _ (by kernel_rfl) rfl
                  clear hV9 hO9
                  go_simp
                  exact hK9 _ (Grow.refl _)
                case s1_6 =>
                  intro t9 w9 hT9 hV9 hO9 K9 hK9
                  have p9_4 : t9[80]? = some ?v1_4 := hV9 4 80 rfl rfl (of_decide_eq_true (by kernel_rfl))
                  have p9_5 : t9[81]? = some ?v1_5 := hV9 5 81 rfl rfl (of_decide_eq_true (by kernel_rfl))
                  clear hV9 hO9
                  go_simp
                  exact hK9 _ (Grow.refl _)
                case s1_7 =>
                  intro t9 w9 hT9 hV9 hO9 K9 hK9
                  have p9_6 : t9[82]? = some ?v1_6 := hV9 6 82 rfl rfl (of_decide_eq_true (by kernel_rfl))
                  clear hV9 hO9
                  have d9_0 := grow_cell hT9 i0
                  have d9_1 := grow_cell hT9 i1
                  have d9_2 := grow_cell hT9 i2
                  have d9_3 := grow_cell hT9 k0
                  have d9_4 := grow_cell hT9 k1
                  have d9_5 := grow_cell hT9 k2
                  go_simp
                  exact hK9 _ (Grow.refl _)
                case s1_8 =>
                  intro t9 w9 hT9 hV9 hO9 K9 hK9
                  have p9_3 : t9[79]? = some ?v1_3 := hV9 3 79 rfl rfl (of_decide_eq_true (by kernel_rfl))
                  have p9_7 : t9[83]? = some ?v1_7 := hV9 7 83 rfl rfl (of_decide_eq_true (by kernel_rfl))
                  clear hV9 hO9
                  go_simp
                  first | exact hK9 _ (Grow.refl _) | (refine (HD1.out _).mono ?_; rintro _ w8 ⟨rfl, hb8⟩; exact hK9 _ hb8)
                case s1_9 =>
                  intro t9 w9 hT9 hV9 hO9 K9 hK9
                  have o9_4 := hO9 4 _ (by kernel_rfl) rfl
                  clear hV9 hO9
                  go_simp
                  exact hK9 _ (Grow.refl _)
                case s1_10 =>
                  intro t9 w9 hT9 hV9 hO9 K9 hK9
                  have o9_11 := hO9 11 _ (by kernel_rfl) rfl
                  clear hV9 hO9
                  go_simp
                  exact hK9 _ (Grow.refl _)
                case s1_11 =>
                  intro t9 w9 hT9 hV9 hO9 K9 hK9
                  have p9_9 : t9[85]? = some ?v1_9 := hV9 9 85 rfl rfl (of_decide_eq_true (by kernel_rfl))
                  have p9_10 : t9[86]? = some ?v1_10 := hV9 10 86 rfl rfl (of_decide_eq_true (by kernel_rfl))
                  clear hV9 hO9
                  go_simp
                  exact hK9 _ (Grow.refl _)
                case s1_12 =>
                  intro t9 w9 hT9 hV9 hO9 K9 hK9
                  have p9_11 : t9[87]? = some ?v1_11 := hV9 11 87 rfl rfl (of_decide_eq_true (by kernel_rfl))
                  clear hV9 hO9
                  have d9_0 := grow_cell hT9 i0
                  have d9_1 := grow_cell hT9 i1
                  have d9_2 := grow_cell hT9 i2
                  have d9_3 := grow_cell hT9 k0
                  have d9_4 := grow_cell hT9 k1
                  have d9_5 := grow_cell hT9 k2
                  go_simp
                  exact hK9 _ (Grow.refl _)
                case s1_13 =>
                  intro t9 w9 hT9 hV9 hO9 K9 hK9
                  have o9_4 := hO9 4 _ (by kernel_rfl) rfl
                  clear hV9 hO9
                  go_simp
                  exact hK9 _ (Grow.refl _)
                case s1_14 =>
                  intro t9 w9 hT9 hV9 hO9 K9 hK9
                  have o9_7 := hO9 7 _ (by kernel_rfl) rfl
                  clear hV9 hO9
                  go_simp
                  exact hK9 _ (Grow.refl _)
                case s1_15 =>
                  intro t9 w9 hT9 hV9 hO9 K9 hK9
                  have p9_13 : t9[89]? = some ?v1_13 := hV9 13 89 rfl rfl (of_decide_eq_true (by kernel_rfl))
                  have p9_14 : t9[90]? = some ?v1_14 := hV9 14 90 rfl rfl (of_decide_eq_true (by kernel_rfl))
                  clear hV9 hO9
                  go_simp
                  exact hK9 _ (Grow.refl _)
                case s1_16 =>
                  intro t9 w9 hT9 hV9 hO9 K9 hK9
                  have p9_15 : t9[91]? = some ?v1_15 := hV9 15 91 rfl rfl (of_decide_eq_true (by kernel_rfl))
                  clear hV9 hO9
                  have d9_0 := grow_cell hT9 i0
                  have d9_1 := grow_cell hT9 i1
                  have d9_2 := grow_cell hT9 i2
                  have d9_3 := grow_cell hT9 k0
                  have d9_4 := grow_cell hT9 k1
                  have d9_5 := grow_cell hT9 k2
                  go_simp
                  exact hK9 _ (Grow.refl _)
                case s1_17 =>
                  intro t9 w9 hT9 hV9 hO9 K9 hK9
                  have p9_12 : t9[88]? = some ?v1_12 := hV9 12 88 rfl rfl (of_decide_eq_true (by kernel_rfl))
                  have p9_16 : t9[92]? = some ?v1_16 := hV9 16 92 rfl rfl (of_decide_eq_true (by kernel_rfl))
                  clear hV9 hO9
                  go_simp
                  first | exact hK9 _ (Grow.refl _) | (refine (HP1.out _).mono ?_; rintro _ w8 ⟨rfl, hb8⟩; exact hK9 _ hb8)
                case s1_18 =>
                  intro t9 w9 hT9 hV9 hO9 K9 hK9
                  have p9_8 : t9[84]? = some ?v1_8 := hV9 8 84 rfl rfl (of_decide_eq_true (by kernel_rfl))
                  clear hV9 hO9
                  go_simp
                  exact hK9 _ (Grow.refl _)
                case s1_19 =>
                  intro t9 w9 hT9 hV9 hO9 K9 hK9
                  have p9_17 : t9[93]? = some ?v1_17 := hV9 17 93 rfl rfl (of_decide_eq_true (by kernel_rfl))
                  clear hV9 hO9
                  go_simp
                  exact hK9 _ (Grow.refl _)
                intro w9 hb9
                simp only [putAll, Act.put, List.setIfInBounds_toArray, List.set_cons_succ, List.set_cons_zero, List.getD_cons_succ, List.getD_cons_zero, Nat.reduceAdd, Nat.zero_add]
                obtain ⟨wx, rfl⟩ : ∃ wx : World, wx = w9 := ⟨_, rfl⟩
                have hbx := below5 hb3 hb9
                have i0' := below_cell hb9 i0
                have i1' := below_cell hb9 i1
                have i2' := below_cell hb9 i2
                have k0' := below_cell hb9 k0
                have k1' := below_cell hb9 k1
                have k2' := below_cell hb9 k2
                clear hb9 i0 i1 i2 k0 k1 k2
                go_wp2_with fail
                refine wp_reg_abs [some 94, some 95, some 96, some 97, some 98, some 99, some 100, some 101, some 102, some 103, some 104, some 105, some 106, some 107, some 108, some 109, some 110, some 111, some 14, some 15] [?v2_0, ?v2_1, ?v2_2, ?v2_3, ?v2_4, ?v2_5, ?v2_6, ?v2_7, ?v2_8, ?v2_9, ?v2_10, ?v2_11, ?v2_12, ?v2_13, ?v2_14, ?v2_15, ?v2_16, ?v2_17, ?v2_18, ?v2_19] rfl (by kernel_rfl) rfl rfl ⟨?s2_0, ?s2_1, ?s2_2, ?s2_3, ?s2_4, ?s2_5, ?s2_6, ?s2_7, ?s2_8, ?s2_9, ?s2_10, ?s2_11, ?s2_12, ?s2_13, ?s2_14, ?s2_15, ?s2_16, ?s2_17, ?s2_18, ?s2_19, trivial⟩ ?p2
                case s2_0 =>
                  intro t9 w9 hT9 hV9 hO9 K9 hK9
                  have o9_4 := hO9 4 _ (by kernel_rfl) rfl
                  clear hV9 hO9
                  go_simp
                  exact hK9 _ (Grow.refl _)
                case s2_1 =>
                  intro t9 w9 hT9 hV9 hO9 K9 hK9
                  have o9_7 := hO9 7 _ (by kernel_rfl) rfl
                  clear hV9 hO9
                  go_simp
                  exact hK9 _ (Grow.refl _)
                case s2_2 =>
                  intro t9 w9 hT9 hV9 hO9 K9 hK9
                  have p9_0 : t9[94]? = some ?v2_0 := hV9 0 94 rfl rfl (of_decide_eq_true (by kernel_rfl))
                  have p9_1 : t9[95]? = some ?v2_1 := hV9 1 95 rfl rfl (of_decide_eq_true (by kernel_rfl))
                  clear hV9 hO9
                  go_simp
                  exact hK9 _ (Grow.refl _)
                case s2_3 =>
                  intro t9 w9 hT9 hV9 hO9 K9 hK9
                  have p9_2 : t9[96]? = some ?v2_2 := hV9 2 96 rfl rfl (of_decide_eq_true (by kernel_rfl))
                  clear hV9 hO9
                  have d9_0 := grow_cell hT9 i0'
                  have d9_1 := grow_cell hT9 i1'
                  have d9_2 := grow_cell hT9 i2'
                  have d9_3 := grow_cell hT9 k0'
                  have d9_4 := grow_cell hT9 k1'
                  have d9_5 := grow_cell hT9 k2'
                  go_simp
                  exact hK9 _ (Grow.refl _)
                case s2_4 =>
                  intro t9 w9 hT9 hV9 hO9 K9 hK9
                  have o9_4 := hO9 4 _ (by kernel_rfl) rfl
                  clear hV9 hO9
                  go_simp
                  exact hK9 _ (Grow.refl _)
                case s2_5 =>
                  intro t9 w9 hT9 hV9 hO9 K9 hK9
                  have o9_11 := hO9 11 _ (by kernel_rfl) rfl
                  clear hV9 hO9
                  go_simp
                  exact hK9 _ (Grow.refl _)
                case s2_6 =>
                  intro t9 w9 hT9 hV9 hO9 K9 hK9
                  have p9_4 : t9[98]? = some ?v2_4 := hV9 4 98 rfl rfl (of_decide_eq_true (by kernel_rfl))
                  have p9_5 : t9[99]? = some ?v2_5 := hV9 5 99 rfl rfl (of_decide_eq_true (by kernel_rfl))
                  clear hV9 hO9
                  go_simp
                  exact hK9 _ (Grow.refl _)
                case s2_7 =>
                  intro t9 w9 hT9 hV9 hO9 K9 hK9
                  have p9_6 : t9[100]? = some ?v2_6 := hV9 6 100 rfl rfl (of_decide_eq_true (by kernel_rfl))
                  clear hV9 hO9
                  have d9_0 := grow_cell hT9 i0'
                  have d9_1 := grow_cell hT9 i1'
                  have d9_2 := grow_cell hT9 i2'
                  have d9_3 := grow_cell hT9 k0'
                  have d9_4 := grow_cell hT9 k1'
                  have d9_5 := grow_cell hT9 k2'
                  go_simp
                  exact hK9 _ (Grow.refl _)
                case s2_8 =>
                  intro t9 w9 hT9 hV9 hO9 K9 hK9
                  have p9_3 : t9[97]? = some ?v2_3 := hV9 3 97 rfl rfl (of_decide_eq_true (by kernel_rfl))
                  have p9_7 : t9[101]? = some ?v2_7 := hV9 7 101 rfl rfl (of_decide_eq_true (by kernel_rfl))
                  clear hV9 hO9
                  go_simp
                  first | exact hK9 _ (Grow.refl _) | (refine (HD2.out _).mono ?_; rintro _ w8 ⟨rfl, hb8⟩; exact hK9 _ hb8)
                case s2_9 =>
                  intro t9 w9 hT9 hV9 hO9 K9 hK9
                  have o9_4 := hO9 4 _ (by kernel_rfl) rfl
                  clear hV9 hO9
                  go_simp
                  exact hK9 _ (Grow.refl _)
                case s2_10 =>
                  intro t9 w9 hT9 hV9 hO9 K9 hK9
                  have o9_7 := hO9 7 _ (by kernel_rfl) rfl
                  clear hV9 hO9
                  go_simp
                  exact hK9 _ (Grow.refl _)
                case s2_11 =>
                  intro t9 w9 hT9 hV9 hO9 K9 hK9
                  have p9_9 : t9[103]? = some ?v2_9 := hV9 9 103 rfl rfl (of_decide_eq_true (by kernel_rfl))
                  have p9_10 : t9[104]? = some ?v2_10 := hV9 10 104 rfl rfl (of_decide_eq_true (by kernel_rfl))
                  clear hV9 hO9
                  go_simp
                  exact hK9 _ (Grow.refl _)
                case s2_12 =>
                  intro t9 w9 hT9 hV9 hO9 K9 hK9
                  have p9_11 : t9[105]? = some ?v2_11 := hV9 11 105 rfl rfl (of_decide_eq_true (by kernel_rfl))
                  clear hV9 hO9
                  have d9_0 := grow_cell hT9 i0'
                  have d9_1 := grow_cell hT9 i1'
                  have d9_2 := grow_cell hT9 i2'
                  have d9_3 := grow_cell hT9 k0'
                  have d9_4 := grow_cell hT9 k1'
                  have d9_5 := grow_cell hT9 k2'
                  go_simp
                  exact hK9 _ (Grow.refl _)
                case s2_13 =>
                  intro t9 w9 hT9 hV9 hO9 K9 hK9
                  have o9_4 := hO9 4 _ (by kernel_rfl) rfl
                  clear hV9 hO9
                  go_simp
                  exact hK9 _ (Grow.refl _)
                case s2_14 =>
                  intro t9 w9 hT9 hV9 hO9 K9 hK9
                  have o9_11 := hO9 11 _ (by kernel_rfl) rfl
                  clear hV9 hO9
                  go_simp
                  exact hK9 _ (Grow.refl _)
                case s2_15 =>
                  intro t9 w9 hT9 hV9 hO9 K9 hK9
                  have p9_13 : t9[107]? = some ?v2_13 := hV9 13 107 rfl rfl (of_decide_eq_true (by kernel_rfl))
                  have p9_14 : t9[108]? = some ?v2_14 := hV9 14 108 rfl rfl (of_decide_eq_true (by kernel_rfl))
                  clear hV9 hO9
                  go_simp
                  exact hK9 _ (Grow.refl _)
                case s2_16 =>
                  intro t9 w9 hT9 hV9 hO9 K9 hK9
                  have p9_15 : t9[109]? = some ?v2_15 := hV9 15 109 rfl rfl (of_decide_eq_true (by kernel_rfl))
                  clear hV9 hO9
                  have d9_0 := grow_cell hT9 i0'
                  have d9_1 := grow_cell hT9 i1'
                  have d9_2 := grow_cell hT9 i2'
                  have d9_3 := grow_cell hT9 k0'
                  have d9_4 := grow_cell hT9 k1'
                  have d9_5 := grow_cell hT9 k2'
                  go_simp
                  exact hK9 _ (Grow.refl _)
                case s2_17 =>
                  intro t9 w9 hT9 hV9 hO9 K9 hK9
                  have p9_12 : t9[106]? = some ?v2_12 := hV9 12 106 rfl rfl (of_decide_eq_true (by kernel_rfl))
                  have p9_16 : t9[110]? = some ?v2_16 := hV9 16 110 rfl rfl (of_decide_eq_true (by kernel_rfl))
                  clear hV9 hO9
                  go_simp
                  first | exact hK9 _ (Grow.refl _) | (refine (HP2.out _).mono ?_; rintro _ w8 ⟨rfl, hb8⟩; exact hK9 _ hb8)
                case s2_18 =>
                  intro t9 w9 hT9 hV9 hO9 K9 hK9
                  have p9_8 : t9[102]? = some ?v2_8 := hV9 8 102 rfl rfl (of_decide_eq_true (by kernel_rfl))
                  clear hV9 hO9
                  go_simp
                  exact hK9 _ (Grow.refl _)
                case s2_19 =>
                  intro t9 w9 hT9 hV9 hO9 K9 hK9
                  have p9_17 : t9[111]? = some ?v2_17 := hV9 17 111 rfl rfl (of_decide_eq_true (by kernel_rfl))
                  clear hV9 hO9
                  go_simp
                  exact hK9 _ (Grow.refl _)
                intro w9 hb9
                simp only [putAll, Act.put, List.setIfInBounds_toArray, List.set_cons_succ, List.set_cons_zero, List.getD_cons_succ, List.getD_cons_zero, Nat.reduceAdd, Nat.zero_add]
                have hby := below5 hbx hb9
                have hq0 : Own (w9.alloc (.cells #[.bool ba, .bool bb, .bool bc, .bool bd] 4)) w9.heap.size 4 (cb [ba, bb, bc, bd]) := Own.new w9 4 (cb [ba, bb, bc, bd])
                have hbz := below5 hby ((Below.refl w9.heap.size w9).alloc (Nat.le_refl _) (.cells #[.bool ba, .bool bb, .bool bc, .bool bd] 4))
                clear i0' i1' i2' k0' k1' k2' hbx hby hb9
                go_wp2_with fail
                generalize (w9.alloc (.cells #[.bool ba, .bool bb, .bool bc, .bool bd] 4)) = wz at hq0 hbz ⊢
                go_loop [16, 118] (fun v16 v118 => ∃ j : Nat, j ≤ 4 ∧ v118 = .int .i64 j ∧ v16 = .int .i64 (cnt [ba, bb, bc, bd] j)) (fun _ v => 4 - (intOf v).toNat)
                case atStart => exact ⟨0, Nat.zero_le _, rfl, rfl⟩
                case round =>
                  obtain ⟨j, hj, rfl, rfl⟩ := hrel
                  have hcle := cnt_le [ba, bb, bc, bd] j
                  by_cases hjt : j < 4
                  · have hjl : j < [ba, bb, bc, bd].length := hjt
                    have hcs := cnt_succ hjl
                    have hcz : wz.cell? ⟨w9.heap.size, j, none⟩ = some (.bool ([ba, bb, bc, bd][j]'hjl)) := by
                      rw [hq0.cell]
                      show ([ba, bb, bc, bd].map Value.bool)[j]? = _
                      rw [List.getElem?_map, List.getElem?_eq_getElem hjl]; rfl
                    have hj4 : (j : Int) < 4 := by omega
                    cases hxb : [ba, bb, bc, bd][j]'hjl with
                    | true =>
                      rw [hxb] at hcz hcs
                      have HCS : Hid (cnt [ba, bb, bc, bd] (j + 1) = cnt [ba, bb, bc, bd] j + 1) := hcs
                      clear hxb hcs
                      go_wp2_with fail
                      go_round
                      case rel => exact ⟨j + 1, by omega, by go_num, by rw [HCS.out]; go_num⟩
                      case measure => simp [intOf]; omega
                    | false =>
                      rw [hxb] at hcz hcs
                      have HCS : Hid (cnt [ba, bb, bc, bd] (j + 1) = cnt [ba, bb, bc, bd] j) := hcs
                      clear hxb hcs
                      go_wp2_with fail
                      go_round
                      case rel => exact ⟨j + 1, by omega, by go_num, by rw [HCS.out]⟩
                      case measure => simp [intOf]; omega
                  · obtain rfl : j = 4 := by omega
                    have hca := hbz.cell (p := ⟨wo.heap.size, k, none⟩) hlq
                    rw [hcA.out] at hca
                    have hdd : (ba != ba) = false := by simp
                    rw [H4.out]
                    clear hcle hj hjt
                    by_cases hik : i = k
                    · have e1 : ((i : Int) == (k : Int)) = true := by simp [hik]
                      have e2 : ((i : Int) != (k : Int)) = false := by simp [hik]
                      rw [if_pos hik]
                      clear hik
                      go_wp2_with fail
                      go_roundg (ps.length - (k + 1))
                      case measure => have := HQ3.out; omega
                      case rel => exact ⟨k + 1, rfl, by omega, by go_num, hbz⟩
                    · have e1 : ((i : Int) == (k : Int)) = false := by simp; omega
                      have e2 : ((i : Int) != (k : Int)) = true := by simp; omega
                      rw [if_neg hik]
                      clear hik
                      go_wp2_with fail
                      go_roundg (ps.length - (k + 1))
                      case measure => have := HQ3.out; omega
                      case rel => exact ⟨k + 1, rfl, by omega, by go_num, hbz⟩
              · go_wp2_with fail
                go_roundg (ps.length - (i + 1))
                case measure => have := HQ.out; omega
                case rel => exact ⟨i + 1, rfl, by omega, by go_num, (hLq.below hb3), hbw.trans ((hbq.trans (hb3.mono hbq.size)).mono hbw.size)⟩
          · obtain ⟨y, hy⟩ : ∃ y : Nat, it ps (m + 1) (i : Int) = (y : Int) := ⟨(it ps (m + 1) (i : Int)).toNat, by omega⟩
            have hml : m + 1 < ps.length := way_short F.out.v F.out.a hlt (by omega)
            have hyl : y < ps.length := by have := it_lt F.out.v (m + 1) (i : Int) (by omega); omega
            have hyl2 : y < bs.length := by omega
            have hpos' : Hid (∀ j, j < m + 1 → 0 ≤ it ps (j + 1) i) := by
              show ∀ j, j < m + 1 → 0 ≤ it ps (j + 1) (i : Int)
              intro j hj
              by_cases e : j = m
              · rw [e]; omega
              · exact hpos.out j (by omega)
            have hnx : Hid (it ps (m + 1 + 1) (i : Int) = ps[y]) := by show _ = _; rw [it_succ, hy, up_nat hyl]
            have habv' : Hid (Abv ps i (m + 1) (bs.set y true)) := habv.out.step hyl hy
            have hbs' : (bs.set y true).length = ps.length := by rw [List.length_set]; exact hbs
            have HBS' := Lib.hid hbs'
            clear hneg hpos habv hbs'
            rw [hy]
            clear hy
            obtain ⟨_, _, e, hcy⟩ := (hAr.below hbq).get hyl
            cases e
            have hcell : wr.cell? ⟨wo.heap.size, y, none⟩ = some (.bool (bs[y])) := by rw [hown.cell]; simp [hyl2]
            have hfr : wr.frozen? ⟨wo.heap.size, y, none⟩ = false := hown.frozen y
            have hown' : Own (wr.setCell ⟨wo.heap.size, y, none⟩ (.bool true)) wo.heap.size 4 (cb (bs.set y true)) := by
              have := hown.set_ y (.bool true)
              have e : cb (bs.set y true) = (cb bs).set y (.bool true) := by simp [cb, List.map_set]
              rw [e]; exact this
            have hbq' : Below wo.heap.size wo (wr.setCell ⟨wo.heap.size, y, none⟩ (.bool true)) := hbq.setCell (Nat.le_refl _) _
            have HBS := Lib.hid hbs
            clear hbs hown hbq
            go_wp2
            go_roundg (ps.length - (m + 1))
            case measure => have := HQ2.out; omega
            case rel => exact ⟨m + 1, bs.set y true, rfl, by omega, by go_num, by rw [hnx.out], hpos', habv', HBS'.out, hown', hbq'⟩
      · go_wp2_with fail
        refine (awake_any _).mono ?_
        rintro e w3 ⟨rfl, hb3⟩
        go_wp2
        go_ret
        exact ⟨rfl, below5 hbw hb3⟩
  · have HV : Hid (Calls Try.prog 19 #[.slice A ps.length c] w fun e w' => e = .returned (.bool false) ∧ w = w') := by
      have := r9valid_any A c ps w hA hx
      have e : ((chk ps).2 == 0) = false := by simpa using hc
      rw [e] at this
      exact this
    unfold maxLen at hx
    clear hc
    go_enter Try.func6, Try.ntmps6
    go_wp2_with fail
    refine HV.out.mono ?_
    rintro e w0 ⟨rfl, rfl⟩
    go_wp2
    go_ret
    exact ⟨rfl, Below.refl _ _⟩
end Go.Proofs.Ytgimddboflhpaaa
