/- Sisters and the lowest common ancestor: what both texts return. -/
import Derived.Test.YtgimddboflhpaaaRefParents
namespace Go.Proofs.Ytgimddboflhpaaa
set_option linter.unusedSimpArgs false
set_option linter.unusedVariables false
set_option linter.unusedSectionVars false
open Go.RowKit Tr

def InR (n : Nat) (i j : Int) : Prop := (0 ≤ i ∧ i < n) ∧ (0 ≤ j ∧ j < n)
def sisP (ls : List Lab) (i j : Int) : Prop := ∃ ps, IsF ls ps ∧ InR ls.length i j ∧ i ≠ j ∧ ps.getD i.toNat 0 = ps.getD j.toNat 0
/-- c is the first on the way up from i that is j or an ancestor of j. -/
def IsCom (ps : List Int) (i j : Nat) (c : Int) : Prop :=
  (∃ (k x : Nat), it ps k i = (x : Int) ∧ c = x ∧ Sub ps x j ∧ ∀ l, l < k → ∀ y : Nat, it ps l i = (y : Int) → ¬ Sub ps y j) ∨ (c = -1 ∧ ∀ (l y : Nat), it ps l i = (y : Int) → ¬ Sub ps y j)
theorem IsCom.uniq {ps : List Int} {i j : Nat} {c d : Int} (h : IsCom ps i j c) (h' : IsCom ps i j d) : c = d := by
  rcases h with ⟨k, x, h1, rfl, h2, h3⟩ | ⟨rfl, h1⟩ <;> rcases h' with ⟨k', x', h1', rfl, h2', h3'⟩ | ⟨rfl, h1'⟩
  · rcases Nat.lt_trichotomy k k' with h | h | h
    · exact absurd h2 (h3' k h x h1)
    · subst h; omega
    · exact absurd h2' (h3 k' h x' h1')
  · exact absurd h2 (h1' k x h1)
  · exact absurd h2' (h1 k' x' h1')
  · rfl
def comP (ls : List Lab) (i j c : Int) : Prop :=
  (∃ ps, IsF ls ps ∧ InR ls.length i j ∧ IsCom ps i.toNat j.toNat c) ∨ ((¬ ∃ ps, IsF ls ps ∧ InR ls.length i j) ∧ c = -1)
theorem isF_uniq {ls : List Lab} {ps qs : List Int} (h : IsF ls ps) (h' : IsF ls qs) : ps = qs := (cand2_is h).symm.trans (cand2_is h')
theorem comP.uniq {ls : List Lab} {i j c d : Int} (h : comP ls i j c) (h' : comP ls i j d) : c = d := by
  rcases h with ⟨ps, h1, h2, h3⟩ | ⟨h1, rfl⟩ <;> rcases h' with ⟨qs, h1', h2', h3'⟩ | ⟨h1', rfl⟩
  · obtain rfl := isF_uniq h1 h1'
    exact h3.uniq h3'
  · exact absurd ⟨ps, h1, h2⟩ h1'
  · exact absurd ⟨qs, h1', h2'⟩ h1
  · rfl

def ParOfPost (ls : List Lab) (i j : Int) (w : World) (e : Ending) (w' : World) : Prop :=
  Below w.heap.size w w' ∧
  ((∃ (ps : List Int) (v : Value), IsF ls ps ∧ InR ls.length i j ∧ e = .returned (.tuple #[v, .bool true]) ∧ Sl w' v ps.length (ci ps)) ∨
   ((¬ ∃ ps, IsF ls ps ∧ InR ls.length i j) ∧ ∃ v, e = .returned (.tuple #[v, .bool false])))

set_option maxHeartbeats 1000000 in
theorem parentsOf_any (A : Option Addr) (c : Nat) (ls : List Lab) (i j : Int) (w : World) (hA : Labs w A ls) (hx : ls.length ≤ maxLen) :
    Calls Try.prog 36 #[.slice A ls.length c, .int .i64 i, .int .i64 j] w (ParOfPost ls i j w) := by
  have HC := Lib.hid (parents_any A c ls w hA hx)
  unfold maxLen at hx
  go_enter Try.func36, Try.ntmps36
  go_wp2_with fail
  refine HC.out.mono ?_
  rintro e w1 ⟨hb, ⟨ps, v, hF, rfl, hs⟩ | ⟨hno, rfl⟩⟩
  · by_cases h1 : 0 ≤ i
    · by_cases h2 : i < ls.length
      · by_cases h3 : 0 ≤ j
        · by_cases h4 : j < ls.length
          · go_wp2
            go_ret2
            exact ⟨hb, .inl ⟨ps, v, hF, ⟨⟨h1, h2⟩, ⟨h3, h4⟩⟩, rfl, hs⟩⟩
          · have hd : decide (j < (ls.length : Int)) = false := decide_eq_false h4
            go_wp2
            go_ret2
            exact ⟨hb, .inr ⟨fun ⟨_, _, h⟩ => by have := h.2.2; omega, _, rfl⟩⟩
        · go_wp2
          go_ret2
          exact ⟨hb, .inr ⟨fun ⟨_, _, h⟩ => by have := h.2.1; omega, _, rfl⟩⟩
      · go_wp2
        go_ret2
        exact ⟨hb, .inr ⟨fun ⟨_, _, h⟩ => by have := h.1.2; omega, _, rfl⟩⟩
    · go_wp2
      go_ret2
      exact ⟨hb, .inr ⟨fun ⟨_, _, h⟩ => by have := h.1.1; omega, _, rfl⟩⟩
  · obtain ⟨k, hk, hk0⟩ : ∃ k : Int, (if 4096 < ls.length then (2 : Int) else 9) = k ∧ (k == 0) = false := by
      split
      · exact ⟨2, rfl, rfl⟩
      · exact ⟨9, rfl, rfl⟩
    rw [hk]
    clear hk
    have HN := Lib.hid hno
    clear hno
    go_wp2
    go_ret2
    exact ⟨hb, .inr ⟨fun ⟨ps, h, _⟩ => HN.out ps h, _, rfl⟩⟩

theorem getD_at {ps : List Int} {i : Int} (h0 : 0 ≤ i) (h : i < ps.length) : ∃ x, ps.getD i.toNat 0 = x ∧ (ci ps)[i.toNat]? = some (.int .i64 x) := by
  have hl : i.toNat < ps.length := by omega
  exact ⟨ps[i.toNat], by simp [List.getD, hl], ci_get hl⟩
def SisPost (ls : List Lab) (i j : Int) (w : World) (e : Ending) (w' : World) : Prop := Below w.heap.size w w' ∧ ∃ b, e = .returned (.bool b) ∧ (b = true ↔ sisP ls i j)
theorem sisP_of {ls : List Lab} {ps : List Int} {i j : Int} (hF : IsF ls ps) (hr : InR ls.length i j) : sisP ls i j ↔ i ≠ j ∧ ps.getD i.toNat 0 = ps.getD j.toNat 0 :=
  ⟨fun ⟨qs, h, _, h2, h3⟩ => by obtain rfl := isF_uniq hF h; exact ⟨h2, h3⟩, fun ⟨h2, h3⟩ => ⟨ps, hF, hr, h2, h3⟩⟩

set_option maxRecDepth 100000 in
set_option maxHeartbeats 1000000 in
theorem sisters_any (A : Option Addr) (c : Nat) (ls : List Lab) (i j : Int) (w : World) (hA : Labs w A ls) (hx : ls.length ≤ maxLen) :
    Calls Try.prog 24 #[.slice A ls.length c, .int .i64 i, .int .i64 j] w (SisPost ls i j w) := by
  have HC := Lib.hid (parentsOf_any A c ls i j w hA hx)
  unfold maxLen at hx
  go_enter Try.func24, Try.ntmps24
  go_wp2_with fail
  refine HC.out.mono ?_
  rintro e w1 ⟨hb, ⟨ps, v, hF, hr, rfl, hs⟩ | ⟨hno, v, rfl⟩⟩
  · have hiff := sisP_of hF hr
    obtain ⟨_, F⟩ := facts hF
    have hlen := F.len
    obtain ⟨⟨r1, r2⟩, r3, r4⟩ := hr
    obtain ⟨x, hx1, hx2⟩ := getD_at (ps := ps) r1 (by omega)
    obtain ⟨y, hy1, hy2⟩ := getD_at (ps := ps) r3 (by omega)
    rw [hx1, hy1] at hiff
    obtain ⟨Ap, cp, rfl, _, _, hrd⟩ := hs
    obtain ⟨b, off, rfl, c0⟩ := hrd _ _ hx2
    obtain ⟨_, _, e, c1⟩ := hrd _ _ hy2
    cases e
    have HF := Lib.hid hiff
    have r2' : i < (ps.length : Int) := by omega
    have r4' : j < (ps.length : Int) := by omega
    clear hiff hlen F hx1 hy1 hx2 hy2 hrd hF hA HC
    by_cases hij : i = j
    · have hb1 : (i != j) = false := by simp [hij]
      have HIJ := Lib.hid hij; clear hij
      go_wp2
      refine wp_reg_vals [some 16, some 17, some 18, some 19, some 20, some 21, some 22, some 23, some 24, some 25, some 26, some 27, some 28, some 29, some 30, some 31, some 32, some 6] [?v1_0, ?v1_1, ?v1_2, ?v1_3, ?v1_4, ?v1_5, ?v1_6, ?v1_7, ?v1_8, ?v1_9, ?v1_10, ?v1_11, ?v1_12, ?v1_13, ?v1_14, ?v1_15, ?v1_16, ?v1_17] rfl (by kernel_rfl) rfl rfl ⟨?s1_0, ?s1_1, ?s1_2, ?s1_3, ?s1_4, ?s1_5, ?s1_6, ?s1_7, ?s1_8, ?s1_9, ?s1_10, ?s1_11, ?s1_12, ?s1_13, ?s1_14, ?s1_15, ?s1_16, ?s1_17, trivial⟩ ?p1
      case s1_0 =>
        intro u9 w9 hT9 hV9 K9 hK9
        clear hV9
        simp only [putAll, Act.put, List.setIfInBounds_toArray, List.set_cons_succ, List.set_cons_zero, List.getD_cons_succ, List.getD_cons_zero, Nat.reduceAdd, Nat.zero_add] at hK9 ⊢
        go_simp
        exact hK9 _ (Grow.refl _)
      case s1_1 =>
        intro u9 w9 hT9 hV9 K9 hK9
        have p9_0 := hV9 0 rfl
        clear hV9
        simp only [putAll, Act.put, List.setIfInBounds_toArray, List.set_cons_succ, List.set_cons_zero, List.getD_cons_succ, List.getD_cons_zero, Nat.reduceAdd, Nat.zero_add] at p9_0 hK9 ⊢
        simp only [p9_0] at hK9 ⊢
        clear p9_0
        go_simp
        exact hK9 _ (Grow.refl _)
      case s1_2 =>
        intro u9 w9 hT9 hV9 K9 hK9
        have p9_1 := hV9 1 rfl
        clear hV9
        simp only [putAll, Act.put, List.setIfInBounds_toArray, List.set_cons_succ, List.set_cons_zero, List.getD_cons_succ, List.getD_cons_zero, Nat.reduceAdd, Nat.zero_add] at p9_1 hK9 ⊢
        simp only [p9_1] at hK9 ⊢
        clear p9_1
        go_simp
        exact hK9 _ (Grow.refl _)
      case s1_3 =>
        intro u9 w9 hT9 hV9 K9 hK9
        have p9_1 := hV9 1 rfl
        clear hV9
        simp only [putAll, Act.put, List.setIfInBounds_toArray, List.set_cons_succ, List.set_cons_zero, List.getD_cons_succ, List.getD_cons_zero, Nat.reduceAdd, Nat.zero_add] at p9_1 hK9 ⊢
        simp only [p9_1] at hK9 ⊢
        clear p9_1
        go_simp
        exact hK9 _ (Grow.refl _)
      case s1_4 =>
        intro u9 w9 hT9 hV9 K9 hK9
        have p9_1 := hV9 1 rfl
        have p9_2 := hV9 2 rfl
        have p9_3 := hV9 3 rfl
        clear hV9
        simp only [putAll, Act.put, List.setIfInBounds_toArray, List.set_cons_succ, List.set_cons_zero, List.getD_cons_succ, List.getD_cons_zero, Nat.reduceAdd, Nat.zero_add] at p9_1 p9_2 p9_3 hK9 ⊢
        simp only [p9_1, p9_2, p9_3] at hK9 ⊢
        clear p9_1 p9_2 p9_3
        go_simp
        exact hK9 _ (Grow.refl _)
      case s1_5 =>
        intro u9 w9 hT9 hV9 K9 hK9
        have p9_1 := hV9 1 rfl
        have p9_4 := hV9 4 rfl
        clear hV9
        simp only [putAll, Act.put, List.setIfInBounds_toArray, List.set_cons_succ, List.set_cons_zero, List.getD_cons_succ, List.getD_cons_zero, Nat.reduceAdd, Nat.zero_add] at p9_1 p9_4 hK9 ⊢
        simp only [p9_1, p9_4] at hK9 ⊢
        clear p9_1 p9_4
        go_simp
        exact hK9 _ (Grow.refl _)
      case s1_6 =>
        intro u9 w9 hT9 hV9 K9 hK9
        have p9_5 := hV9 5 rfl
        clear hV9
        simp only [putAll, Act.put, List.setIfInBounds_toArray, List.set_cons_succ, List.set_cons_zero, List.getD_cons_succ, List.getD_cons_zero, Nat.reduceAdd, Nat.zero_add] at p9_5 hK9 ⊢
        simp only [p9_5] at hK9 ⊢
        clear p9_5
        go_simp
        exact hK9 _ (Grow.refl _)
      case s1_7 =>
        intro u9 w9 hT9 hV9 K9 hK9
        have p9_6 := hV9 6 rfl
        clear hV9
        simp only [putAll, Act.put, List.setIfInBounds_toArray, List.set_cons_succ, List.set_cons_zero, List.getD_cons_succ, List.getD_cons_zero, Nat.reduceAdd, Nat.zero_add] at p9_6 hK9 ⊢
        simp only [p9_6] at hK9 ⊢
        clear p9_6
        go_simp
        exact hK9 _ (Grow.refl _)
      case s1_8 =>
        intro u9 w9 hT9 hV9 K9 hK9
        have p9_6 := hV9 6 rfl
        clear hV9
        simp only [putAll, Act.put, List.setIfInBounds_toArray, List.set_cons_succ, List.set_cons_zero, List.getD_cons_succ, List.getD_cons_zero, Nat.reduceAdd, Nat.zero_add] at p9_6 hK9 ⊢
        simp only [p9_6] at hK9 ⊢
        clear p9_6
        go_simp
        exact hK9 _ (Grow.refl _)
      case s1_9 =>
        intro u9 w9 hT9 hV9 K9 hK9
        have p9_6 := hV9 6 rfl
        have p9_7 := hV9 7 rfl
        have p9_8 := hV9 8 rfl
        clear hV9
        simp only [putAll, Act.put, List.setIfInBounds_toArray, List.set_cons_succ, List.set_cons_zero, List.getD_cons_succ, List.getD_cons_zero, Nat.reduceAdd, Nat.zero_add] at p9_6 p9_7 p9_8 hK9 ⊢
        simp only [p9_6, p9_7, p9_8] at hK9 ⊢
        clear p9_6 p9_7 p9_8
        go_simp
        exact hK9 _ (Grow.refl _)
      case s1_10 =>
        intro u9 w9 hT9 hV9 K9 hK9
        have p9_6 := hV9 6 rfl
        have p9_9 := hV9 9 rfl
        clear hV9
        simp only [putAll, Act.put, List.setIfInBounds_toArray, List.set_cons_succ, List.set_cons_zero, List.getD_cons_succ, List.getD_cons_zero, Nat.reduceAdd, Nat.zero_add] at p9_6 p9_9 hK9 ⊢
        simp only [p9_6, p9_9] at hK9 ⊢
        clear p9_6 p9_9
        have d9_0 := grow_cell hT9 c0
        have d9_1 := grow_cell hT9 c1
        go_simp
        exact hK9 _ (Grow.refl _)
      case s1_11 =>
        intro u9 w9 hT9 hV9 K9 hK9
        have p9_6 := hV9 6 rfl
        clear hV9
        simp only [putAll, Act.put, List.setIfInBounds_toArray, List.set_cons_succ, List.set_cons_zero, List.getD_cons_succ, List.getD_cons_zero, Nat.reduceAdd, Nat.zero_add] at p9_6 hK9 ⊢
        simp only [p9_6] at hK9 ⊢
        clear p9_6
        go_simp
        exact hK9 _ (Grow.refl _)
      case s1_12 =>
        intro u9 w9 hT9 hV9 K9 hK9
        have p9_6 := hV9 6 rfl
        clear hV9
        simp only [putAll, Act.put, List.setIfInBounds_toArray, List.set_cons_succ, List.set_cons_zero, List.getD_cons_succ, List.getD_cons_zero, Nat.reduceAdd, Nat.zero_add] at p9_6 hK9 ⊢
        simp only [p9_6] at hK9 ⊢
        clear p9_6
        go_simp
        exact hK9 _ (Grow.refl _)
      case s1_13 =>
        intro u9 w9 hT9 hV9 K9 hK9
        have p9_6 := hV9 6 rfl
        have p9_11 := hV9 11 rfl
        have p9_12 := hV9 12 rfl
        clear hV9
        simp only [putAll, Act.put, List.setIfInBounds_toArray, List.set_cons_succ, List.set_cons_zero, List.getD_cons_succ, List.getD_cons_zero, Nat.reduceAdd, Nat.zero_add] at p9_6 p9_11 p9_12 hK9 ⊢
        simp only [p9_6, p9_11, p9_12] at hK9 ⊢
        clear p9_6 p9_11 p9_12
        go_simp
        exact hK9 _ (Grow.refl _)
      case s1_14 =>
        intro u9 w9 hT9 hV9 K9 hK9
        have p9_6 := hV9 6 rfl
        have p9_13 := hV9 13 rfl
        clear hV9
        simp only [putAll, Act.put, List.setIfInBounds_toArray, List.set_cons_succ, List.set_cons_zero, List.getD_cons_succ, List.getD_cons_zero, Nat.reduceAdd, Nat.zero_add] at p9_6 p9_13 hK9 ⊢
        simp only [p9_6, p9_13] at hK9 ⊢
        clear p9_6 p9_13
        have d9_0 := grow_cell hT9 c0
        have d9_1 := grow_cell hT9 c1
        go_simp
        exact hK9 _ (Grow.refl _)
      case s1_15 =>
        intro u9 w9 hT9 hV9 K9 hK9
        have p9_6 := hV9 6 rfl
        have p9_10 := hV9 10 rfl
        have p9_14 := hV9 14 rfl
        clear hV9
        simp only [putAll, Act.put, List.setIfInBounds_toArray, List.set_cons_succ, List.set_cons_zero, List.getD_cons_succ, List.getD_cons_zero, Nat.reduceAdd, Nat.zero_add] at p9_6 p9_10 p9_14 hK9 ⊢
        simp only [p9_6, p9_10, p9_14] at hK9 ⊢
        clear p9_6 p9_10 p9_14
        go_simp
        exact hK9 _ (Grow.refl _)
      case s1_16 =>
        intro u9 w9 hT9 hV9 K9 hK9
        have p9_6 := hV9 6 rfl
        have p9_15 := hV9 15 rfl
        clear hV9
        simp only [putAll, Act.put, List.setIfInBounds_toArray, List.set_cons_succ, List.set_cons_zero, List.getD_cons_succ, List.getD_cons_zero, Nat.reduceAdd, Nat.zero_add] at p9_6 p9_15 hK9 ⊢
        simp only [p9_6, p9_15] at hK9 ⊢
        clear p9_6 p9_15
        go_simp
        exact hK9 _ (Grow.refl _)
      case s1_17 =>
        intro u9 w9 hT9 hV9 K9 hK9
        have p9_16 := hV9 16 rfl
        clear hV9
        simp only [putAll, Act.put, List.setIfInBounds_toArray, List.set_cons_succ, List.set_cons_zero, List.getD_cons_succ, List.getD_cons_zero, Nat.reduceAdd, Nat.zero_add] at p9_16 hK9 ⊢
        simp only [p9_16] at hK9 ⊢
        clear p9_16
        go_simp
        exact hK9 _ (Grow.refl _)
      intro w9 hb9
      simp only [putAll, Act.put, List.setIfInBounds_toArray, List.set_cons_succ, List.set_cons_zero, List.getD_cons_succ, List.getD_cons_zero, Nat.reduceAdd, Nat.zero_add]
      go_wp2
      go_ret
      exact ⟨hb.trans (hb9.mono hb.size), false, rfl, by rw [HF.out]; simp [HIJ.out]⟩
    · have hb1 : (i != j) = true := by simp [hij]
      go_wp2
      refine wp_reg_vals [some 16, some 17, some 18, some 19, some 20, some 21, some 22, some 23, some 24, some 25, some 26, some 27, some 28, some 29, some 30, some 31, some 32, some 6] [?v2_0, ?v2_1, ?v2_2, ?v2_3, ?v2_4, ?v2_5, ?v2_6, ?v2_7, ?v2_8, ?v2_9, ?v2_10, ?v2_11, ?v2_12, ?v2_13, ?v2_14, ?v2_15, ?v2_16, ?v2_17] rfl (by kernel_rfl) rfl rfl ⟨?s2_0, ?s2_1, ?s2_2, ?s2_3, ?s2_4, ?s2_5, ?s2_6, ?s2_7, ?s2_8, ?s2_9, ?s2_10, ?s2_11, ?s2_12, ?s2_13, ?s2_14, ?s2_15, ?s2_16, ?s2_17, trivial⟩ ?p2
      case s2_0 =>
        intro u9 w9 hT9 hV9 K9 hK9
        clear hV9
        simp only [putAll, Act.put, List.setIfInBounds_toArray, List.set_cons_succ, List.set_cons_zero, List.getD_cons_succ, List.getD_cons_zero, Nat.reduceAdd, Nat.zero_add] at hK9 ⊢
        go_simp
        exact hK9 _ (Grow.refl _)
      case s2_1 =>
        intro u9 w9 hT9 hV9 K9 hK9
        have p9_0 := hV9 0 rfl
        clear hV9
        simp only [putAll, Act.put, List.setIfInBounds_toArray, List.set_cons_succ, List.set_cons_zero, List.getD_cons_succ, List.getD_cons_zero, Nat.reduceAdd, Nat.zero_add] at p9_0 hK9 ⊢
        simp only [p9_0] at hK9 ⊢
        clear p9_0
        go_simp
        exact hK9 _ (Grow.refl _)
      case s2_2 =>
        intro u9 w9 hT9 hV9 K9 hK9
        have p9_1 := hV9 1 rfl
        clear hV9
        simp only [putAll, Act.put, List.setIfInBounds_toArray, List.set_cons_succ, List.set_cons_zero, List.getD_cons_succ, List.getD_cons_zero, Nat.reduceAdd, Nat.zero_add] at p9_1 hK9 ⊢
        simp only [p9_1] at hK9 ⊢
        clear p9_1
        go_simp
        exact hK9 _ (Grow.refl _)
      case s2_3 =>
        intro u9 w9 hT9 hV9 K9 hK9
        have p9_1 := hV9 1 rfl
        clear hV9
        simp only [putAll, Act.put, List.setIfInBounds_toArray, List.set_cons_succ, List.set_cons_zero, List.getD_cons_succ, List.getD_cons_zero, Nat.reduceAdd, Nat.zero_add] at p9_1 hK9 ⊢
        simp only [p9_1] at hK9 ⊢
        clear p9_1
        go_simp
        exact hK9 _ (Grow.refl _)
      case s2_4 =>
        intro u9 w9 hT9 hV9 K9 hK9
        have p9_1 := hV9 1 rfl
        have p9_2 := hV9 2 rfl
        have p9_3 := hV9 3 rfl
        clear hV9
        simp only [putAll, Act.put, List.setIfInBounds_toArray, List.set_cons_succ, List.set_cons_zero, List.getD_cons_succ, List.getD_cons_zero, Nat.reduceAdd, Nat.zero_add] at p9_1 p9_2 p9_3 hK9 ⊢
        simp only [p9_1, p9_2, p9_3] at hK9 ⊢
        clear p9_1 p9_2 p9_3
        go_simp
        exact hK9 _ (Grow.refl _)
      case s2_5 =>
        intro u9 w9 hT9 hV9 K9 hK9
        have p9_1 := hV9 1 rfl
        have p9_4 := hV9 4 rfl
        clear hV9
        simp only [putAll, Act.put, List.setIfInBounds_toArray, List.set_cons_succ, List.set_cons_zero, List.getD_cons_succ, List.getD_cons_zero, Nat.reduceAdd, Nat.zero_add] at p9_1 p9_4 hK9 ⊢
        simp only [p9_1, p9_4] at hK9 ⊢
        clear p9_1 p9_4
        go_simp
        exact hK9 _ (Grow.refl _)
      case s2_6 =>
        intro u9 w9 hT9 hV9 K9 hK9
        have p9_5 := hV9 5 rfl
        clear hV9
        simp only [putAll, Act.put, List.setIfInBounds_toArray, List.set_cons_succ, List.set_cons_zero, List.getD_cons_succ, List.getD_cons_zero, Nat.reduceAdd, Nat.zero_add] at p9_5 hK9 ⊢
        simp only [p9_5] at hK9 ⊢
        clear p9_5
        go_simp
        exact hK9 _ (Grow.refl _)
      case s2_7 =>
        intro u9 w9 hT9 hV9 K9 hK9
        have p9_6 := hV9 6 rfl
        clear hV9
        simp only [putAll, Act.put, List.setIfInBounds_toArray, List.set_cons_succ, List.set_cons_zero, List.getD_cons_succ, List.getD_cons_zero, Nat.reduceAdd, Nat.zero_add] at p9_6 hK9 ⊢
        simp only [p9_6] at hK9 ⊢
        clear p9_6
        go_simp
        exact hK9 _ (Grow.refl _)
      case s2_8 =>
        intro u9 w9 hT9 hV9 K9 hK9
        have p9_6 := hV9 6 rfl
        clear hV9
        simp only [putAll, Act.put, List.setIfInBounds_toArray, List.set_cons_succ, List.set_cons_zero, List.getD_cons_succ, List.getD_cons_zero, Nat.reduceAdd, Nat.zero_add] at p9_6 hK9 ⊢
        simp only [p9_6] at hK9 ⊢
        clear p9_6
        go_simp
        exact hK9 _ (Grow.refl _)
      case s2_9 =>
        intro u9 w9 hT9 hV9 K9 hK9
        have p9_6 := hV9 6 rfl
        have p9_7 := hV9 7 rfl
        have p9_8 := hV9 8 rfl
        clear hV9
        simp only [putAll, Act.put, List.setIfInBounds_toArray, List.set_cons_succ, List.set_cons_zero, List.getD_cons_succ, List.getD_cons_zero, Nat.reduceAdd, Nat.zero_add] at p9_6 p9_7 p9_8 hK9 ⊢
        simp only [p9_6, p9_7, p9_8] at hK9 ⊢
        clear p9_6 p9_7 p9_8
        go_simp
        exact hK9 _ (Grow.refl _)
      case s2_10 =>
        intro u9 w9 hT9 hV9 K9 hK9
        have p9_6 := hV9 6 rfl
        have p9_9 := hV9 9 rfl
        clear hV9
        simp only [putAll, Act.put, List.setIfInBounds_toArray, List.set_cons_succ, List.set_cons_zero, List.getD_cons_succ, List.getD_cons_zero, Nat.reduceAdd, Nat.zero_add] at p9_6 p9_9 hK9 ⊢
        simp only [p9_6, p9_9] at hK9 ⊢
        clear p9_6 p9_9
        have d9_0 := grow_cell hT9 c0
        have d9_1 := grow_cell hT9 c1
        go_simp
        exact hK9 _ (Grow.refl _)
      case s2_11 =>
        intro u9 w9 hT9 hV9 K9 hK9
        have p9_6 := hV9 6 rfl
        clear hV9
        simp only [putAll, Act.put, List.setIfInBounds_toArray, List.set_cons_succ, List.set_cons_zero, List.getD_cons_succ, List.getD_cons_zero, Nat.reduceAdd, Nat.zero_add] at p9_6 hK9 ⊢
        simp only [p9_6] at hK9 ⊢
        clear p9_6
        go_simp
        exact hK9 _ (Grow.refl _)
      case s2_12 =>
        intro u9 w9 hT9 hV9 K9 hK9
        have p9_6 := hV9 6 rfl
        clear hV9
        simp only [putAll, Act.put, List.setIfInBounds_toArray, List.set_cons_succ, List.set_cons_zero, List.getD_cons_succ, List.getD_cons_zero, Nat.reduceAdd, Nat.zero_add] at p9_6 hK9 ⊢
        simp only [p9_6] at hK9 ⊢
        clear p9_6
        go_simp
        exact hK9 _ (Grow.refl _)
      case s2_13 =>
        intro u9 w9 hT9 hV9 K9 hK9
        have p9_6 := hV9 6 rfl
        have p9_11 := hV9 11 rfl
        have p9_12 := hV9 12 rfl
        clear hV9
        simp only [putAll, Act.put, List.setIfInBounds_toArray, List.set_cons_succ, List.set_cons_zero, List.getD_cons_succ, List.getD_cons_zero, Nat.reduceAdd, Nat.zero_add] at p9_6 p9_11 p9_12 hK9 ⊢
        simp only [p9_6, p9_11, p9_12] at hK9 ⊢
        clear p9_6 p9_11 p9_12
        go_simp
        exact hK9 _ (Grow.refl _)
      case s2_14 =>
        intro u9 w9 hT9 hV9 K9 hK9
        have p9_6 := hV9 6 rfl
        have p9_13 := hV9 13 rfl
        clear hV9
        simp only [putAll, Act.put, List.setIfInBounds_toArray, List.set_cons_succ, List.set_cons_zero, List.getD_cons_succ, List.getD_cons_zero, Nat.reduceAdd, Nat.zero_add] at p9_6 p9_13 hK9 ⊢
        simp only [p9_6, p9_13] at hK9 ⊢
        clear p9_6 p9_13
        have d9_0 := grow_cell hT9 c0
        have d9_1 := grow_cell hT9 c1
        go_simp
        exact hK9 _ (Grow.refl _)
      case s2_15 =>
        intro u9 w9 hT9 hV9 K9 hK9
        have p9_6 := hV9 6 rfl
        have p9_10 := hV9 10 rfl
        have p9_14 := hV9 14 rfl
        clear hV9
        simp only [putAll, Act.put, List.setIfInBounds_toArray, List.set_cons_succ, List.set_cons_zero, List.getD_cons_succ, List.getD_cons_zero, Nat.reduceAdd, Nat.zero_add] at p9_6 p9_10 p9_14 hK9 ⊢
        simp only [p9_6, p9_10, p9_14] at hK9 ⊢
        clear p9_6 p9_10 p9_14
        go_simp
        exact hK9 _ (Grow.refl _)
      case s2_16 =>
        intro u9 w9 hT9 hV9 K9 hK9
        have p9_6 := hV9 6 rfl
        have p9_15 := hV9 15 rfl
        clear hV9
        simp only [putAll, Act.put, List.setIfInBounds_toArray, List.set_cons_succ, List.set_cons_zero, List.getD_cons_succ, List.getD_cons_zero, Nat.reduceAdd, Nat.zero_add] at p9_6 p9_15 hK9 ⊢
        simp only [p9_6, p9_15] at hK9 ⊢
        clear p9_6 p9_15
        go_simp
        exact hK9 _ (Grow.refl _)
      case s2_17 =>
        intro u9 w9 hT9 hV9 K9 hK9
        have p9_16 := hV9 16 rfl
        clear hV9
        simp only [putAll, Act.put, List.setIfInBounds_toArray, List.set_cons_succ, List.set_cons_zero, List.getD_cons_succ, List.getD_cons_zero, Nat.reduceAdd, Nat.zero_add] at p9_16 hK9 ⊢
        simp only [p9_16] at hK9 ⊢
        clear p9_16
        go_simp
        exact hK9 _ (Grow.refl _)
      intro w9 hb9
      simp only [putAll, Act.put, List.setIfInBounds_toArray, List.set_cons_succ, List.set_cons_zero, List.getD_cons_succ, List.getD_cons_zero, Nat.reduceAdd, Nat.zero_add]
      go_wp2
      go_ret
      exact ⟨hb.trans (hb9.mono hb.size), x == y, rfl, by rw [HF.out]; simp [hij]⟩
  · have HN := Lib.hid hno
    clear hno
    go_wp2
    refine wp_reg_vals [some 16, some 17, some 18, some 19, some 20, some 21, some 22, some 23, some 24, some 25, some 26, some 27, some 28, some 29, some 30, some 31, some 32, some 6] [?v3_0, ?v3_1, ?v3_2, ?v3_3, ?v3_4, ?v3_5, ?v3_6, ?v3_7, ?v3_8, ?v3_9, ?v3_10, ?v3_11, ?v3_12, ?v3_13, ?v3_14, ?v3_15, ?v3_16, ?v3_17] rfl (by kernel_rfl) rfl rfl ⟨?s3_0, ?s3_1, ?s3_2, ?s3_3, ?s3_4, ?s3_5, ?s3_6, ?s3_7, ?s3_8, ?s3_9, ?s3_10, ?s3_11, ?s3_12, ?s3_13, ?s3_14, ?s3_15, ?s3_16, ?s3_17, trivial⟩ ?p3
    case s3_0 =>
      intro u9 w9 hT9 hV9 K9 hK9
      clear hV9
      simp only [putAll, Act.put, List.setIfInBounds_toArray, List.set_cons_succ, List.set_cons_zero, List.getD_cons_succ, List.getD_cons_zero, Nat.reduceAdd, Nat.zero_add] at hK9 ⊢
      go_simp
      exact hK9 _ (Grow.refl _)
    case s3_1 =>
      intro u9 w9 hT9 hV9 K9 hK9
      have p9_0 := hV9 0 rfl
      clear hV9
      simp only [putAll, Act.put, List.setIfInBounds_toArray, List.set_cons_succ, List.set_cons_zero, List.getD_cons_succ, List.getD_cons_zero, Nat.reduceAdd, Nat.zero_add] at p9_0 hK9 ⊢
      simp only [p9_0] at hK9 ⊢
      clear p9_0
      go_simp
      exact hK9 _ (Grow.refl _)
    case s3_2 =>
      intro u9 w9 hT9 hV9 K9 hK9
      have p9_1 := hV9 1 rfl
      clear hV9
      simp only [putAll, Act.put, List.setIfInBounds_toArray, List.set_cons_succ, List.set_cons_zero, List.getD_cons_succ, List.getD_cons_zero, Nat.reduceAdd, Nat.zero_add] at p9_1 hK9 ⊢
      simp only [p9_1] at hK9 ⊢
      clear p9_1
      go_simp
      exact hK9 _ (Grow.refl _)
    case s3_3 =>
      intro u9 w9 hT9 hV9 K9 hK9
      have p9_1 := hV9 1 rfl
      clear hV9
      simp only [putAll, Act.put, List.setIfInBounds_toArray, List.set_cons_succ, List.set_cons_zero, List.getD_cons_succ, List.getD_cons_zero, Nat.reduceAdd, Nat.zero_add] at p9_1 hK9 ⊢
      simp only [p9_1] at hK9 ⊢
      clear p9_1
      go_simp
      exact hK9 _ (Grow.refl _)
    case s3_4 =>
      intro u9 w9 hT9 hV9 K9 hK9
      have p9_1 := hV9 1 rfl
      have p9_2 := hV9 2 rfl
      have p9_3 := hV9 3 rfl
      clear hV9
      simp only [putAll, Act.put, List.setIfInBounds_toArray, List.set_cons_succ, List.set_cons_zero, List.getD_cons_succ, List.getD_cons_zero, Nat.reduceAdd, Nat.zero_add] at p9_1 p9_2 p9_3 hK9 ⊢
      simp only [p9_1, p9_2, p9_3] at hK9 ⊢
      clear p9_1 p9_2 p9_3
      go_simp
      exact hK9 _ (Grow.refl _)
    case s3_5 =>
      intro u9 w9 hT9 hV9 K9 hK9
      have p9_1 := hV9 1 rfl
      have p9_4 := hV9 4 rfl
      clear hV9
      simp only [putAll, Act.put, List.setIfInBounds_toArray, List.set_cons_succ, List.set_cons_zero, List.getD_cons_succ, List.getD_cons_zero, Nat.reduceAdd, Nat.zero_add] at p9_1 p9_4 hK9 ⊢
      simp only [p9_1, p9_4] at hK9 ⊢
      clear p9_1 p9_4
      go_simp
      exact hK9 _ (Grow.refl _)
    case s3_6 =>
      intro u9 w9 hT9 hV9 K9 hK9
      have p9_5 := hV9 5 rfl
      clear hV9
      simp only [putAll, Act.put, List.setIfInBounds_toArray, List.set_cons_succ, List.set_cons_zero, List.getD_cons_succ, List.getD_cons_zero, Nat.reduceAdd, Nat.zero_add] at p9_5 hK9 ⊢
      simp only [p9_5] at hK9 ⊢
      clear p9_5
      go_simp
      exact hK9 _ (Grow.refl _)
    case s3_7 =>
      intro u9 w9 hT9 hV9 K9 hK9
      have p9_6 := hV9 6 rfl
      clear hV9
      simp only [putAll, Act.put, List.setIfInBounds_toArray, List.set_cons_succ, List.set_cons_zero, List.getD_cons_succ, List.getD_cons_zero, Nat.reduceAdd, Nat.zero_add] at p9_6 hK9 ⊢
      simp only [p9_6] at hK9 ⊢
      clear p9_6
      go_simp
      exact hK9 _ (Grow.refl _)
    case s3_8 =>
      intro u9 w9 hT9 hV9 K9 hK9
      have p9_6 := hV9 6 rfl
      clear hV9
      simp only [putAll, Act.put, List.setIfInBounds_toArray, List.set_cons_succ, List.set_cons_zero, List.getD_cons_succ, List.getD_cons_zero, Nat.reduceAdd, Nat.zero_add] at p9_6 hK9 ⊢
      simp only [p9_6] at hK9 ⊢
      clear p9_6
      go_simp
      exact hK9 _ (Grow.refl _)
    case s3_9 =>
      intro u9 w9 hT9 hV9 K9 hK9
      have p9_6 := hV9 6 rfl
      have p9_7 := hV9 7 rfl
      have p9_8 := hV9 8 rfl
      clear hV9
      simp only [putAll, Act.put, List.setIfInBounds_toArray, List.set_cons_succ, List.set_cons_zero, List.getD_cons_succ, List.getD_cons_zero, Nat.reduceAdd, Nat.zero_add] at p9_6 p9_7 p9_8 hK9 ⊢
      simp only [p9_6, p9_7, p9_8] at hK9 ⊢
      clear p9_6 p9_7 p9_8
      go_simp
      exact hK9 _ (Grow.refl _)
    case s3_10 =>
      intro u9 w9 hT9 hV9 K9 hK9
      have p9_6 := hV9 6 rfl
      have p9_9 := hV9 9 rfl
      clear hV9
      simp only [putAll, Act.put, List.setIfInBounds_toArray, List.set_cons_succ, List.set_cons_zero, List.getD_cons_succ, List.getD_cons_zero, Nat.reduceAdd, Nat.zero_add] at p9_6 p9_9 hK9 ⊢
      simp only [p9_6, p9_9] at hK9 ⊢
      clear p9_6 p9_9
      go_simp
      exact hK9 _ (Grow.refl _)
    case s3_11 =>
      intro u9 w9 hT9 hV9 K9 hK9
      have p9_6 := hV9 6 rfl
      clear hV9
      simp only [putAll, Act.put, List.setIfInBounds_toArray, List.set_cons_succ, List.set_cons_zero, List.getD_cons_succ, List.getD_cons_zero, Nat.reduceAdd, Nat.zero_add] at p9_6 hK9 ⊢
      simp only [p9_6] at hK9 ⊢
      clear p9_6
      go_simp
      exact hK9 _ (Grow.refl _)
    case s3_12 =>
      intro u9 w9 hT9 hV9 K9 hK9
      have p9_6 := hV9 6 rfl
      clear hV9
      simp only [putAll, Act.put, List.setIfInBounds_toArray, List.set_cons_succ, List.set_cons_zero, List.getD_cons_succ, List.getD_cons_zero, Nat.reduceAdd, Nat.zero_add] at p9_6 hK9 ⊢
      simp only [p9_6] at hK9 ⊢
      clear p9_6
      go_simp
      exact hK9 _ (Grow.refl _)
    case s3_13 =>
      intro u9 w9 hT9 hV9 K9 hK9
      have p9_6 := hV9 6 rfl
      have p9_11 := hV9 11 rfl
      have p9_12 := hV9 12 rfl
      clear hV9
      simp only [putAll, Act.put, List.setIfInBounds_toArray, List.set_cons_succ, List.set_cons_zero, List.getD_cons_succ, List.getD_cons_zero, Nat.reduceAdd, Nat.zero_add] at p9_6 p9_11 p9_12 hK9 ⊢
      simp only [p9_6, p9_11, p9_12] at hK9 ⊢
      clear p9_6 p9_11 p9_12
      go_simp
      exact hK9 _ (Grow.refl _)
    case s3_14 =>
      intro u9 w9 hT9 hV9 K9 hK9
      have p9_6 := hV9 6 rfl
      have p9_13 := hV9 13 rfl
      clear hV9
      simp only [putAll, Act.put, List.setIfInBounds_toArray, List.set_cons_succ, List.set_cons_zero, List.getD_cons_succ, List.getD_cons_zero, Nat.reduceAdd, Nat.zero_add] at p9_6 p9_13 hK9 ⊢
      simp only [p9_6, p9_13] at hK9 ⊢
      clear p9_6 p9_13
      go_simp
      exact hK9 _ (Grow.refl _)
    case s3_15 =>
      intro u9 w9 hT9 hV9 K9 hK9
      have p9_6 := hV9 6 rfl
      have p9_10 := hV9 10 rfl
      have p9_14 := hV9 14 rfl
      clear hV9
      simp only [putAll, Act.put, List.setIfInBounds_toArray, List.set_cons_succ, List.set_cons_zero, List.getD_cons_succ, List.getD_cons_zero, Nat.reduceAdd, Nat.zero_add] at p9_6 p9_10 p9_14 hK9 ⊢
      simp only [p9_6, p9_10, p9_14] at hK9 ⊢
      clear p9_6 p9_10 p9_14
      go_simp
      exact hK9 _ (Grow.refl _)
    case s3_16 =>
      intro u9 w9 hT9 hV9 K9 hK9
      have p9_6 := hV9 6 rfl
      have p9_15 := hV9 15 rfl
      clear hV9
      simp only [putAll, Act.put, List.setIfInBounds_toArray, List.set_cons_succ, List.set_cons_zero, List.getD_cons_succ, List.getD_cons_zero, Nat.reduceAdd, Nat.zero_add] at p9_6 p9_15 hK9 ⊢
      simp only [p9_6, p9_15] at hK9 ⊢
      clear p9_6 p9_15
      go_simp
      exact hK9 _ (Grow.refl _)
    case s3_17 =>
      intro u9 w9 hT9 hV9 K9 hK9
      have p9_16 := hV9 16 rfl
      clear hV9
      simp only [putAll, Act.put, List.setIfInBounds_toArray, List.set_cons_succ, List.set_cons_zero, List.getD_cons_succ, List.getD_cons_zero, Nat.reduceAdd, Nat.zero_add] at p9_16 hK9 ⊢
      simp only [p9_16] at hK9 ⊢
      clear p9_16
      go_simp
      exact hK9 _ (Grow.refl _)
    intro w9 hb9
    simp only [putAll, Act.put, List.setIfInBounds_toArray, List.set_cons_succ, List.set_cons_zero, List.getD_cons_succ, List.getD_cons_zero, Nat.reduceAdd, Nat.zero_add]
    go_wp2
    go_ret
    exact ⟨hb.trans (hb9.mono hb.size), false, rfl, by simp; intro ⟨ps, h1, h2, _⟩; exact HN.out ⟨ps, h1, h2⟩⟩
end Go.Proofs.Ytgimddboflhpaaa
