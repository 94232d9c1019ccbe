/- Plain facts: parents are found again from labels, in two ways. No program in sight. -/
import Derived.Test.YtgimddboflhpaaaForest
import Derived.Test.YtgimddboflhpaaaChk
namespace Go.Proofs.Ytgimddboflhpaaa
set_option linter.unusedSimpArgs false
set_option linter.unusedVariables false
set_option linter.unusedSectionVars false
namespace Tr

def Dom (x y : Lab) : Bool := decide (x.1 < y.1) && decide (y.2.1 < x.2.1)
def Prec (x y : Lab) : Bool := decide (x.1 < y.1) && decide (x.2.1 < y.2.1)
/-- The labels of a forest with these parents. -/
def IsF (ls : List Lab) (ps : List Int) : Prop := chk ps = (0, 0) ∧ labels ps = ls
def labAt (ls : List Lab) (i : Nat) : Lab := ls.getD i (0, 0, 0)

theorem Dom_iff {x y : Lab} : Dom x y = true ↔ Above x y := by simp [Dom, Above]
theorem Prec_iff {x y : Lab} : Prec x y = true ↔ Before x y := by simp [Prec, Before]

section
variable {ps : List Int} {ls : List Lab}
/-- What is known of the labels of a forest. -/
structure Facts (ps : List Int) (ls : List Lab) : Prop where
  v : Valid ps
  a : Acyc ps
  len : ls.length = ps.length
  anc : ∀ a b, a < ps.length → b < ps.length → Anc ps a b → Above (labAt ls a) (labAt ls b)
  apart : ∀ a b, a < ps.length → b < ps.length → Unrel ps a b → Before (labAt ls a) (labAt ls b) ∨ Before (labAt ls b) (labAt ls a)
  rng : ∀ a, a < ps.length → 0 ≤ (labAt ls a).1 ∧ (labAt ls a).1 < ps.length
  dep : ∀ a, a < ps.length → ∃ k : Nat, ∃ r : Nat, it ps k a = (r : Int) ∧ up ps r = -1 ∧ (labAt ls a).2.2 = k
theorem facts (h : IsF ls ps) : ps.length ≤ 4096 ∧ Facts ps ls := by
  obtain ⟨hc, rfl⟩ := h
  obtain ⟨hn, hv, ha, -⟩ := chk_zero (by rw [hc])
  have g := good_final hv ha
  have e : ∀ i, labAt (labels ps) i = lab (final ps) i := fun i => rfl
  refine ⟨hn, hv, ha, ?_, ?_, ?_, ?_, ?_⟩
  · have := g.len; unfold labels; rw [this]; simp [start]
  · intro a b hla hlb hab; rw [e, e]; exact g.anc a (mem_all hv ha hla) b (mem_all hv ha hlb) hab
  · intro a b hla hlb hab; rw [e, e]; exact g.apart a (mem_all hv ha hla) b (mem_all hv ha hlb) hab
  · intro a hla
    have := g.rng a (mem_all hv ha hla)
    have hl := all_len_le hv ha
    have e0 : (start ps.length).pre = 0 := rfl
    rw [e]; omega
  · intro a hla
    obtain ⟨r, hr, k, hk, hd⟩ := g.dep a (mem_all hv ha hla)
    exact ⟨k, r, hk, up_kid hr, by rw [e, hd]; omega⟩
namespace Facts
variable (F : Facts ps ls)
include F
theorem irr {a : Nat} (h : a < ps.length) : ¬ Anc ps a a := F.a a h
omit F in
theorem tri_ (a b : Nat) : a = b ∨ Anc ps a b ∨ Anc ps b a ∨ Unrel ps a b := by
  by_cases h1 : a = b
  · exact .inl h1
  · by_cases h2 : Anc ps a b
    · exact .inr (.inl h2)
    · by_cases h3 : Anc ps b a
      · exact .inr (.inr (.inl h3))
      · exact .inr (.inr (.inr ⟨h1, h2, h3⟩))
theorem anc_iff {a b : Nat} (ha : a < ps.length) (hb : b < ps.length) : Above (labAt ls a) (labAt ls b) ↔ Anc ps a b := by
  refine ⟨fun h => ?_, F.anc a b ha hb⟩
  rcases tri_ a b with rfl | h' | h' | h'
  · exact absurd h.1 (by omega)
  · exact h'
  · have := F.anc b a hb ha h'
    exact absurd h.1 (by have := this.1; omega)
  · rcases F.apart a b ha hb h' with h2 | h2
    · exact absurd h.2 (by have := h2.2; omega)
    · exact absurd h.1 (by have := h2.1; omega)
theorem pre_inj {a b : Nat} (ha : a < ps.length) (hb : b < ps.length) (h : (labAt ls a).1 = (labAt ls b).1) : a = b := by
  rcases tri_ a b with e | h' | h' | h'
  · exact e
  · have := (F.anc a b ha hb h').1; omega
  · have := (F.anc b a hb ha h').1; omega
  · rcases F.apart a b ha hb h' with h2 | h2 <;> have := h2.1 <;> omega
/-- An ancestor of the node behind x in preorder is x or an ancestor of x. -/
theorem next_anc {a x i : Nat} (ha : a < ps.length) (hx : x < ps.length) (hi : i < ps.length) (hxi : (labAt ls i).1 = (labAt ls x).1 + 1) (h : Anc ps a i) : Sub ps a x := by
  have h1 := F.anc a i ha hi h
  rcases tri_ a x with rfl | h' | h' | h'
  · exact .inl rfl
  · exact .inr h'
  · have := F.anc x a hx ha h'
    exact absurd h1.1 (by have := this.1; omega)
  · exfalso
    rcases F.apart a x ha hx h' with h2 | h2
    · have hh2 := h2.2
      have hh1 := h1.2
      rcases tri_ x i with rfl | h3 | h3 | h3
      · omega
      · rcases h.chain h3 with e | e | e
        · exact h'.1 e
        · exact h'.2.1 e
        · exact h'.2.2 e
      · have := (F.anc i x hi hx h3).1; omega
      · rcases F.apart x i hx hi h3 with h4 | h4
        · have := h4.2; omega
        · have := h4.1; omega
    · have := h2.1; have := h1.1; omega
end Facts

/-- A way up, the deepest node first. -/
def Path (ps : List Int) : List Nat → Prop
  | [] => True
  | t :: r => t < ps.length ∧ up ps t = (match r with | [] => -1 | s :: _ => (s : Int)) ∧ Path ps r
theorem Path.mem {t : Nat} {r : List Nat} : ∀ {x}, Path ps (x :: r) → t ∈ x :: r → t < ps.length ∧ Sub ps t x := by
  induction r with
  | nil =>
    intro x h ht
    simp at ht; subst ht
    exact ⟨h.1, .inl rfl⟩
  | cons s r ih =>
    intro x h ht
    rcases List.mem_cons.1 ht with rfl | ht
    · exact ⟨h.1, .inl rfl⟩
    · obtain ⟨h1, h2⟩ := ih h.2.2 ht
      exact ⟨h1, h2.anc (.of_up h.2.1)⟩
theorem Path.has {r : List Nat} : ∀ {x a : Nat}, Path ps (x :: r) → Sub ps a x → a ∈ x :: r := by
  induction r with
  | nil =>
    intro x a h hs
    rcases hs with rfl | hs
    · simp
    · rcases hs.step with e | ⟨p, e, _⟩
      · have h9 := h.2.1; rw [e] at h9; revert h9; show (_ : Int) = -1 → _; omega
      · have h9 := h.2.1; rw [e] at h9; revert h9; show (_ : Int) = -1 → _; omega
  | cons s r ih =>
    intro x a h hs
    rcases hs with rfl | hs
    · simp
    · have hu : up ps x = (s : Int) := h.2.1
      rw [List.mem_cons]; right
      refine ih h.2.2 ?_
      rcases hs.step with e | ⟨p, e, hp⟩
      · left; rw [hu] at e; omega
      · right
        have : p = s := by rw [hu] at e; omega
        rw [← this]; exact hp
def headI : List Nat → Int
  | [] => -1
  | s :: _ => (s : Int)

/-- What is left of the way when all nodes that end ahead of i are gone. -/
theorem drop_path (F : Facts ps ls) {i : Nat} (hi : i < ps.length) : ∀ (r : List Nat), Path ps r →
    (∀ t ∈ r, (labAt ls t).1 < (labAt ls i).1) → (∀ a, Anc ps a i → a ∈ r) →
    headI (r.dropWhile fun t => decide ((labAt ls t).2.1 < (labAt ls i).2.1)) = up ps i ∧ Path ps (r.dropWhile fun t => decide ((labAt ls t).2.1 < (labAt ls i).2.1)) := by
  intro r
  induction r with
  | nil =>
    intro _ _ h
    refine ⟨?_, trivial⟩
    show -1 = up ps i
    by_cases hu : up ps i < 0
    · have := up_range F.v i (by omega); omega
    · exfalso
      have e : up ps i = ((up ps i).toNat : Int) := by omega
      have := h (up ps i).toNat (.of_up e)
      simp at this
  | cons t r ih =>
    intro hp hpre hanc
    have ht : t < ps.length := hp.1
    have h1 := hpre t (by simp)
    by_cases hta : Anc ps t i
    · have h2 := (F.anc t i ht hi hta).2
      rw [List.dropWhile_cons, if_neg (by simp; omega)]
      refine ⟨?_, hp⟩
      show (t : Int) = up ps i
      rcases hta.step with e | ⟨p, e, hp'⟩
      · exact e.symm
      · exfalso
        -- the parent of i lies on the way above t
        have hpi : Anc ps p i := .of_up e
        have hm := hanc p hpi
        obtain ⟨hpl, hs⟩ := hp.mem hm
        rcases hs with rfl | hs
        · exact F.a t ht hp'
        · exact F.a t ht (hp'.trans hs)
    · have hun : Unrel ps t i := by
        refine ⟨by rintro rfl; omega, hta, fun h => ?_⟩
        have := (F.anc i t hi ht h).1; omega
      have h2 : (labAt ls t).2.1 < (labAt ls i).2.1 := by
        rcases F.apart t i ht hi hun with h | h
        · exact h.2
        · have := h.1; omega
      rw [List.dropWhile_cons, if_pos (by simpa using h2)]
      refine ih hp.2.2 (fun x hx => hpre x (by simp [hx])) fun a ha => ?_
      rcases List.mem_cons.1 (hanc a ha) with e | h
      · subst e; exact absurd ha hta
      · exact h

/-- The nodes by their first numbers. -/
def PreOk (ls : List Lab) (i : Nat) (s : List Int) : Prop :=
  s.length = ls.length ∧ (∀ j, j < i → 0 ≤ (labAt ls j).1 ∧ (labAt ls j).1 < ls.length ∧ s.getD (labAt ls j).1.toNat 0 = j + 1) ∧
  (∀ x : Nat, x < ls.length → s.getD x 0 = 0 ∨ ∃ j, j < i ∧ (labAt ls j).1 = (x : Int) ∧ s.getD x 0 = j + 1)
theorem PreOk.start (ls : List Lab) : PreOk ls 0 (List.replicate ls.length 0) := by
  have h : ∀ x, (List.replicate ls.length (0 : Int)).getD x 0 = 0 := by
    intro x
    simp only [List.getD, List.getElem?_replicate]
    split <;> rfl
  exact ⟨by simp, fun j hj => by omega, fun x _ => .inl (h x)⟩
theorem PreOk.step {i : Nat} {s : List Int} (h : PreOk ls i s) (h0 : 0 ≤ (labAt ls i).1) (h1 : (labAt ls i).1 < ls.length) (hz : s.getD (labAt ls i).1.toNat 0 = 0) :
    PreOk ls (i + 1) (s.set (labAt ls i).1.toNat (i + 1)) := by
  obtain ⟨hl, ha, hb⟩ := h
  have hlt : (labAt ls i).1.toNat < s.length := by omega
  refine ⟨by rw [List.length_set, hl], ?_, ?_⟩
  · intro j hj
    rw [getD_set _ _ _ _ hlt]
    by_cases e : j = i
    · subst e; exact ⟨h0, h1, by simp⟩
    · obtain ⟨h2, h3, h4⟩ := ha j (by omega)
      refine ⟨h2, h3, ?_⟩
      rw [if_neg]
      · exact h4
      · intro e2; rw [e2, hz] at h4; omega
  · intro x hx
    rw [getD_set _ _ _ _ hlt]
    split
    · rename_i e
      exact .inr ⟨i, by omega, by omega, rfl⟩
    · rcases hb x hx with e | ⟨j, hj, e1, e2⟩
      · exact .inl e
      · exact .inr ⟨j, by omega, e1, e2⟩
/-- All have been placed: each place holds a node. -/
theorem PreOk.full {s : List Int} (h : PreOk ls ls.length s) {x : Nat} (hx : x < ls.length) : ∃ j : Nat, j < ls.length ∧ s.getD x 0 = j + 1 ∧ (labAt ls j).1 = (x : Int) := by
  obtain ⟨hl, ha, hb⟩ := h
  rcases hb x hx with e | ⟨j, hj, e1, e2⟩
  · exfalso
    -- otherwise as many nodes as places but one
    obtain ⟨a, b, hab, hbn, he⟩ := php (ls.length - 1) (fun k => if (labAt ls k).1.toNat < x then (labAt ls k).1.toNat else (labAt ls k).1.toNat - 1) (fun k hk => by
      have hk' : k < ls.length := by omega
      obtain ⟨h0, h1, h2⟩ := ha k hk'
      have hne : (labAt ls k).1.toNat ≠ x := by intro e'; rw [e', e] at h2; omega
      split <;> omega)
    have ha' : a < ls.length := by omega
    have hb' : b < ls.length := by omega
    obtain ⟨a0, a1, a2⟩ := ha a ha'
    obtain ⟨b0, b1, b2⟩ := ha b hb'
    have hna : (labAt ls a).1.toNat ≠ x := by intro e'; rw [e', e] at a2; omega
    have hnb : (labAt ls b).1.toNat ≠ x := by intro e'; rw [e', e] at b2; omega
    have he' : (labAt ls a).1.toNat = (labAt ls b).1.toNat := by
      split at he <;> split at he <;> omega
    rw [he', b2] at a2
    omega
  · exact ⟨j, hj, e2, e1⟩
/-- Two nodes with one number, or a number out of range: no labels of a forest. -/
theorem PreOk.bad {i : Nat} {s : List Int} (h : PreOk ls i s) (hi : i < ls.length) (hbad : (labAt ls i).1 < 0 ∨ (ls.length : Int) ≤ (labAt ls i).1 ∨ (0 ≤ (labAt ls i).1 ∧ (labAt ls i).1 < ls.length ∧ s.getD (labAt ls i).1.toNat 0 ≠ 0)) : ¬ IsF ls ps := by
  intro hF
  obtain ⟨_, F⟩ := facts hF
  have hr := F.rng i (by rw [← F.len]; exact hi)
  rw [← F.len] at hr
  rcases hbad with h1 | h1 | ⟨h1, h2, h3⟩
  · omega
  · omega
  · rcases h.2.2 (labAt ls i).1.toNat (by omega) with e | ⟨j, hj, e1, _⟩
    · exact h3 e
    · have := F.pre_inj (a := i) (b := j) (by rw [← F.len]; exact hi) (by rw [← F.len]; omega) (by omega)
      omega

/-- One step of the search by a stack: the next node in preorder. -/
def popTo (ls : List Lab) (i : Nat) (stk : List Nat) : List Nat := stk.dropWhile fun t => decide ((labAt ls t).2.1 < (labAt ls i).2.1)
structure StkOk (ls : List Lab) (k : Nat) (stk : List Nat) (par : List Int) : Prop where
  len : par.length = ls.length
  mem : ∀ t ∈ stk, t < ls.length
  size : stk.length ≤ k
  forest : ∀ ps, IsF ls ps → Path ps stk ∧ (∀ j, j < ls.length → (labAt ls j).1 < k → par.getD j 0 = up ps j) ∧ (∀ t ∈ stk, (labAt ls t).1 < k) ∧ (∀ x, x < ls.length → (labAt ls x).1 + 1 = k → ∃ r, stk = x :: r) ∧ (0 < k → stk ≠ [])
theorem StkOk.start (ls : List Lab) : StkOk ls 0 [] (List.replicate ls.length 0) := by
  refine ⟨by simp, by simp, Nat.le_refl _, fun ps h => ⟨trivial, fun j hj hk => ?_, by simp, fun x hx hk => ?_, fun h => absurd h (by omega)⟩⟩
  · obtain ⟨_, F⟩ := facts h
    have := (F.rng j (by rw [← F.len]; exact hj)).1
    omega
  · obtain ⟨_, F⟩ := facts h
    have := (F.rng x (by rw [← F.len]; exact hx)).1
    omega
theorem popTo_mem {i t : Nat} {stk : List Nat} (h : t ∈ popTo ls i stk) : t ∈ stk := (List.dropWhile_sublist _).subset h
theorem popTo_le (ls : List Lab) (i : Nat) (stk : List Nat) : (popTo ls i stk).length ≤ stk.length := (List.dropWhile_sublist _).length_le
theorem StkOk.step {k i : Nat} {stk : List Nat} {par : List Int} (h : StkOk ls k stk par) (hi : i < ls.length) (hk : (labAt ls i).1 = (k : Int)) :
    StkOk ls (k + 1) (i :: popTo ls i stk) (par.set i (headI (popTo ls i stk))) := by
  have hip : i < par.length := by rw [h.len]; exact hi
  refine ⟨by rw [List.length_set, h.len], ?_, ?_, ?_⟩
  · intro t ht
    rcases List.mem_cons.1 ht with rfl | ht
    · exact hi
    · exact h.mem t (popTo_mem ht)
  · have := popTo_le ls i stk; have := h.size; simp; omega
  · intro ps hF
    obtain ⟨_, F⟩ := facts hF
    obtain ⟨h1, h2, h3, h4, h5⟩ := h.forest ps hF
    have hip' : i < ps.length := by rw [← F.len]; exact hi
    have hd := drop_path F hip' stk h1 (fun t ht => by rw [hk]; exact h3 t ht) (fun a ha => by
      have hal : a < ps.length := ha.lt F.v hip'
      have hpre := (F.anc a i hal hip' ha).1
      have h0 := (F.rng a hal).1
      -- there is a node in front of i
      cases hs : stk with
      | nil => exact absurd hs (h5 (by omega))
      | cons x r =>
        have hx : x < ps.length := by rw [hs] at h1; exact h1.1
        have hxk := h3 x (by rw [hs]; simp)
        -- x is the node whose number is k - 1
        obtain ⟨y, hy, hyk⟩ : ∃ y, y < ls.length ∧ (labAt ls y).1 + 1 = k := by
          have hlt : (k : Int) - 1 < ps.length := by have := (F.rng i hip').2; omega
          obtain ⟨y, hy, hyk⟩ : ∃ y, y < ps.length ∧ (labAt ls y).1 = (((k - 1 : Nat)) : Int) := by
            -- as many numbers as nodes
            have hP : ∃ s, PreOk ls ls.length s := by
              have : ∀ m, m ≤ ls.length → ∃ s, PreOk ls m s := by
                intro m
                induction m with
                | zero => exact fun _ => ⟨_, PreOk.start ls⟩
                | succ m ih =>
                  intro hm
                  obtain ⟨s, hs⟩ := ih (by omega)
                  have hr := F.rng m (by rw [← F.len]; omega)
                  refine ⟨_, hs.step hr.1 (by rw [F.len]; exact hr.2) ?_⟩
                  rcases hs.2.2 (labAt ls m).1.toNat (by rw [F.len]; omega) with e | ⟨j, hj, e1, _⟩
                  · exact e
                  · have := F.pre_inj (a := m) (b := j) (by rw [← F.len]; omega) (by rw [← F.len]; omega) (by omega)
                    omega
              exact this ls.length (Nat.le_refl _)
            obtain ⟨s, hs⟩ := hP
            obtain ⟨j, hj, _, hjk⟩ := hs.full (x := k - 1) (by rw [F.len]; omega)
            exact ⟨j, by rw [← F.len]; exact hj, hjk⟩
          exact ⟨y, by rw [F.len]; exact hy, by omega⟩
        obtain ⟨r', hr'⟩ := h4 y hy hyk
        rw [hs] at hr'
        injection hr' with e1 e2
        subst e1
        rw [hs] at h1
        exact h1.has (F.next_anc hal hx hip' (by omega) ha))
    refine ⟨?_, ?_, ?_, ?_, ?_⟩
    · refine ⟨hip', ?_, hd.2⟩
      rw [← hd.1]; rfl
    · intro j hj hjk
      rw [getD_set _ _ _ _ hip]
      split
      · rename_i e; rw [e]; exact hd.1
      · rename_i hne
        refine h2 j hj ?_
        by_cases e : (labAt ls j).1 = (k : Int)
        · exact absurd (F.pre_inj (a := j) (b := i) (by rw [← F.len]; exact hj) hip' (by omega)) hne
        · omega
    · intro t ht
      rcases List.mem_cons.1 ht with rfl | ht
      · omega
      · have := h3 t (popTo_mem ht); omega
    · intro x hx hxk
      refine ⟨popTo ls i stk, ?_⟩
      have : x = i := F.pre_inj (by rw [← F.len]; exact hx) hip' (by omega)
      rw [this]
    · intro _; simp
/-- All nodes have been met: what was found are the parents, if there are any. -/
theorem StkOk.done {stk : List Nat} {par : List Int} (h : StkOk ls ls.length stk par) {ps : List Int} (hF : IsF ls ps) : par = ps := by
  obtain ⟨_, F⟩ := facts hF
  obtain ⟨_, h2, _⟩ := h.forest ps hF
  apply List.ext_getElem
  · rw [h.len, F.len]
  · intro j h1 h3
    have := h2 j (by rw [F.len]; exact h3) (by rw [F.len]; exact (F.rng j h3).2)
    rw [up_nat h3] at this
    simpa [List.getD, h1] using this

/-- The reference's choice: the dominating node with the greatest depth. -/
def better (ls : List Lab) (x : Lab) (best : Int) (k : Nat) : Bool := Dom (labAt ls k) x && (decide (best < 0) || decide ((labAt ls best.toNat).2.2 < (labAt ls k).2.2))
def bestTo (ls : List Lab) (x : Lab) : Nat → Int
  | 0 => -1
  | k + 1 => if better ls x (bestTo ls x k) k then (k : Int) else bestTo ls x k
theorem bestTo_range (ls : List Lab) (x : Lab) : ∀ k, -1 ≤ bestTo ls x k ∧ bestTo ls x k < k := by
  intro k
  induction k with
  | zero => exact ⟨Int.le_refl _, by show (-1 : Int) < 0; decide⟩
  | succ k ih => unfold bestTo; split <;> omega
def cand2 (ls : List Lab) : List Int := (List.range ls.length).map fun i => bestTo ls (labAt ls i) ls.length
theorem depth_up (F : Facts ps ls) {i q : Nat} (hi : i < ps.length) (hq : up ps i = (q : Int)) : (labAt ls i).2.2 = (labAt ls q).2.2 + 1 := by
  have hql : q < ps.length := by have := (up_range F.v i (by omega)).2; omega
  obtain ⟨k, r, hk, hr, hd⟩ := F.dep i hi
  obtain ⟨k', r', hk', hr', hd'⟩ := F.dep q hql
  rw [hd, hd']
  cases k with
  | zero =>
    have : (i : Int) = r := hk
    have e : i = r := by omega
    subst e
    rw [hq] at hr; omega
  | succ k =>
    have h2 : it ps k q = r := by rw [← hq]; exact hk
    -- both end at a root
    rcases Nat.lt_trichotomy k k' with hlt | rfl | hlt
    · exfalso
      have e : k' = (k' - k - 1) + 1 + k := by omega
      rw [e, it_add, h2, Nat.add_comm (k' - k - 1) 1, Nat.add_comm 1, it_succ] at hk'
      have h3 : it ps (k' - k - 1 + 1) r < 0 := by
        have := it_neg (ps := ps) (k' - k - 1) (up ps r) (by rw [hr]; decide)
        exact this
      rw [it_succ] at h3
      omega
    · omega
    · exfalso
      have e : k = (k - k' - 1) + 1 + k' := by omega
      rw [e, it_add, hk'] at h2
      have h3 : it ps (k - k' - 1 + 1) r' < 0 := by
        have := it_neg (ps := ps) (k - k' - 1) (up ps r') (by rw [hr']; decide)
        exact this
      omega
theorem depth_anc (F : Facts ps ls) : ∀ (k : Nat) {a b : Nat}, b < ps.length → it ps (k + 1) b = (a : Int) → (labAt ls b).2.2 = (labAt ls a).2.2 + (k + 1 : Nat) := by
  intro k
  induction k with
  | zero =>
    intro a b hb h
    have := depth_up F hb (q := a) h
    omega
  | succ k ih =>
    intro a b hb h
    have h' : it ps (k + 1) (up ps b) = a := h
    by_cases hn : up ps b < 0
    · have := it_neg (ps := ps) (k + 1) _ hn; omega
    · have e : up ps b = ((up ps b).toNat : Int) := by omega
      rw [e] at h'
      have hl := (up_range F.v b (by omega)).2
      have h1 := ih (by omega) h'
      have h2 := depth_up F hb e
      omega
theorem best_is (F : Facts ps ls) {i : Nat} (hi : i < ps.length) : ∀ k, k ≤ ps.length → (∀ b : Nat, bestTo ls (labAt ls i) k = (b : Int) → Anc ps b i ∧ ∀ a, a < k → Anc ps a i → (labAt ls a).2.2 ≤ (labAt ls b).2.2) ∧ (bestTo ls (labAt ls i) k < 0 → ∀ a, a < k → ¬ Anc ps a i) := by
  intro k
  induction k with
  | zero => exact fun _ => ⟨fun b hb => by have : (-1 : Int) = b := hb; omega, fun _ a ha => by omega⟩
  | succ k ih =>
    intro hk
    obtain ⟨h1, h2⟩ := ih (by omega)
    have hkl : k < ps.length := by omega
    have hr := bestTo_range ls (labAt ls i) k
    have hdom : Dom (labAt ls k) (labAt ls i) = true ↔ Anc ps k i := by rw [Dom_iff, F.anc_iff hkl hi]
    unfold bestTo
    by_cases hb : better ls (labAt ls i) (bestTo ls (labAt ls i) k) k = true
    · rw [if_pos hb]
      unfold better at hb
      simp only [Bool.and_eq_true, Bool.or_eq_true, decide_eq_true_eq] at hb
      refine ⟨fun b e => ?_, fun e => by omega⟩
      obtain rfl : k = b := by omega
      refine ⟨hdom.1 hb.1, fun a ha haa => ?_⟩
      by_cases e2 : a = k
      · subst e2; omega
      · rcases hb.2 with h3 | h3
        · exact absurd haa (h2 h3 a (by omega))
        · by_cases hn : bestTo ls (labAt ls i) k < 0
          · exact absurd haa (h2 hn a (by omega))
          · have := (h1 (bestTo ls (labAt ls i) k).toNat (by omega)).2 a (by omega) haa
            omega
    · rw [if_neg hb]
      unfold better at hb
      simp only [Bool.and_eq_true, Bool.or_eq_true, decide_eq_true_eq, not_and, not_or] at hb
      refine ⟨fun b e => ?_, fun e a ha haa => ?_⟩
      · obtain ⟨h3, h4⟩ := h1 b e
        refine ⟨h3, fun a ha haa => ?_⟩
        by_cases e2 : a = k
        · subst e2
          have := (hb (hdom.2 haa)).2
          rw [e] at this
          simp only [Int.toNat_natCast] at this
          omega
        · exact h4 a (by omega) haa
      · by_cases e2 : a = k
        · subst e2; exact (hb (hdom.2 haa)).1 e
        · exact h2 e a (by omega) haa
theorem best_up (F : Facts ps ls) {i : Nat} (hi : i < ps.length) : bestTo ls (labAt ls i) ps.length = up ps i := by
  obtain ⟨h1, h2⟩ := best_is F hi ps.length (Nat.le_refl _)
  have hr := bestTo_range ls (labAt ls i) ps.length
  have hu := up_range F.v i (by omega)
  by_cases hn : bestTo ls (labAt ls i) ps.length < 0
  · by_cases hun : up ps i < 0
    · omega
    · exfalso
      have e : up ps i = ((up ps i).toNat : Int) := by omega
      exact h2 hn (up ps i).toNat (by omega) (.of_up e)
  · have e : bestTo ls (labAt ls i) ps.length = ((bestTo ls (labAt ls i) ps.length).toNat : Int) := by omega
    obtain ⟨hb, hmax⟩ := h1 _ e
    generalize (bestTo ls (labAt ls i) ps.length).toNat = b at e hb hmax
    rcases hb.step with e2 | ⟨p, e2, hp⟩
    · omega
    · exfalso
      have hpl : p < ps.length := by omega
      have := hmax p hpl (.of_up e2)
      obtain ⟨k, hk⟩ := hp
      have := depth_anc F k hpl hk
      omega
theorem cand2_is {ps : List Int} (h : IsF ls ps) : cand2 ls = ps := by
  obtain ⟨_, F⟩ := facts h
  apply List.ext_getElem
  · simp [cand2, F.len]
  · intro j h1 h2
    simp only [cand2, List.getElem_map, List.getElem_range]
    rw [F.len, best_up F h2, up_nat h2]
end
end Tr
end Go.Proofs.Ytgimddboflhpaaa
