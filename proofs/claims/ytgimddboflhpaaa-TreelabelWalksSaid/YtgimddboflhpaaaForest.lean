/- Plain facts about the labels that a walk of a forest gives. No program in sight. -/
import Derived.Test.YtgimddboflhpaaaTree
namespace Go.Proofs.Ytgimddboflhpaaa
set_option linter.unusedSimpArgs false
set_option linter.unusedVariables false
set_option linter.unusedSectionVars false
namespace Tr

/-- The children of a node in increasing order; the roots at -1. -/
def kids (ps : List Int) (i : Int) : List Nat := (List.range ps.length).filter fun k => ps.getD k 0 == i
abbrev Lab := Int × Int × Int
structure St where
  L : List Lab
  pre : Int
  post : Int
def enter (i : Nat) (d : Int) (s : St) : St := { L := s.L.modify i fun l => (s.pre, l.2.1, d), pre := s.pre + 1, post := s.post }
def leave (i : Nat) (s : St) : St := { L := s.L.modify i fun l => (l.1, s.post, l.2.2), pre := s.pre, post := s.post + 1 }
def visit (ps : List Int) : Nat → Nat → Int → St → St
  | 0, _, _, s => s
  | f + 1, i, d, s => leave i ((kids ps i).foldl (fun s k => visit ps f k (d + 1) s) (enter i d s))
def desc (ps : List Int) : Nat → Nat → List Nat
  | 0, _ => []
  | f + 1, i => i :: (kids ps i).flatMap (desc ps f)
def Deep (ps : List Int) : Nat → Nat → Prop
  | 0, _ => False
  | f + 1, i => ∀ k ∈ kids ps i, Deep ps f k
abbrev visits (ps : List Int) (f : Nat) (ks : List Nat) (d : Int) (s : St) : St := ks.foldl (fun s k => visit ps f k d s) s

section
variable {ps : List Int}
theorem mem_kids {i : Int} {k : Nat} : k ∈ kids ps i ↔ ∃ h : k < ps.length, ps[k] = i := by
  unfold kids
  simp only [List.mem_filter, List.mem_range, beq_iff_eq]
  refine ⟨fun ⟨h, e⟩ => ⟨h, by simpa [List.getD, h] using e⟩, fun ⟨h, e⟩ => ⟨h, by simpa [List.getD, h] using e⟩⟩
theorem kids_nodup (i : Int) : (kids ps i).Nodup := (List.filter_sublist (l := List.range ps.length)).nodup List.nodup_range
theorem kids_lt {i : Int} {k : Nat} (h : k ∈ kids ps i) : k < ps.length := (mem_kids.1 h).1
theorem up_kid {i : Int} {k : Nat} (h : k ∈ kids ps i) : up ps k = i := by
  obtain ⟨hl, e⟩ := mem_kids.1 h
  rw [up_nat hl, e]

theorem deep_of (hv : Valid ps) (ha : Acyc ps) : ∀ f u i, i < ps.length → 0 ≤ it ps u (i : Nat) → ps.length ≤ u + f → Deep ps f i := by
  intro f
  induction f with
  | zero =>
    intro u i hi h0 hl
    have h1 := it_out hv ha hi
    have h2 := it_neg (ps := ps) (u - ps.length) _ h1
    rw [← it_add] at h2
    have : u - ps.length + ps.length = u := by omega
    rw [this] at h2; omega
  | succ f ih =>
    intro u i hi h0 hl k hk
    refine ih (u + 1) k (kids_lt hk) ?_ (by omega)
    show 0 ≤ it ps u (up ps k)
    rw [up_kid hk]; exact h0

theorem deep_root (hv : Valid ps) (ha : Acyc ps) {i : Nat} (hi : i < ps.length) : Deep ps ps.length i :=
  deep_of hv ha ps.length 0 i hi (by show (0 : Int) ≤ (i : Int); omega) (by omega)

/-- b is a or below a. -/
def Sub (ps : List Int) (a b : Nat) : Prop := b = a ∨ Anc ps a b
/-- Two nodes of which neither is above the other. -/
def Unrel (ps : List Int) (a b : Nat) : Prop := a ≠ b ∧ ¬ Anc ps a b ∧ ¬ Anc ps b a
theorem Unrel.symm {a b : Nat} (h : Unrel ps a b) : Unrel ps b a := ⟨fun e => h.1 e.symm, h.2.2, h.2.1⟩
theorem Unrel.not_sub {a b c : Nat} (h : Unrel ps a b) (ha : Sub ps a c) (hb : Sub ps b c) : False := by
  rcases ha with rfl | ha
  · rcases hb with rfl | hb
    · exact h.1 rfl
    · exact h.2.2 hb
  · rcases hb with rfl | hb
    · exact h.2.1 ha
    · rcases ha.chain hb with e | e | e
      · exact h.1 e
      · exact h.2.1 e
      · exact h.2.2 e
theorem Sub.anc {a b c : Nat} (h : Sub ps a b) (h' : Anc ps b c) : Sub ps a c := by
  rcases h with rfl | h
  · exact .inr h'
  · exact .inr (h.trans h')
theorem Unrel.sub {a b c d : Nat} (h : Unrel ps a b) (ha : Sub ps a c) (hb : Sub ps b d) : Unrel ps c d := by
  refine ⟨?_, ?_, ?_⟩
  · rintro rfl; exact h.not_sub ha hb
  · exact fun e => h.not_sub (ha.anc e) hb
  · exact fun e => h.not_sub ha (hb.anc e)
theorem sub_kid {i j : Nat} : Anc ps i j → j < ps.length → Valid ps → ∃ c ∈ kids ps i, Sub ps c j := by
  rintro ⟨k, hk⟩ hj hv
  rw [it_succ] at hk
  have h0 : 0 ≤ it ps k j := by
    by_cases hn : it ps k j < 0
    · unfold up at hk; rw [if_pos hn] at hk; omega
    · omega
  have hl := it_lt hv k j (by omega)
  refine ⟨(it ps k j).toNat, mem_kids.2 ⟨by omega, ?_⟩, ?_⟩
  · have := up_nat (ps := ps) (i := (it ps k j).toNat) (by omega)
    rw [← this, Int.toNat_of_nonneg h0, hk]
  · cases k with
    | zero => left; simp [it_zero]
    | succ k => right; exact ⟨k, by rw [Int.toNat_of_nonneg h0]⟩
theorem mem_desc (hv : Valid ps) : ∀ f i j, Deep ps f i → i < ps.length → (j ∈ desc ps f i ↔ j < ps.length ∧ Sub ps i j) := by
  intro f
  induction f with
  | zero => intro i j h; exact h.elim
  | succ f ih =>
    intro i j hd hi
    simp only [desc, List.mem_cons, List.mem_flatMap]
    constructor
    · rintro (rfl | ⟨k, hk, hj⟩)
      · exact ⟨hi, .inl rfl⟩
      · obtain ⟨hjl, hs⟩ := (ih k j (hd k hk) (kids_lt hk)).1 hj
        refine ⟨hjl, .inr ?_⟩
        have hik : Anc ps i k := .of_up (up_kid hk)
        rcases hs with rfl | hs
        · exact hik
        · exact hik.trans hs
    · rintro ⟨hjl, rfl | ha⟩
      · exact .inl rfl
      · obtain ⟨c, hc, hs⟩ := sub_kid ha hjl hv
        exact .inr ⟨c, hc, (ih c j (hd c hc) (kids_lt hc)).2 ⟨hjl, hs⟩⟩
theorem kids_unrel (ha : Acyc ps) {i : Int} (hi : i < ps.length) {a b : Nat} (h1 : a ∈ kids ps i) (h2 : b ∈ kids ps i) (hne : a ≠ b) : Unrel ps a b := by
  have key : ∀ a b : Nat, a ∈ kids ps i → b ∈ kids ps i → ¬ Anc ps a b := by
    intro a b h1 h2 h
    have u1 := up_kid h1
    have u2 := up_kid h2
    rcases h.step with e | ⟨p, e, hp⟩
    · -- the parent of b is a itself
      rw [u2] at e
      exact ha a (kids_lt h1) ⟨0, by show up ps a = a; rw [u1, e]⟩
    · rw [u2] at e
      exact ha a (kids_lt h1) (hp.trans (.of_up (by rw [u1, e])))
  exact ⟨hne, key a b h1 h2, key b a h2 h1⟩

/-- The label of a node. -/
def lab (s : St) (j : Nat) : Lab := s.L.getD j (0, 0, 0)
def Before (x y : Lab) : Prop := x.1 < y.1 ∧ x.2.1 < y.2.1
def Above (x y : Lab) : Prop := x.1 < y.1 ∧ y.2.1 < x.2.1

/-- What a visit of the nodes D does. -/
structure Good (ps : List Int) (ks D : List Nat) (d : Int) (s s' : St) : Prop where
  len : s'.L.length = s.L.length
  pre : s'.pre = s.pre + D.length
  post : s'.post = s.post + D.length
  same : ∀ j, j ∉ D → lab s' j = lab s j
  rng : ∀ j ∈ D, s.pre ≤ (lab s' j).1 ∧ (lab s' j).1 < s.pre + D.length ∧ s.post ≤ (lab s' j).2.1 ∧ (lab s' j).2.1 < s.post + D.length
  anc : ∀ a ∈ D, ∀ b ∈ D, Anc ps a b → Above (lab s' a) (lab s' b)
  apart : ∀ a ∈ D, ∀ b ∈ D, Unrel ps a b → Before (lab s' a) (lab s' b) ∨ Before (lab s' b) (lab s' a)
  dep : ∀ j ∈ D, ∃ r ∈ ks, ∃ k : Nat, it ps k j = (r : Nat) ∧ (lab s' j).2.2 = d + k

theorem lab_enter_ne {i j : Nat} {d : Int} {s : St} (h : j ≠ i) : lab (enter i d s) j = lab s j := by
  simp [lab, enter, List.getD, List.getElem?_modify, Ne.symm h]
theorem lab_enter {i : Nat} {d : Int} {s : St} (h : i < s.L.length) : lab (enter i d s) i = (s.pre, (lab s i).2.1, d) := by
  simp [lab, enter, List.getD, List.getElem?_modify, h]
theorem lab_leave_ne {i j : Nat} {s : St} (h : j ≠ i) : lab (leave i s) j = lab s j := by
  simp [lab, leave, List.getD, List.getElem?_modify, Ne.symm h]
theorem lab_leave {i : Nat} {s : St} (h : i < s.L.length) : lab (leave i s) i = ((lab s i).1, s.post, (lab s i).2.2) := by
  simp [lab, leave, List.getD, List.getElem?_modify, h]

theorem good_nil (d : Int) (s : St) : Good ps [] [] d s s := by
  refine ⟨rfl, by simp, by simp, fun _ _ => rfl, ?_, ?_, ?_, ?_⟩ <;> intro j hj <;> simp at hj

/-- One node's visit, then the others'. -/
theorem good_cons {k : Nat} {ks D D' : List Nat} {d : Int} {s s1 s2 : St} (h1 : Good ps [k] D d s s1) (h2 : Good ps ks D' d s1 s2)
    (hu : ∀ a ∈ D, ∀ b ∈ D', Unrel ps a b) : Good ps (k :: ks) (D ++ D') d s s2 := by
  have hn : ∀ a ∈ D, a ∉ D' := fun a ha hb => (hu a ha a hb).1 rfl
  have e1 : ∀ a ∈ D, lab s2 a = lab s1 a := fun a ha => h2.same a (hn a ha)
  have hl : ((D ++ D').length : Int) = D.length + D'.length := by simp
  refine ⟨h2.len.trans h1.len, by rw [hl, h2.pre, h1.pre]; omega, by rw [hl, h2.post, h1.post]; omega, ?_, ?_, ?_, ?_, ?_⟩
  · intro j hj
    simp only [List.mem_append, not_or] at hj
    rw [h2.same j hj.2, h1.same j hj.1]
  · intro j hj
    rw [hl]
    rcases List.mem_append.1 hj with hj | hj
    · rw [e1 j hj]; have := h1.rng j hj; omega
    · have := h2.rng j hj; rw [h1.pre, h1.post] at this; omega
  · intro a ha b hb hab
    rcases List.mem_append.1 ha with ha | ha <;> rcases List.mem_append.1 hb with hb | hb
    · rw [e1 a ha, e1 b hb]; exact h1.anc a ha b hb hab
    · exact absurd hab (hu a ha b hb).2.1
    · exact absurd hab (hu b hb a ha).2.2
    · exact h2.anc a ha b hb hab
  · intro a ha b hb hab
    rcases List.mem_append.1 ha with ha | ha <;> rcases List.mem_append.1 hb with hb | hb
    · rw [e1 a ha, e1 b hb]; exact h1.apart a ha b hb hab
    · left
      have r1 := h1.rng a ha
      have r2 := h2.rng b hb
      rw [h1.pre, h1.post] at r2
      rw [e1 a ha]; exact ⟨by omega, by omega⟩
    · right
      have r1 := h1.rng b hb
      have r2 := h2.rng a ha
      rw [h1.pre, h1.post] at r2
      rw [e1 b hb]; exact ⟨by omega, by omega⟩
    · exact h2.apart a ha b hb hab
  · intro j hj
    rcases List.mem_append.1 hj with hj | hj
    · obtain ⟨r, hr, x, hx, hd⟩ := h1.dep j hj
      exact ⟨r, by simp at hr; simp [hr], x, hx, by rw [e1 j hj]; exact hd⟩
    · obtain ⟨r, hr, x, hx, hd⟩ := h2.dep j hj
      exact ⟨r, by simp [hr], x, hx, hd⟩

theorem good_node {i : Nat} {D : List Nat} {d : Int} {s s2 : St} (hi : i < s.L.length) (hiD : i ∉ D) (hb : ∀ j ∈ D, Anc ps i j ∧ ¬ Anc ps j i)
    (h : Good ps (kids ps i) D (d + 1) (enter i d s) s2) (hii : ¬ Anc ps i i) : Good ps [i] (i :: D) d s (leave i s2) := by
  have hl : ((i :: D).length : Int) = D.length + 1 := by simp
  have hi1 : i < (enter i d s).L.length := by simpa [enter] using hi
  have hi2 : i < s2.L.length := by rw [h.len]; exact hi1
  have hne : ∀ j ∈ D, j ≠ i := fun j hj e => hiD (e ▸ hj)
  have ed : ∀ j ∈ D, lab (leave i s2) j = lab s2 j := fun j hj => lab_leave_ne (hne j hj)
  have ei : lab (leave i s2) i = (s.pre, s2.post, d) := by
    rw [lab_leave hi2, h.same i hiD, lab_enter hi]
  have hp : s2.pre = s.pre + 1 + D.length := h.pre
  have hq : s2.post = s.post + D.length := h.post
  have hr : ∀ j ∈ D, s.pre + 1 ≤ (lab s2 j).1 ∧ (lab s2 j).1 < s.pre + 1 + D.length ∧ s.post ≤ (lab s2 j).2.1 ∧ (lab s2 j).2.1 < s.post + D.length := fun j hj => h.rng j hj
  refine ⟨?_, ?_, ?_, ?_, ?_, ?_, ?_, ?_⟩
  · simp only [leave, List.length_modify]; rw [h.len]; simp [enter]
  · rw [hl]; show s2.pre = _; omega
  · rw [hl]; show s2.post + 1 = _; omega
  · intro j hj
    simp only [List.mem_cons, not_or] at hj
    rw [lab_leave_ne hj.1, h.same j hj.2, lab_enter_ne hj.1]
  · intro j hj
    rw [hl]
    rcases List.mem_cons.1 hj with rfl | hj
    · rw [ei]; refine ⟨?_, ?_, ?_, ?_⟩ <;> (try simp only) <;> omega
    · rw [ed j hj]; have := hr j hj; omega
  · intro a ha b hb' hab
    rcases List.mem_cons.1 ha with rfl | ha2 <;> rcases List.mem_cons.1 hb' with e | hb2
    · subst e; exact absurd hab hii
    · rw [ei, ed b hb2]; have := hr b hb2; exact ⟨by simp only; omega, by simp only; omega⟩
    · subst e; exact absurd hab (hb a ha2).2
    · rw [ed a ha2, ed b hb2]; exact h.anc a ha2 b hb2 hab
  · intro a ha b hb' hab
    rcases List.mem_cons.1 ha with rfl | ha2 <;> rcases List.mem_cons.1 hb' with e | hb2
    · exact absurd e.symm hab.1
    · exact absurd (hb b hb2).1 hab.2.1
    · subst e; exact absurd (hb a ha2).1 hab.2.2
    · rw [ed a ha2, ed b hb2]; exact h.apart a ha2 b hb2 hab
  · intro j hj
    rcases List.mem_cons.1 hj with rfl | hj
    · exact ⟨j, by simp, 0, rfl, by rw [ei]; simp⟩
    · obtain ⟨r, hr', x, hx, hdep⟩ := h.dep j hj
      refine ⟨i, by simp, x + 1, ?_, ?_⟩
      · rw [it_succ, hx, up_kid hr']
      · rw [ed j hj, hdep]; omega

/-- Visiting nodes that are pairwise unrelated. -/
theorem good_list (hv : Valid ps) (f : Nat) (hnode : ∀ i d s, Deep ps f i → i < ps.length → s.L.length = ps.length → Good ps [i] (desc ps f i) d s (visit ps f i d s)) :
    ∀ (ks : List Nat) (d : Int) (s : St), (∀ k ∈ ks, Deep ps f k ∧ k < ps.length) → ks.Pairwise (Unrel ps) → s.L.length = ps.length →
      Good ps ks (ks.flatMap (desc ps f)) d s (visits ps f ks d s) := by
  intro ks
  induction ks with
  | nil => intro d s _ _ _; exact good_nil d s
  | cons k ks ih =>
    intro d s hk hp hs
    have h1 := hnode k d s (hk k (by simp)).1 (hk k (by simp)).2 hs
    rw [List.pairwise_cons] at hp
    have h2 := ih d (visit ps f k d s) (fun x hx => hk x (by simp [hx])) hp.2 (h1.len.trans hs)
    refine good_cons h1 h2 ?_
    intro a ha b hb
    obtain ⟨x, hx, hb⟩ := List.mem_flatMap.1 hb
    have sa := (mem_desc hv f k a (hk k (by simp)).1 (hk k (by simp)).2).1 ha
    have sb := (mem_desc hv f x b (hk x (by simp [hx])).1 (hk x (by simp [hx])).2).1 hb
    exact (hp.1 x hx).sub sa.2 sb.2

theorem pairwise_of_nodup {l : List Nat} {R : Nat → Nat → Prop} (hn : l.Nodup) (h : ∀ a ∈ l, ∀ b ∈ l, a ≠ b → R a b) : l.Pairwise R := by
  induction l with
  | nil => exact List.Pairwise.nil
  | cons x l ih =>
    rw [List.nodup_cons] at hn
    rw [List.pairwise_cons]
    exact ⟨fun b hb => h x (by simp) b (by simp [hb]) (fun e => hn.1 (e ▸ hb)), ih hn.2 fun a ha b hb => h a (by simp [ha]) b (by simp [hb])⟩

theorem good_visit (hv : Valid ps) (ha : Acyc ps) : ∀ f i d s, Deep ps f i → i < ps.length → s.L.length = ps.length → Good ps [i] (desc ps f i) d s (visit ps f i d s) := by
  intro f
  induction f with
  | zero => intro i d s h; exact h.elim
  | succ f ih =>
    intro i d s hd hi hs
    have hk : ∀ k ∈ kids ps i, Deep ps f k ∧ k < ps.length := fun k hk => ⟨hd k hk, kids_lt hk⟩
    have hp : (kids ps i).Pairwise (Unrel ps) := pairwise_of_nodup (kids_nodup _) fun a h1 b h2 hne => kids_unrel ha (by omega) h1 h2 hne
    have hg := good_list hv f ih (kids ps i) (d + 1) (enter i d s) hk hp (by simpa [enter] using hs)
    have hmem : ∀ j ∈ (kids ps i).flatMap (desc ps f), Anc ps i j ∧ j < ps.length := by
      intro j hj
      obtain ⟨k, hk', hj⟩ := List.mem_flatMap.1 hj
      have sj := (mem_desc hv f k j (hd k hk') (kids_lt hk')).1 hj
      have hik : Anc ps i k := .of_up (up_kid hk')
      refine ⟨?_, sj.1⟩
      rcases sj.2 with e | h
      · subst e; exact hik
      · exact hik.trans h
    refine good_node (by rw [hs]; exact hi) (fun h => ha i hi (hmem i h).1) (fun j hj => ⟨(hmem j hj).1, fun h => ha i hi ((hmem j hj).1.trans h)⟩) hg (ha i hi)

/-- The labels of a forest. -/
def start (n : Nat) : St := ⟨List.replicate n (0, 0, 0), 0, 0⟩
def final (ps : List Int) : St := visits ps ps.length (kids ps (-1)) 0 (start ps.length)
def labels (ps : List Int) : List Lab := (final ps).L

theorem roots_ok (hv : Valid ps) (ha : Acyc ps) : (∀ k ∈ kids ps (-1), Deep ps ps.length k ∧ k < ps.length) ∧ (kids ps (-1)).Pairwise (Unrel ps) :=
  ⟨fun k hk => ⟨deep_root hv ha (kids_lt hk), kids_lt hk⟩, pairwise_of_nodup (kids_nodup _) fun a h1 b h2 hne => kids_unrel ha (by omega) h1 h2 hne⟩

theorem good_final (hv : Valid ps) (ha : Acyc ps) : Good ps (kids ps (-1)) ((kids ps (-1)).flatMap (desc ps ps.length)) 0 (start ps.length) (final ps) :=
  good_list hv _ (good_visit hv ha _) _ _ _ (roots_ok hv ha).1 (roots_ok hv ha).2 (by simp [start])

theorem has_root (hv : Valid ps) (ha : Acyc ps) : ∀ (m i : Nat), i < ps.length → it ps m (i : Nat) < 0 → ∃ r ∈ kids ps (-1), Sub ps r i := by
  intro m
  induction m with
  | zero => intro i hi h; have : (i : Int) < 0 := h; omega
  | succ m ih =>
    intro i hi h
    have hr := hv i hi
    by_cases hn : ps[i] < 0
    · exact ⟨i, mem_kids.2 ⟨hi, by omega⟩, .inl rfl⟩
    · have hp : up ps i = ((ps[i].toNat : Nat) : Int) := by rw [up_nat hi]; omega
      have h' : it ps m (up ps i) < 0 := h
      rw [hp] at h'
      obtain ⟨r, hr', hs⟩ := ih ps[i].toNat (by omega) h'
      exact ⟨r, hr', hs.anc (.of_up hp)⟩
theorem mem_all (hv : Valid ps) (ha : Acyc ps) {j : Nat} (hj : j < ps.length) : j ∈ (kids ps (-1)).flatMap (desc ps ps.length) := by
  obtain ⟨r, hr, hs⟩ := has_root hv ha _ j hj (it_out hv ha hj)
  exact List.mem_flatMap.2 ⟨r, hr, (mem_desc hv _ r j (deep_root hv ha (kids_lt hr)) (kids_lt hr)).2 ⟨hj, hs⟩⟩
theorem nodup_le {l : List Nat} {n : Nat} (hn : l.Nodup) (h : ∀ x ∈ l, x < n) : l.length ≤ n := by
  rcases Nat.lt_or_ge n l.length with hlt | hle
  · exfalso
    obtain ⟨a, b, hab, hb, he⟩ := php n (fun k => l.getD k 0) (fun k hk => by
      have hk' : k < l.length := by omega
      have : l.getD k 0 = l[k] := by simp [List.getD, hk']
      rw [this]; exact h _ (List.getElem_mem hk'))
    have ha' : a < l.length := by omega
    have hb' : b < l.length := by omega
    simp only [List.getD, List.getElem?_eq_getElem ha', List.getElem?_eq_getElem hb', Option.getD_some] at he
    have := (List.getElem_inj hn).1 he
    omega
  · exact hle
theorem nodup_list (hv : Valid ps) (f : Nat) (hnode : ∀ i, Deep ps f i → i < ps.length → (desc ps f i).Nodup) :
    ∀ ks : List Nat, (∀ k ∈ ks, Deep ps f k ∧ k < ps.length) → ks.Pairwise (Unrel ps) → (ks.flatMap (desc ps f)).Nodup := by
  intro ks
  induction ks with
  | nil => intro _ _; simp
  | cons k ks ih =>
    intro hk hp
    rw [List.pairwise_cons] at hp
    rw [List.flatMap_cons, List.nodup_append]
    refine ⟨hnode k (hk k (by simp)).1 (hk k (by simp)).2, ih (fun x hx => hk x (by simp [hx])) hp.2, ?_⟩
    intro a ha b hb
    obtain ⟨x, hx, hb⟩ := List.mem_flatMap.1 hb
    have sa := (mem_desc hv f k a (hk k (by simp)).1 (hk k (by simp)).2).1 ha
    have sb := (mem_desc hv f x b (hk x (by simp [hx])).1 (hk x (by simp [hx])).2).1 hb
    exact ((hp.1 x hx).sub sa.2 sb.2).1
theorem nodup_desc (hv : Valid ps) (ha : Acyc ps) : ∀ f i, Deep ps f i → i < ps.length → (desc ps f i).Nodup := by
  intro f
  induction f with
  | zero => intro i h; exact h.elim
  | succ f ih =>
    intro i hd hi
    have hk : ∀ k ∈ kids ps i, Deep ps f k ∧ k < ps.length := fun k hk => ⟨hd k hk, kids_lt hk⟩
    have hp : (kids ps i).Pairwise (Unrel ps) := pairwise_of_nodup (kids_nodup _) fun a h1 b h2 hne => kids_unrel ha (by omega) h1 h2 hne
    rw [desc, List.nodup_cons]
    refine ⟨?_, nodup_list hv f ih _ hk hp⟩
    intro hj
    obtain ⟨k, hk', hj⟩ := List.mem_flatMap.1 hj
    have sj := (mem_desc hv f k i (hd k hk') (kids_lt hk')).1 hj
    have hik : Anc ps i k := .of_up (up_kid hk')
    rcases sj.2 with e | h
    · subst e; exact ha i hi hik
    · exact ha i hi (hik.trans h)
theorem all_nodup (hv : Valid ps) (ha : Acyc ps) : ((kids ps (-1)).flatMap (desc ps ps.length)).Nodup :=
  nodup_list hv _ (nodup_desc hv ha _) _ (roots_ok hv ha).1 (roots_ok hv ha).2
theorem all_mem_lt (hv : Valid ps) (ha : Acyc ps) {j : Nat} (h : j ∈ (kids ps (-1)).flatMap (desc ps ps.length)) : j < ps.length := by
  obtain ⟨k, hk, hj⟩ := List.mem_flatMap.1 h
  exact ((mem_desc hv _ k j (deep_root hv ha (kids_lt hk)) (kids_lt hk)).1 hj).1
theorem all_len_le (hv : Valid ps) (ha : Acyc ps) : ((kids ps (-1)).flatMap (desc ps ps.length)).length ≤ ps.length :=
  nodup_le (all_nodup hv ha) fun _ h => all_mem_lt hv ha h
theorem all_len (hv : Valid ps) (ha : Acyc ps) : ((kids ps (-1)).flatMap (desc ps ps.length)).length = ps.length := by
  refine Nat.le_antisymm (all_len_le hv ha) ?_
  rcases Nat.lt_or_ge ((kids ps (-1)).flatMap (desc ps ps.length)).length ps.length with hlt | hge
  · exfalso
    -- every node below the number of nodes has a place in the list
    obtain ⟨a, b, hab, hb, he⟩ := php ((kids ps (-1)).flatMap (desc ps ps.length)).length (fun k => ((kids ps (-1)).flatMap (desc ps ps.length)).idxOf k) (fun k hk =>
      List.idxOf_lt_length_iff.2 (mem_all hv ha (by omega)))
    have hb2 := mem_all hv ha (j := b) (by omega)
    have ha2 := mem_all hv ha (j := a) (by omega)
    have e1 := List.getElem_idxOf (List.idxOf_lt_length_iff.2 ha2)
    have e2 := List.getElem_idxOf (List.idxOf_lt_length_iff.2 hb2)
    have : a = b := by
      rw [← e1, ← e2]
      congr 1
    omega
  · exact hge
end
end Tr
end Go.Proofs.Ytgimddboflhpaaa
