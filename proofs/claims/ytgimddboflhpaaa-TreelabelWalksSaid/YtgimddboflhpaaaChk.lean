/- Plain facts about the search for the least node on a cycle by marks. No program in sight. -/
import Derived.Test.YtgimddboflhpaaaTree
namespace Go.Proofs.Ytgimddboflhpaaa
set_option linter.unusedSimpArgs false
set_option linter.unusedVariables false
set_option linter.unusedSectionVars false
namespace Tr

def badB (ps : List Int) (i : Nat) : Bool := decide (ps.getD i 0 < -1) || decide ((ps.length : Int) ≤ ps.getD i 0)
def bad (ps : List Int) : Option Nat := (List.range ps.length).find? (badB ps)
def cycAt (ps : List Int) : Option Nat := (List.range ps.length).find? (cyc ps)
/-- The least node to which an error applies, and the error. -/
def chk (ps : List Int) : Int × Int :=
  if 4096 < ps.length then (0, 2) else
  match bad ps with
  | some i => ((i : Int), 8)
  | none => match cycAt ps with
    | some i => ((i : Int), 12)
    | none => (0, 0)

theorem find_range {n i : Nat} {p : Nat → Bool} (hi : i < n) (h0 : ∀ j, j < i → p j = false) (h1 : p i = true) : (List.range n).find? p = some i := by
  rw [List.find?_range_eq_some]
  exact ⟨h1, by simpa using hi, fun j hj => by simp [h0 j hj]⟩
theorem find_range_none {n : Nat} {p : Nat → Bool} (h0 : ∀ j, j < n → p j = false) : (List.range n).find? p = none := by
  rw [List.find?_eq_none]
  intro x hx
  simp [h0 x (by simpa using hx)]
theorem find_range_some {n i : Nat} {p : Nat → Bool} (h : (List.range n).find? p = some i) : i < n ∧ p i = true ∧ ∀ j, j < i → p j = false := by
  rw [List.find?_range_eq_some] at h
  exact ⟨by simpa using h.2.1, h.1, fun j hj => by simpa using h.2.2 j hj⟩

section
variable {ps : List Int}
theorem badB_get {i : Nat} (h : i < ps.length) : badB ps i = (decide (ps[i] < -1) || decide ((ps.length : Int) ≤ ps[i])) := by
  simp [badB, List.getD, h]
theorem valid_of_bad (h : ∀ j, j < ps.length → badB ps j = false) : Valid ps := by
  intro i hi
  have := h i hi
  rw [badB_get hi] at this
  simp only [Bool.or_eq_false_iff, decide_eq_false_iff_not] at this
  omega
theorem bad_none (h : bad ps = none) : Valid ps := by
  refine valid_of_bad fun j hj => ?_
  unfold bad at h
  rw [List.find?_eq_none] at h
  simpa using h j (by simpa using hj)

theorem chk_limit (h : 4096 < ps.length) : chk ps = (0, 2) := by unfold chk; rw [if_pos h]
theorem chk_range (h : ¬ 4096 < ps.length) {i : Nat} (hi : i < ps.length) (h0 : ∀ j, j < i → badB ps j = false) (h1 : badB ps i = true) : chk ps = ((i : Int), 8) := by
  unfold chk; rw [if_neg h]
  rw [show bad ps = some i from find_range hi h0 h1]
theorem chk_cycle (h : ¬ 4096 < ps.length) (hv : ∀ j, j < ps.length → badB ps j = false) {i : Nat} (hi : i < ps.length) (h0 : ∀ j, j < i → ¬ Anc ps j j) (h1 : Anc ps i i) : chk ps = ((i : Int), 12) := by
  have hV := valid_of_bad hv
  unfold chk; rw [if_neg h]
  rw [show bad ps = none from find_range_none hv]
  have : cycAt ps = some i := find_range hi (fun j hj => by
    have := h0 j hj
    rw [← cyc_iff hV (by omega)] at this
    simpa using this) ((cyc_iff hV hi).2 h1)
  simp only [this]
theorem chk_ok (h : ¬ 4096 < ps.length) (hv : ∀ j, j < ps.length → badB ps j = false) (h0 : ∀ j, j < ps.length → ¬ Anc ps j j) : chk ps = (0, 0) := by
  have hV := valid_of_bad hv
  unfold chk; rw [if_neg h]
  rw [show bad ps = none from find_range_none hv]
  have : cycAt ps = none := find_range_none (fun j hj => by
    have := h0 j hj
    rw [← cyc_iff hV (by omega)] at this
    simpa using this)
  simp only [this]
/-- No error: the parents are those of a forest. -/
theorem chk_zero (h : (chk ps).2 = 0) : ps.length ≤ 4096 ∧ Valid ps ∧ Acyc ps ∧ (chk ps).1 = 0 := by
  by_cases hl : 4096 < ps.length
  · rw [chk_limit hl] at h; simp at h
  · unfold chk at h ⊢
    rw [if_neg hl] at h ⊢
    cases hb : bad ps with
    | some i => rw [hb] at h; simp at h
    | none =>
      rw [hb] at h
      have hV := bad_none hb
      cases hc : cycAt ps with
      | some i => rw [hc] at h; simp at h
      | none =>
        refine ⟨by omega, hV, ?_, by simp⟩
        intro i hi ha
        unfold cycAt at hc
        rw [List.find?_eq_none] at hc
        have := hc i (by simpa using hi)
        exact this ((cyc_iff hV hi).2 ha)
theorem chk_of_forest (hl : ps.length ≤ 4096) (hv : Valid ps) (ha : Acyc ps) : chk ps = (0, 0) := by
  refine chk_ok (by omega) (fun j hj => ?_) ha
  rw [badB_get hj]
  have := hv j hj
  simp only [Bool.or_eq_false_iff, decide_eq_false_iff_not]
  omega
theorem chk_code (ps : List Int) : (chk ps).2 = 0 ∨ (chk ps).2 = 2 ∨ (chk ps).2 = 8 ∨ (chk ps).2 = 12 := by
  unfold chk
  split
  · simp
  · split
    · simp
    · split <;> simp

theorem Anc.loop_nonneg {x : Nat} (h : Anc ps x x) (m : Nat) : 0 ≤ it ps m x := by
  obtain ⟨k, hk⟩ := h
  have hper : ∀ m, it ps ((k + 1) * m) x = x := by
    intro m
    induction m with
    | zero => rfl
    | succ m ih => rw [Nat.mul_succ, it_add, hk, ih]
  by_cases hn : it ps m x < 0
  · have hle : m ≤ (k + 1) * m := Nat.le_mul_of_pos_left _ (by omega)
    have := it_neg (ps := ps) ((k + 1) * m - m) _ hn
    rw [← it_add] at this
    have e : (k + 1) * m - m + m = (k + 1) * m := by omega
    rw [e, hper] at this; omega
  · omega
/-- Whatever lies on the way of a node on a cycle leads back to it. -/
theorem Anc.back {x : Nat} (h : Anc ps x x) (m : Nat) : ∃ l, it ps l (it ps m x) = x := by
  obtain ⟨k, hk⟩ := h
  have hper : ∀ m, it ps ((k + 1) * m) x = x := by
    intro m
    induction m with
    | zero => rfl
    | succ m ih => rw [Nat.mul_succ, it_add, hk, ih]
  refine ⟨(k + 1) * m - m, ?_⟩
  have hle : m ≤ (k + 1) * m := Nat.le_mul_of_pos_left _ (by omega)
  rw [← it_add]
  have e : (k + 1) * m - m + m = (k + 1) * m := by omega
  rw [e, hper]

/-- The marks on the way from i. -/
structure Mk (ps : List Int) (i : Nat) (s0 s : List Int) (k : Nat) : Prop where
  len : s.length = ps.length
  way : ∀ j, j < k → 0 ≤ it ps j i ∧ s0.getD (it ps j i).toNat 0 = 0
  on : ∀ j, j < k → s.getD (it ps j i).toNat 0 = i + 1
  off : ∀ x : Nat, x < ps.length → (∀ j, j < k → it ps j i ≠ x) → s.getD x 0 = s0.getD x 0
  inj : ∀ j l, j < l → l < k → it ps j i ≠ it ps l i

theorem getD_set (l : List Int) (i j : Nat) (v : Int) (h : i < l.length) : (l.set i v).getD j 0 = if j = i then v else l.getD j 0 := by
  simp only [List.getD, List.getElem?_set]
  by_cases e : i = j
  · subst e; simp [h]
  · simp [e, Ne.symm e]

theorem Mk.start {i : Nat} {s : List Int} (h : s.length = ps.length) : Mk ps i s s 0 :=
  ⟨h, fun j hj => by omega, fun j hj => by omega, fun _ _ _ => rfl, fun _ _ _ h => by omega⟩
theorem Mk.fresh {i k : Nat} {s0 s : List Int} (h : Mk ps i s0 s k) (h0 : 0 ≤ it ps k i) (hs : s.getD (it ps k i).toNat 0 = 0) : ∀ j, j < k → it ps j i ≠ it ps k i := by
  intro j hj e
  have := h.on j hj
  rw [e, hs] at this
  omega
theorem Mk.step (hv : Valid ps) {i k : Nat} (hi : i < ps.length) {s0 s : List Int} (h : Mk ps i s0 s k) (h0 : 0 ≤ it ps k i) (hs : s.getD (it ps k i).toNat 0 = 0) :
    Mk ps i s0 (s.set (it ps k i).toNat (i + 1)) (k + 1) := by
  have hf := h.fresh h0 hs
  have hlt : (it ps k i).toNat < s.length := by have := it_lt hv k i (by omega); rw [h.len]; omega
  refine ⟨by rw [List.length_set, h.len], ?_, ?_, ?_, ?_⟩
  · intro j hj
    by_cases e : j = k
    · subst e
      refine ⟨h0, ?_⟩
      rw [← h.off _ (by rw [← h.len]; exact hlt) (fun l hl e => hf l hl (by omega)), hs]
    · exact h.way j (by omega)
  · intro j hj
    rw [getD_set _ _ _ _ hlt]
    split
    · rfl
    · rename_i hne
      refine h.on j ?_
      by_cases e : j = k
      · subst e; exact absurd rfl hne
      · omega
  · intro x hx hj
    rw [getD_set _ _ _ _ hlt, if_neg ?_]
    · exact h.off x hx fun j hj' => hj j (by omega)
    · intro e
      exact hj k (by omega) (by omega)
  · intro j l hjl hl
    by_cases e : l = k
    · subst e; exact hf j hjl
    · exact h.inj j l hjl (by omega)
theorem Mk.lt (hv : Valid ps) {i k : Nat} (hi : i < ps.length) {s0 s : List Int} (h : Mk ps i s0 s k) (h0 : 0 ≤ it ps k i) (hs : s.getD (it ps k i).toNat 0 = 0) : k < ps.length := by
  have h' := h.step hv hi h0 hs
  by_cases hk : k < ps.length
  · exact hk
  · exfalso
    obtain ⟨a, b, hab, hb, he⟩ := php ps.length (fun j => (it ps j i).toNat) (fun j hj => by
      have h1 := (h'.way j (by omega)).1
      have h2 := it_lt hv j i (by omega)
      omega)
    have h1 := (h'.way a (by omega)).1
    have h2 := (h'.way b (by omega)).1
    exact h'.inj a b hab (by omega) (by omega)

/-- What holds when all ways from the nodes below i have been walked. -/
structure Inv (ps : List Int) (i : Nat) (s : List Int) (least : Int) : Prop where
  len : s.length = ps.length
  val : ∀ x, 0 ≤ s.getD x 0 ∧ s.getD x 0 ≤ i
  done : ∀ x, x < i → s.getD x 0 ≠ 0
  closed : ∀ x : Nat, x < ps.length → s.getD x 0 ≠ 0 → up ps x < 0 ∨ s.getD (up ps x).toNat 0 ≠ 0
  low : -1 ≤ least
  is : least ≠ -1 → ∃ c : Nat, least = c ∧ c < ps.length ∧ Anc ps c c
  min : ∀ x : Nat, x < ps.length → s.getD x 0 ≠ 0 → Anc ps x x → 0 ≤ least ∧ least ≤ x

theorem Inv.start : Inv ps 0 (List.replicate ps.length 0) (-1) := by
  have h : ∀ x, (List.replicate ps.length (0 : Int)).getD x 0 = 0 := by
    intro x
    simp only [List.getD, List.getElem?_replicate]
    split <;> rfl
  refine ⟨by simp, fun x => by rw [h]; simp, fun x hx => by omega, fun x _ hx => absurd (h x) hx, by omega, fun h => absurd rfl h, fun x _ hx => absurd (h x) hx⟩

theorem Inv.stays (hv : Valid ps) {i : Nat} {s : List Int} {least : Int} (h : Inv ps i s least) (m : Nat) : ∀ x : Nat, x < ps.length → s.getD x 0 ≠ 0 → 0 ≤ it ps m x → s.getD (it ps m x).toNat 0 ≠ 0 := by
  induction m with
  | zero => intro x _ hx _; simpa [it_zero] using hx
  | succ m ih =>
    intro x hl hx h0
    rcases h.closed x hl hx with hn | hc
    · have := it_neg (ps := ps) m _ hn
      have h0' : 0 ≤ it ps m (up ps x) := h0
      omega
    · by_cases hn : up ps x < 0
      · have := it_neg (ps := ps) m _ hn
        have h0' : 0 ≤ it ps m (up ps x) := h0
        omega
      · have e : ((up ps x).toNat : Int) = up ps x := by omega
        have hr := up_range hv x (by omega)
        have := ih (up ps x).toNat (by omega) hc (by rw [e]; exact h0)
        rwa [e] at this

/-- A way has been walked to its end; 'least' may have been lowered to a node on a cycle. -/
theorem Inv.next (hv : Valid ps) {i k : Nat} (hi : i < ps.length) {s0 s : List Int} {l0 l1 : Int} (h : Inv ps i s0 l0) (hm : Mk ps i s0 s k)
    (hend : it ps k i < 0 ∨ s.getD (it ps k i).toNat 0 ≠ 0)
    (hlow : -1 ≤ l1) (his : l1 ≠ -1 → ∃ c : Nat, l1 = c ∧ c < ps.length ∧ Anc ps c c) (hle : 0 ≤ l0 → 0 ≤ l1 ∧ l1 ≤ l0)
    (hmin : ∀ j, j < k → Anc ps (it ps j i).toNat (it ps j i).toNat → 0 ≤ l1 ∧ l1 ≤ it ps j i) : Inv ps (i + 1) s l1 := by
  have split_ : ∀ x : Nat, x < ps.length → (∃ j, j < k ∧ it ps j i = x) ∨ s.getD x 0 = s0.getD x 0 := by
    intro x hx
    by_cases he : ∃ j, j < k ∧ it ps j i = x
    · exact .inl he
    · exact .inr (hm.off x hx fun j hj e => he ⟨j, hj, e⟩)
  refine ⟨hm.len, ?_, ?_, ?_, hlow, his, ?_⟩
  · intro x
    by_cases hx : x < ps.length
    · rcases split_ x hx with ⟨j, hj, e⟩ | e
      · have := hm.on j hj
        rw [e] at this
        simp only [Int.toNat_natCast] at this
        rw [this]; omega
      · rw [e]; have := h.val x; omega
    · have : s.getD x 0 = 0 := by simp [List.getD, hm.len, Nat.le_of_not_lt hx]
      rw [this]; omega
  · intro x hx
    rcases split_ x (by omega) with ⟨j, hj, e⟩ | e
    · have := hm.on j hj
      rw [e] at this
      simp only [Int.toNat_natCast] at this
      rw [this]; omega
    · by_cases hxi : x = i
      · subst hxi
        rcases Nat.eq_zero_or_pos k with rfl | hk
        · rcases hend with hn | hn
          · have : ((x : Nat) : Int) < 0 := hn
            omega
          · simpa [it_zero] using hn
        · have := hm.on 0 hk
          simp only [it_zero, Int.toNat_natCast] at this
          rw [this]; omega
      · rw [e]; exact h.done x (by omega)
  · intro x hx hsx
    rcases split_ x hx with ⟨j, hj, e⟩ | e
    · rw [← e, ← it_succ]
      by_cases hjk : j + 1 < k
      · right
        rw [hm.on (j + 1) hjk]; omega
      · have : j + 1 = k := by omega
        rw [this]; exact hend
    · rw [e] at hsx
      rcases h.closed x hx hsx with hn | hc
      · exact .inl hn
      · by_cases hn : up ps x < 0
        · exact .inl hn
        · right
          have hr := up_range hv x (by omega)
          rcases split_ (up ps x).toNat (by omega) with ⟨j, hj, e'⟩ | e'
          · have := hm.on j hj
            rw [e'] at this
            simp only [Int.toNat_natCast] at this
            rw [this]; omega
          · rw [e']; exact hc
  · intro x hx hsx ha
    rcases split_ x hx with ⟨j, hj, e⟩ | e
    · have := hmin j hj (by rw [e]; simpa using ha)
      rw [e] at this; exact this
    · rw [e] at hsx
      have := h.min x hx hsx ha
      have := hle this.1
      omega

/-- The way leaves, or meets an older one: no new node on a cycle. -/
theorem Inv.miss (hv : Valid ps) {i k : Nat} (hi : i < ps.length) {s0 s : List Int} {l0 : Int} (h : Inv ps i s0 l0) (hm : Mk ps i s0 s k)
    (hend : it ps k i < 0 ∨ (s.getD (it ps k i).toNat 0 ≠ 0 ∧ s.getD (it ps k i).toNat 0 ≠ i + 1)) : Inv ps (i + 1) s l0 := by
  refine h.next hv hi hm (hend.imp id (·.1)) h.low h.is (fun h => ⟨h, Int.le_refl _⟩) ?_
  intro j hj ha
  exfalso
  obtain ⟨h0, hz⟩ := hm.way j hj
  have e : ((it ps j i).toNat : Int) = it ps j i := by omega
  have ek : it ps k i = it ps (k - j) (it ps j i) := by rw [← it_add]; congr 1; omega
  rcases hend with hn | ⟨h1, h2⟩
  · have := ha.loop_nonneg (k - j)
    rw [e, ← ek] at this; omega
  · have hpos := ha.loop_nonneg (k - j)
    rw [e, ← ek] at hpos
    have hlt := it_lt hv k i (by omega)
    have hoff : s.getD (it ps k i).toNat 0 = s0.getD (it ps k i).toNat 0 := hm.off _ (by omega) (fun l hl el => by
      have := hm.on l hl
      rw [el] at this
      simp only [Int.toNat_natCast] at this
      exact h2 this)
    rw [hoff] at h1
    obtain ⟨l, hl⟩ := ha.back (k - j)
    rw [e, ← ek] at hl
    have e' : ((it ps k i).toNat : Int) = it ps k i := by omega
    have := h.stays hv l (it ps k i).toNat (by omega) h1 (by rw [e', hl]; exact h0)
    rw [e', hl] at this
    exact this hz

/-- The way has met itself. -/
theorem Mk.met {i k : Nat} (hv : Valid ps) (hi : i < ps.length) {s0 s : List Int} {l0 : Int} (h : Inv ps i s0 l0) (hm : Mk ps i s0 s k) (h0 : 0 ≤ it ps k i) (he : s.getD (it ps k i).toNat 0 = i + 1) :
    ∃ p, 0 < p ∧ p ≤ ps.length ∧ it ps p (it ps k i) = it ps k i := by
  have hlt := it_lt hv k i (by omega)
  have hex : ∃ j, j < k ∧ it ps j i = ((it ps k i).toNat : Nat) := by
    by_cases hx : ∃ j, j < k ∧ it ps j i = ((it ps k i).toNat : Nat)
    · exact hx
    · exfalso
      have := hm.off (it ps k i).toNat (by omega) (fun j hj e => hx ⟨j, hj, e⟩)
      have hval := (h.val (it ps k i).toNat).2
      omega
  obtain ⟨j, hj, e⟩ := hex
  refine ⟨k - j, by omega, ?_, ?_⟩
  · -- the marked nodes are distinct
    by_cases hk : k ≤ ps.length
    · omega
    · exfalso
      obtain ⟨a, b, hab, hb, he⟩ := php ps.length (fun j => (it ps j i).toNat) (fun j hj => by
        have h1 := (hm.way j (by omega)).1
        have h2 := it_lt hv j i (by omega)
        omega)
      have h1 := (hm.way a (by omega)).1
      have h2 := (hm.way b (by omega)).1
      exact hm.inj a b hab (by omega) (by omega)
  · have hjk : it ps j i = it ps k i := by omega
    have e1 : it ps (k - j) (it ps j i) = it ps k i := by rw [← it_add]; congr 1; omega
    rw [hjk] at e1
    exact e1

/-- 'least' while the cycle at x is walked round: m nodes have been looked at. -/
structure Rnd (ps : List Int) (x : Int) (l0 : Int) (m : Nat) (l : Int) : Prop where
  low : -1 ≤ l
  all : ∀ j, j < m → 0 ≤ l ∧ l ≤ it ps j x
  from_ : l = l0 ∨ ∃ j, j < m ∧ l = it ps j x
  old : 0 ≤ l0 → 0 ≤ l ∧ l ≤ l0
  far : ∀ j, 0 < j → j < m → it ps j x ≠ x
theorem Rnd.start {x l0 : Int} (h : -1 ≤ l0) : Rnd ps x l0 0 l0 := ⟨h, fun j hj => by omega, .inl rfl, fun h => ⟨h, Int.le_refl _⟩, fun j h hj => by omega⟩
theorem Rnd.step {x l0 l : Int} {m : Nat} (h : Rnd ps x l0 m l) (h0 : 0 ≤ it ps m x) (hne : m = 0 ∨ it ps m x ≠ x) : Rnd ps x l0 (m + 1) (if l < 0 ∨ it ps m x < l then it ps m x else l) := by
  refine ⟨?_, ?_, ?_, ?_, ?_⟩
  · split <;> have := h.low <;> omega
  · intro j hj
    by_cases e : j = m
    · subst e; split <;> omega
    · have := h.all j (by omega); split <;> omega
  · split
    · exact .inr ⟨m, by omega, rfl⟩
    · exact h.from_.imp id fun ⟨j, hj, e⟩ => ⟨j, by omega, e⟩
  · intro hl
    have := h.old hl
    split <;> omega
  · intro j h0 hj
    by_cases e : j = m
    · subst e; rcases hne with hne | hne
      · omega
      · exact hne
    · exact h.far j h0 (by omega)
/-- The cycle has been walked round. -/
theorem Inv.hit (hv : Valid ps) {i k m : Nat} (hi : i < ps.length) {s0 s : List Int} {l0 l1 : Int} (h : Inv ps i s0 l0) (hm : Mk ps i s0 s k)
    (h0 : 0 ≤ it ps k i) (he : s.getD (it ps k i).toNat 0 = i + 1) (hr : Rnd ps (it ps k i) l0 m l1) (hpos : 0 < m) (hback : it ps m (it ps k i) = it ps k i) : Inv ps (i + 1) s l1 := by
  have e' : ((it ps k i).toNat : Int) = it ps k i := by omega
  have em : m - 1 + 1 = m := by omega
  have hcyc : Anc ps (it ps k i).toNat (it ps k i).toNat := ⟨m - 1, by rw [e', em, hback]⟩
  have hlt := it_lt hv k i (by omega)
  -- every way on from there is one of the first m
  have hmod : ∀ l, ∃ j, j < m ∧ it ps l (it ps k i) = it ps j (it ps k i) := by
    intro l
    induction l with
    | zero => exact ⟨0, hpos, rfl⟩
    | succ l ih =>
      obtain ⟨j, hj, e⟩ := ih
      by_cases hj' : j + 1 < m
      · exact ⟨j + 1, hj', by rw [it_succ, e, ← it_succ]⟩
      · have : j + 1 = m := by omega
        refine ⟨0, hpos, ?_⟩
        rw [it_succ, e, ← it_succ, this, hback]; rfl
  refine h.next hv hi hm (.inr (by rw [he]; omega)) hr.low ?_ hr.old ?_
  · intro hl
    rcases hr.from_ with e | ⟨j, hj, e⟩
    · rw [e]; exact h.is (by rw [← e]; exact hl)
    · have hjpos := hcyc.loop_nonneg j
      rw [e'] at hjpos
      have hjlt := it_lt hv j (it ps k i) (by omega)
      refine ⟨(it ps j (it ps k i)).toNat, by omega, by omega, ?_⟩
      have e2 : ((it ps j (it ps k i)).toNat : Int) = it ps j (it ps k i) := by omega
      refine ⟨m - 1, ?_⟩
      rw [e2, ← it_add]
      have e3 : m - 1 + 1 + j = j + m := by omega
      rw [e3, it_add, hback]
  · intro j hj ha
    obtain ⟨h0j, _⟩ := hm.way j hj
    have e : ((it ps j i).toNat : Int) = it ps j i := by omega
    have ek : it ps k i = it ps (k - j) (it ps j i) := by rw [← it_add]; congr 1; omega
    obtain ⟨l, hl⟩ := ha.back (k - j)
    rw [e, ← ek] at hl
    obtain ⟨j', hj', e3⟩ := hmod l
    have := hr.all j' hj'
    rw [← e3, hl] at this; exact this

/-- All ways have been walked: the answer. -/
theorem Inv.chk (hl : ¬ 4096 < ps.length) (hv : ∀ j, j < ps.length → badB ps j = false) {s : List Int} {least : Int} (h : Inv ps ps.length s least) :
    (0 ≤ least → Tr.chk ps = (least, 12)) ∧ (least < 0 → Tr.chk ps = (0, 0)) := by
  constructor
  · intro h0
    obtain ⟨c, rfl, hc, ha⟩ := h.is (by omega)
    exact chk_cycle hl hv hc (fun j hj hja => by
      have := h.min j (by omega) (h.done j (by omega)) hja
      omega) ha
  · intro h0
    exact chk_ok hl hv fun j hj hja => by
      have := h.min j hj (h.done j hj) hja
      omega
end
end Tr
end Go.Proofs.Ytgimddboflhpaaa
