/- Parts of the proof: Reg. No condition of its own. -/
import Derived.Test.YtfenjklilocjgaaGreatDoorMem
import Derived.Orders
set_option linter.unusedSimpArgs false
set_option linter.unusedVariables false
set_option linter.unusedSectionVars false
namespace Go.Proofs.YtfenjklilocjgaaGreatDoor
set_option linter.unusedSimpArgs false
set_option linter.unusedVariables false
set_option linter.unusedSectionVars false
open Go.RowKit

/-- The slots that the operations write. -/
def dsts (ops : Array Oper) : List (Option Tmp) := ops.toList.map (·.dst)
def putAll : List (Option Tmp) → Nat → (Nat → Value) → Act → Act
  | [], _, _, a => a
  | d :: r, k, u, a => putAll r (k + 1) u (a.put d (u k))

def distinct : List (Option Tmp) → Bool
  | [] => true
  | none :: r => distinct r
  | some d :: r => !r.contains (some d) && distinct r
/-- Each operation waits for earlier ones alone. -/
def fwdFrom : List Oper → Nat → Bool
  | [], _ => true
  | o :: r, k => (o.after.toList.all fun e => !(Region.binds .any e) || decide (e.on < k)) && fwdFrom r (k + 1)
def forward (ops : Array Oper) : Bool := fwdFrom ops.toList 0
theorem fwdFrom_get : ∀ (l : List Oper) (k : Nat), fwdFrom l k = true → ∀ i o, l[i]? = some o → ∀ e ∈ o.after, Region.binds .any e = true → e.on < k + i := by
  intro l
  induction l with
  | nil => intro k _ i o h; simp at h
  | cons x l ih =>
    intro k h i o hi e he hb
    simp only [fwdFrom, Bool.and_eq_true, List.all_eq_true] at h
    cases i with
    | zero =>
      simp at hi; subst hi
      have := h.1 e (by simpa using he)
      rw [hb] at this
      simpa using this
    | succ i =>
      have := ih (k + 1) h.2 i o (by simpa using hi) e he hb
      omega
def dep (o : Oper) (j : Nat) : Bool := o.after.toList.any fun e => Region.binds .any e && e.on == j

theorem put_put_same (a : Act) (d : Option Tmp) (v v' : Value) : (a.put d v).put d v' = a.put d v' := by
  cases d with
  | none => rfl
  | some d => simp [Act.put]
theorem put_comm (a : Act) {x y : Option Tmp} (v u : Value) (h : x = none ∨ x ≠ y) : (a.put x v).put y u = (a.put y u).put x v := by
  cases x with
  | none => rfl
  | some d =>
    refine (Act.put_comm a v u ?_)
    intro e he
    injection he with he
    subst he
    rcases h with h | h
    · cases h
    · exact fun e2 => h e2.symm
theorem putAll_put : ∀ (ds : List (Option Tmp)) (k : Nat) (u : Nat → Value) (a : Act) (x : Option Tmp) (v : Value), (x = none ∨ x ∉ ds) → putAll ds k u (a.put x v) = (putAll ds k u a).put x v := by
  intro ds
  induction ds with
  | nil => intro k u a x v _; rfl
  | cons d r ih =>
    intro k u a x v h
    show putAll r (k + 1) u ((a.put x v).put d (u k)) = (putAll r (k + 1) u (a.put d (u k))).put x v
    rw [put_comm a v (u k) (h.imp id fun h e => h (by simp [e])), ih]
    exact h.imp id fun h e => h (by simp [e])
theorem putAll_congr : ∀ (ds : List (Option Tmp)) (k : Nat) (u u' : Nat → Value) (a : Act), (∀ i, k ≤ i → u i = u' i) → putAll ds k u a = putAll ds k u' a := by
  intro ds
  induction ds with
  | nil => intro k u u' a _; rfl
  | cons d r ih =>
    intro k u u' a h
    show putAll r (k + 1) u (a.put d (u k)) = putAll r (k + 1) u' (a.put d (u' k))
    rw [h k (Nat.le_refl _)]
    exact ih _ _ _ _ fun i hi => h i (by omega)
theorem putAll_upd : ∀ (ds : List (Option Tmp)) (k i : Nat) (u : Nat → Value) (a : Act) (v : Value), distinct ds = true → i < ds.length →
    (putAll ds k u a).put (ds.getD i none) v = putAll ds k (upd u (k + i) v) a := by
  intro ds
  induction ds with
  | nil => intro k i u a v _ h; simp at h
  | cons d r ih =>
    intro k i u a v hd hi
    have hd' : (d = none ∨ d ∉ r) ∧ distinct r = true := by
      cases d with
      | none => exact ⟨.inl rfl, hd⟩
      | some d => simp only [distinct, Bool.and_eq_true, Bool.not_eq_true'] at hd; exact ⟨.inr (by intro hm; have := hd.1; simp [hm] at this), hd.2⟩
    cases i with
    | zero =>
      show (putAll r (k + 1) u (a.put d (u k))).put d v = putAll r (k + 1) (upd u (k + 0) v) (a.put d (upd u (k + 0) v k))
      rw [← putAll_put _ _ _ _ _ _ hd'.1, put_put_same]
      have e : upd u (k + 0) v k = v := upd_same _ _ _
      rw [e]
      exact putAll_congr _ _ _ _ _ fun j hj => (upd_ne _ _ (by omega)).symm
    | succ i =>
      show (putAll r (k + 1) u (a.put d (u k))).put (r.getD i none) v = putAll r (k + 1) (upd u (k + (i + 1)) v) (a.put d (upd u (k + (i + 1)) v k))
      rw [ih (k + 1) i u _ v hd'.2 (by simpa using hi), upd_ne _ _ (by omega)]
      have : k + 1 + i = k + (i + 1) := by omega
      rw [this]
theorem getD_setIf {t : Array Value} {d : Nat} : t.setIfInBounds d (t.getD d undef) = t := by
  apply Array.ext
  · simp
  · intro i h1 h2
    by_cases e : d = i
    · subst e; simp [Array.getD, h2]
    · rw [Array.getElem_setIfInBounds_ne _ e]
theorem put_self (a : Act) (d : Option Tmp) : a.put d (match d with | some d => a.tmps.getD d undef | none => undef) = a := by
  cases d with
  | none => rfl
  | some d => simp only [Act.put, getD_setIf]
theorem putAll_self : ∀ (ds : List (Option Tmp)) (k : Nat) (a : Act), ∃ u, putAll ds k u a = a := by
  intro ds
  induction ds with
  | nil => exact fun k a => ⟨fun _ => undef, rfl⟩
  | cons d r ih =>
    intro k a
    obtain ⟨u, hu⟩ := ih (k + 1) a
    refine ⟨upd u k (match d with | some d => a.tmps.getD d undef | none => undef), ?_⟩
    show putAll r (k + 1) _ (a.put d (upd u k _ k)) = a
    rw [upd_same, put_self, putAll_congr _ _ _ u _ (fun i hi => upd_ne _ _ (by omega)), hu]

section
variable {P : Program} {ops : Array Oper} {Q : Exit → Act → World → Prop}
/-- What is shown of operation i. -/
def RegStep (P : Program) (ops : Array Oper) (Q : Exit → Act → World → Prop) (V : Nat → Value → World → Prop) (T : World → World → Prop) (w0 : World) (a0 : Act) (i : Nat) : Prop :=
  ∀ o, ops[i]? = some o → ∀ (u : Nat → Value) (w : World), T w0 w → (∀ j, dep o j = true → V j (u j) w) →
    ∀ K : Act → World → Prop, (∀ v w', T w w' → V i v w' → K ((putAll (dsts ops) 0 u a0).put o.dst v) w') →
      if Region.wanted o (yielded ops (putAll (dsts ops) 0 u a0).tmps) = true then o.wp P (putAll (dsts ops) 0 u a0) w K Q else K ((putAll (dsts ops) 0 u a0).put o.dst undef) w
def RegSteps (P : Program) (ops : Array Oper) (Q : Exit → Act → World → Prop) (V : Nat → Value → World → Prop) (T : World → World → Prop) (w0 : World) (a0 : Act) : Nat → Prop
  | 0 => True
  | n + 1 => RegSteps P ops Q V T w0 a0 n ∧ RegStep P ops Q V T w0 a0 n
theorem RegSteps.get {V : Nat → Value → World → Prop} {T : World → World → Prop} {w0 : World} {a0 : Act} {n : Nat} (h : RegSteps P ops Q V T w0 a0 n) : ∀ i, i < n → RegStep P ops Q V T w0 a0 i := by
  induction n with
  | zero => intro i hi; omega
  | succ n ih =>
    intro i hi
    by_cases e : i = n
    · subst e; exact h.2
    · exact ih h.1 i (by omega)
theorem dsts_get {i : Nat} {o : Oper} (h : ops[i]? = some o) : (dsts ops).getD i none = o.dst := by
  have h' : ops.toList[i]? = some o := by simpa using h
  simp [dsts, List.getD, h']
theorem count_set {listed : Array Bool} {i : Nat} (hi : i < ops.size) (h : listed.getD i true = false) (hs : listed.size = ops.size) :
    ((List.range ops.size).filter fun j => !(listed.setIfInBounds i true).getD j true).length + 1 ≤ ((List.range ops.size).filter fun j => !listed.getD j true).length := by
  have key : ∀ l : List Nat, l.Nodup → i ∈ l → (l.filter fun j => !(listed.setIfInBounds i true).getD j true).length + 1 ≤ (l.filter fun j => !listed.getD j true).length := by
    intro l
    induction l with
    | nil => intro _ h; simp at h
    | cons x l ih =>
      intro hn hm
      rw [List.nodup_cons] at hn
      by_cases e : x = i
      · subst e
        have e1 : (listed.setIfInBounds x true).getD x true = true := by
          have := getD_set_true' (listed := listed) (i := x) (by rw [hs]; exact hi)
          exact this
        have e2 : l.filter (fun j => !(listed.setIfInBounds x true).getD j true) = l.filter fun j => !listed.getD j true := by
          apply List.filter_congr
          intro y hy
          rw [getD_set_ne true (by intro e9; exact hn.1 (by rw [e9]; exact hy))]
        rw [List.filter_cons, if_neg (by rw [e1]; simp), List.filter_cons, if_pos (by rw [h]; rfl), e2]
        simp
      · have hm' : i ∈ l := (List.mem_cons.1 hm).resolve_left (fun e' => e e'.symm)
        have h9 := ih hn.2 hm'
        rw [List.filter_cons, List.filter_cons, getD_set_ne true (fun e' => e e'.symm)]
        split
        · simp only [List.length_cons]; omega
        · exact h9
  exact key _ List.nodup_range (List.mem_range.2 hi)
where
  getD_set_true' {listed : Array Bool} {i : Nat} (h : i < listed.size) : (listed.setIfInBounds i true).getD i true = true := by simp [Array.getD, h]

theorem least_ready (hf : forward ops = true) {listed : Array Bool} (hs : listed.size = ops.size) : ∀ i, i < ops.size → listed.getD i true = false → ∃ j, j ∈ Region.ready .any ops listed := by
  intro i
  induction i using Nat.strongRecOn with
  | _ i ih =>
    intro hi h
    by_cases hex : ∃ j, j < i ∧ listed.getD j true = false
    · obtain ⟨j, hj, hj2⟩ := hex
      exact ih j hj (by omega) hj2
    · refine ⟨i, ?_⟩
      rw [mem_ready]
      refine ⟨h, ops[i], Array.getElem?_eq_getElem hi, fun e he hbi => ?_⟩
      have hlt : e.on < i := by
        have := fwdFrom_get _ _ hf i ops[i] (by simp [hi]) e he hbi
        omega
      have h1 : listed.getD e.on true ≠ false := fun e' => hex ⟨e.on, hlt, e'⟩
      have hsz : e.on < listed.size := by omega
      simp only [Array.getD, hsz, dif_pos] at h1 ⊢
      simpa using h1

theorem reg_any (V : Nat → Value → World → Prop) (T : World → World → Prop) (ht : ∀ a b c, T a b → T b c → T a c) (hV : ∀ i v w w', V i v w → T w w' → V i v w')
    (hd : distinct (dsts ops) = true) (hf : forward ops = true) {a0 : Act} {w0 : World} (hsteps : ∀ i, i < ops.size → RegStep P ops Q V T w0 a0 i)
    (hpost : ∀ (u : Nat → Value) (w : World), T w0 w → (∀ i, i < ops.size → V i (u i) w) → Q .normal (putAll (dsts ops) 0 u a0) w) :
    ∀ (fuel : Nat) (listed : Array Bool) (u : Nat → Value) (w : World), listed.size = ops.size → ((List.range ops.size).filter fun j => !listed.getD j true).length ≤ fuel → T w0 w →
      (∀ i, i < ops.size → listed.getD i true = true → V i (u i) w) → wpAny P .any ops Q fuel listed (putAll (dsts ops) 0 u a0) w := by
  intro fuel
  have hall : ∀ (listed : Array Bool) (u : Nat → Value) (w : World), listed.size = ops.size → T w0 w → (∀ i, i < ops.size → listed.getD i true = true → V i (u i) w) → Region.ready .any ops listed = [] → Q .normal (putAll (dsts ops) 0 u a0) w := by
    intro listed u w hs hw hl hr
    refine hpost u w hw fun i hi => hl i hi ?_
    cases hb : listed.getD i true with
    | true => rfl
    | false =>
      obtain ⟨j, hj⟩ := least_ready hf hs i hi hb
      rw [hr] at hj; simp at hj
  induction fuel with
  | zero =>
    intro listed u w hs hc hw hl
    have hr : Region.ready .any ops listed = [] := by
      cases hr : Region.ready .any ops listed with
      | nil => rfl
      | cons j r =>
        exfalso
        have hj : j ∈ Region.ready .any ops listed := by rw [hr]; simp
        rw [mem_ready] at hj
        obtain ⟨h0, o, ho, _⟩ := hj
        have hjl : j < ops.size := (Array.getElem?_eq_some_iff.1 ho).1
        have : j ∈ (List.range ops.size).filter fun j => !listed.getD j true := by
          rw [List.mem_filter]; exact ⟨List.mem_range.2 hjl, by rw [h0]; rfl⟩
        rw [List.eq_nil_of_length_eq_zero (Nat.le_zero.1 hc)] at this
        simp at this
    exact ⟨hr, hall listed u w hs hw hl hr⟩
  | succ fuel ih =>
    intro listed u w hs hc hw hl
    refine ⟨hall listed u w hs hw hl, fun i hi => ?_⟩
    rw [mem_ready] at hi
    obtain ⟨h0, o, ho, hpre⟩ := hi
    have hil : i < ops.size := (Array.getElem?_eq_some_iff.1 ho).1
    have hdi := dsts_get ho
    have hlen : i < (dsts ops).length := by simpa [dsts] using hil
    have go : ∀ v w', T w w' → V i v w' → wpAny P .any ops Q fuel (listed.setIfInBounds i true) ((putAll (dsts ops) 0 u a0).put o.dst v) w' := by
      intro v w' hww hv
      rw [← hdi, putAll_upd _ 0 i u a0 v hd hlen, Nat.zero_add]
      refine ih _ _ _ (by simpa using hs) (by have := count_set hil h0 hs; omega) (ht _ _ _ hw hww) fun j hj hlj => ?_
      by_cases e : j = i
      · subst e; rw [upd_same]; exact hv
      · rw [upd_ne _ _ e]
        rw [getD_set_ne true (fun e' => e e'.symm)] at hlj
        exact hV j _ _ _ (hl j hj hlj) hww
    have hs' := hsteps i hil o ho u w hw (fun j hj => by
      unfold dep at hj
      rw [List.any_eq_true] at hj
      obtain ⟨e, he, hb⟩ := hj
      have he : e ∈ o.after := by simpa using he
      simp only [Bool.and_eq_true, beq_iff_eq] at hb
      have h1 := hpre e he hb.1
      rw [hb.2] at h1
      have hjs : j < listed.size := by
        rcases Nat.lt_or_ge j listed.size with h | h
        · exact h
        · simp [Array.getD, Nat.not_lt.2 h] at h1
      refine hl j (by omega) ?_
      simpa [Array.getD, hjs] using h1) (wpAny P .any ops Q fuel (listed.setIfInBounds i true)) go
    unfold wpOp
    rw [ho]
    simp only
    split
    · rename_i hw'; rw [if_pos hw'] at hs'; exact .inl hs'
    · rename_i hw'; rw [if_neg hw'] at hs'; exact hs'

/-- THE RULE. -/
theorem wp_reg {id : Nat} {a : Act} {w : World} (V : Nat → Value → World → Prop) (T : World → World → Prop) (hm : P.follows .mixedOrders = true) (hr : ∀ w, T w w) (ht : ∀ a b c, T a b → T b c → T a c) (hV : ∀ i v w w', V i v w → T w w' → V i v w')
    (hd : distinct (dsts ops) = true) (hf : forward ops = true) (hsteps : RegSteps P ops Q V T w.drew a ops.size)
    (hpost : ∀ (u : Nat → Value) (w' : World), T w.drew w' → (∀ i, i < ops.size → V i (u i) w') → Q .normal (putAll (dsts ops) 0 u a) w') : (Code.region id ops true).wp P Q a w := by
  refine wp_region_any hm ?_
  obtain ⟨u, hu⟩ := putAll_self (dsts ops) 0 a
  have := reg_any V T ht hV hd hf (a0 := a) (w0 := w.drew) hsteps.get hpost ops.size (Array.replicate ops.size false) u w.drew (by simp) (by
    have := List.length_filter_le (fun j => !(Array.replicate ops.size false).getD j true) (List.range ops.size)
    simpa using this) (hr _) (fun i hi h => by simp [Array.getD, hi] at h)
  rw [hu] at this
  exact this
end
/-- Nothing that was there has turned. -/
def Grow (w w' : World) : Prop := Below w.heap.size w w'
theorem Grow.refl (w : World) : Grow w w := Below.refl _ _
theorem Grow.trans (a b c : World) (h : Grow a b) (h' : Grow b c) : Grow a c := Below.trans h (Below.mono h' h.size)
theorem Grow.of_drew {w w' : World} (h : Grow w.drew w') : Below w.heap.size w w' := ⟨h.os, h.tape, h.output, h.size, h.block⟩
theorem grow_cell {w w' : World} (h : Grow w.drew w') {p : Addr} {u : Value} (hc : w.cell? p = some u) : w'.cell? p = some u := below_cell h.of_drew hc
theorem Grow.below {w w' : World} (h : Grow w.drew w') : Below w.heap.size w w' := h.of_drew
/-- What is shown of an operation, where each value is known ahead. -/
def ValStep (P : Program) (ops : Array Oper) (Q : Exit → Act → World → Prop) (c : List Value) (ds : List (Option Tmp)) (w0 : World) (a0 : Act) (o : Oper) (x : Value) : Prop :=
  ∀ (u : Nat → Value) (w : World), Grow w0 w → (∀ j, dep o j = true → u j = c.getD j undef) →
    ∀ K : Act → World → Prop, (∀ w', Grow w w' → K ((putAll ds 0 u a0).put o.dst x) w') →
      if Region.wanted o (yielded ops (putAll ds 0 u a0).tmps) = true then o.wp P (putAll ds 0 u a0) w K Q else K ((putAll ds 0 u a0).put o.dst undef) w
def ValSteps (P : Program) (ops : Array Oper) (Q : Exit → Act → World → Prop) (c : List Value) (ds : List (Option Tmp)) (w0 : World) (a0 : Act) : List Oper → List Value → Prop
  | o :: r, x :: xs => ValStep P ops Q c ds w0 a0 o x ∧ ValSteps P ops Q c ds w0 a0 r xs
  | [], [] => True
  | _, _ => False
theorem ValSteps.get {P : Program} {ops : Array Oper} {Q : Exit → Act → World → Prop} {c : List Value} {ds : List (Option Tmp)} {w0 : World} {a0 : Act} : ∀ (l : List Oper) (xs : List Value), ValSteps P ops Q c ds w0 a0 l xs → ∀ i o, l[i]? = some o → ValStep P ops Q c ds w0 a0 o (xs.getD i undef) := by
  intro l
  induction l with
  | nil => intro xs _ i o h; simp at h
  | cons o r ih =>
    intro xs h i o' ho
    cases xs with
    | nil => exact h.elim
    | cons x xs =>
      cases i with
      | zero => simp at ho; subst ho; exact h.1
      | succ i => exact ih xs h.2 i o' (by simpa using ho)
/-- The rule where each value is known ahead. -/
theorem wp_reg_vals {P : Program} {l : List Oper} {Q : Exit → Act → World → Prop} {id : Nat} {a : Act} {w : World} (ds : List (Option Tmp)) (c : List Value) (hds : l.map (·.dst) = ds) (hm : P.follows .mixedOrders = true)
    (hd : distinct ds = true) (hf : fwdFrom l 0 = true) (hsteps : ValSteps P l.toArray Q c ds w.drew a l c)
    (hpost : ∀ w', Below w.heap.size w w' → Q .normal (putAll ds 0 (fun i => c.getD i undef) a) w') : (Code.region id l.toArray true).wp P Q a w := by
  have hds' : dsts l.toArray = ds := hds
  subst hds'
  refine wp_reg (fun i v _ => v = c.getD i undef) Grow hm Grow.refl Grow.trans (fun _ _ _ _ h _ => h) hd hf ?_ fun u w' hT hu => ?_
  · have key : ∀ n, n ≤ l.toArray.size → RegSteps P l.toArray Q (fun i v _ => v = c.getD i undef) Grow w.drew a n := by
      intro n
      induction n with
      | zero => exact fun _ => trivial
      | succ n ih =>
        intro hn
        refine ⟨ih (by omega), fun o ho u w hT hV K hK => (hsteps.get l c n o (by simpa using ho)) u w hT hV K fun w' hw' => hK _ w' hw' rfl⟩
    exact key _ (Nat.le_refl _)
  have e : putAll (dsts l.toArray) 0 u a = putAll (dsts l.toArray) 0 (fun i => c.getD i undef) a := by
    have key : ∀ (ds : List (Option Tmp)) (k : Nat) (a : Act), (∀ i, k ≤ i → i < k + ds.length → u i = c.getD i undef) → putAll ds k u a = putAll ds k (fun i => c.getD i undef) a := by
      intro ds
      induction ds with
      | nil => intro k a _; rfl
      | cons d r ih =>
        intro k a h
        show putAll r (k + 1) u (a.put d (u k)) = putAll r (k + 1) _ (a.put d (c.getD k undef))
        rw [h k (Nat.le_refl _) (by simp)]
        exact ih _ _ fun i h1 h2 => h i (by omega) (by simp only [List.length_cons]; omega)
    refine key _ _ _ fun i _ h2 => hu i ?_
    simpa [dsts] using h2
  rw [e]
  exact hpost w' hT.of_drew
set_option linter.unusedSimpArgs false
set_option linter.unusedVariables false
set_option linter.unusedSectionVars false
open Go.RowKit

theorem put_defers (a : Act) (x : Option Tmp) (v : Value) : (a.put x v).defers = a.defers := by cases x <;> rfl
theorem put_size (a : Act) (x : Option Tmp) (v : Value) : (a.put x v).tmps.size = a.tmps.size := by
  cases x with
  | none => rfl
  | some d => simp [Act.put]
theorem put_getD (a : Act) (x : Option Tmp) (v : Value) (d : Nat) (h : x ≠ some d) : (a.put x v).tmps.getD d undef = a.tmps.getD d undef := by
  cases x with
  | none => rfl
  | some e =>
    have h' : e ≠ d := fun e' => h (by rw [e'])
    show (a.tmps.setIfInBounds e v).getD d undef = a.tmps.getD d undef
    simp [Array.getD_eq_getD_getElem?, Array.getElem?_setIfInBounds_ne h']
theorem put_getD_same (a : Act) (v : Value) (d : Nat) (h : d < a.tmps.size) : (a.put (some d) v).tmps.getD d undef = v := by
  simp [Act.put, Array.getD, h]
theorem putAll_defers : ∀ (ds : List (Option Tmp)) (k : Nat) (u : Nat → Value) (a : Act), (putAll ds k u a).defers = a.defers := by
  intro ds
  induction ds with
  | nil => intro k u a; rfl
  | cons d r ih => intro k u a; exact (ih (k + 1) u (a.put d (u k))).trans (put_defers _ _ _)
theorem putAll_size : ∀ (ds : List (Option Tmp)) (k : Nat) (u : Nat → Value) (a : Act), (putAll ds k u a).tmps.size = a.tmps.size := by
  intro ds
  induction ds with
  | nil => intro k u a; rfl
  | cons d r ih => intro k u a; exact (ih (k + 1) u (a.put d (u k))).trans (put_size _ _ _)
theorem putAll_old : ∀ (ds : List (Option Tmp)) (k : Nat) (u : Nat → Value) (a : Act) (d : Nat), some d ∉ ds → (putAll ds k u a).tmps.getD d undef = a.tmps.getD d undef := by
  intro ds
  induction ds with
  | nil => intro k u a d _; rfl
  | cons x r ih =>
    intro k u a d h
    exact (ih (k + 1) u (a.put x (u k)) d (fun h' => h (by simp [h']))).trans (put_getD _ _ _ _ (fun e => h (by simp [e])))
theorem putAll_new : ∀ (ds : List (Option Tmp)) (k : Nat) (u : Nat → Value) (a : Act) (i d : Nat), distinct ds = true → ds.getD i none = some d → d < a.tmps.size → (putAll ds k u a).tmps.getD d undef = u (k + i) := by
  intro ds
  induction ds with
  | nil => intro k u a i d _ h; simp at h
  | cons x r ih =>
    intro k u a i d hd h hs
    have hd' : (x = none ∨ x ∉ r) ∧ distinct r = true := by
      cases x with
      | none => exact ⟨.inl rfl, hd⟩
      | some d => simp only [distinct, Bool.and_eq_true, Bool.not_eq_true'] at hd; exact ⟨.inr (by intro hm; have := hd.1; simp [hm] at this), hd.2⟩
    cases i with
    | zero =>
      have h : x = some d := h
      subst h
      exact (putAll_old r (k + 1) u _ d (hd'.1.resolve_left (by simp))).trans (put_getD_same _ _ _ hs)
    | succ i =>
      have := ih (k + 1) u (a.put x (u k)) i d hd'.2 (by simpa using h) (by rw [put_size]; exact hs)
      have e : k + 1 + i = k + (i + 1) := by omega
      rw [e] at this
      exact this

/-- What is shown of an operation, the frame opaque. -/
def AbsStep (P : Program) (ops : Array Oper) (Q : Exit → Act → World → Prop) (c : List Value) (ds : List (Option Tmp)) (w0 : World) (a0 : Act) (o : Oper) (x : Value) : Prop :=
  ∀ (t : Array Value) (w : World), Grow w0 w → (∀ j d, dep o j = true → ds.getD j none = some d → d < a0.tmps.size → t[d]? = some (c.getD j undef)) →
    (∀ d v, ds.contains (some d) = false → a0.tmps[d]? = some v → t[d]? = some v) →
    ∀ K : Act → World → Prop, (∀ w', Grow w w' → K (Act.put ⟨t, a0.defers⟩ o.dst x) w') →
      if Region.wanted o (yielded ops t) = true then o.wp P ⟨t, a0.defers⟩ w K Q else K (Act.put ⟨t, a0.defers⟩ o.dst undef) w
def AbsSteps (P : Program) (ops : Array Oper) (Q : Exit → Act → World → Prop) (c : List Value) (ds : List (Option Tmp)) (w0 : World) (a0 : Act) : List Oper → List Value → Prop
  | o :: r, x :: xs => AbsStep P ops Q c ds w0 a0 o x ∧ AbsSteps P ops Q c ds w0 a0 r xs
  | [], [] => True
  | _, _ => False
theorem get_some {t : Array Value} {d : Nat} (h : d < t.size) : t[d]? = some (t.getD d undef) := by simp [Array.getD_eq_getD_getElem?, h]
theorem AbsStep.val {P : Program} {ops : Array Oper} {Q : Exit → Act → World → Prop} {c : List Value} {ds : List (Option Tmp)} {w0 : World} {a0 : Act} {o : Oper} {x : Value} (hd : distinct ds = true) (h : AbsStep P ops Q c ds w0 a0 o x) : ValStep P ops Q c ds w0 a0 o x := by
  intro u w hT hV K hK
  have e : putAll ds 0 u a0 = ⟨(putAll ds 0 u a0).tmps, a0.defers⟩ := by rw [← putAll_defers ds 0 u a0]
  have := h (putAll ds 0 u a0).tmps w hT (fun j d hj hjd hs => by
      have h1 := putAll_new ds 0 u a0 j d hd hjd hs
      rw [Nat.zero_add, hV j hj] at h1
      rw [← h1]
      exact get_some (by rw [putAll_size]; exact hs))
    (fun d v hd' hv => by
      have hs : d < a0.tmps.size := (Array.getElem?_eq_some_iff.1 hv).1
      have h1 := putAll_old ds 0 u a0 d (by intro hm; simp [hm] at hd')
      have h2 : a0.tmps.getD d undef = v := by simp [Array.getD_eq_getD_getElem?, hv]
      rw [h2] at h1
      rw [← h1]
      exact get_some (by rw [putAll_size]; exact hs)) K (by rw [← e]; exact hK)
  rw [← e] at this
  exact this
theorem AbsSteps.vals {P : Program} {ops : Array Oper} {Q : Exit → Act → World → Prop} {c : List Value} {ds : List (Option Tmp)} {w0 : World} {a0 : Act} (hd : distinct ds = true) : ∀ (l : List Oper) (xs : List Value), AbsSteps P ops Q c ds w0 a0 l xs → ValSteps P ops Q c ds w0 a0 l xs := by
  intro l
  induction l with
  | nil =>
    intro xs h
    cases xs with
    | nil => exact trivial
    | cons x xs => exact h.elim
  | cons o r ih =>
    intro xs h
    cases xs with
    | nil => exact h.elim
    | cons x xs => exact ⟨h.1.val hd, ih xs h.2⟩
/-- The rule where each value is known ahead and the frame is opaque. -/
theorem wp_reg_abs {P : Program} {l : List Oper} {Q : Exit → Act → World → Prop} {id : Nat} {a : Act} {w : World} (ds : List (Option Tmp)) (c : List Value) (hds : l.map (·.dst) = ds) (hm : P.follows .mixedOrders = true)
    (hd : distinct ds = true) (hf : fwdFrom l 0 = true) (hsteps : AbsSteps P l.toArray Q c ds w.drew a l c)
    (hpost : ∀ w', Below w.heap.size w w' → Q .normal (putAll ds 0 (fun i => c.getD i undef) a) w') : (Code.region id l.toArray true).wp P Q a w :=
  wp_reg_vals ds c hds hm hd hf (hsteps.vals hd) hpost
/-- The facts that an operation waits for, handed in one by one. -/
def FV (t : Array Value) (ds : List (Option Tmp)) (c : List Value) : List Nat → Prop → Prop
  | [], g => g
  | j :: r, g => t[(ds.getD j none).getD 0]? = some (c.getD j undef) → FV t ds c r g
def OV (t : Array Value) : List (Nat × Value) → Prop → Prop
  | [], g => g
  | p :: r, g => t[p.1]? = some p.2 → OV t r g
def OL (tm : Array Value) : List (Nat × Value) → Prop
  | [] => True
  | p :: r => tm[p.1]? = some p.2 ∧ OL tm r
def okF (ds : List (Option Tmp)) (n : Nat) : List Oper → List (List Nat) → Bool
  | o :: r, js :: fs => (js.all fun j => dep o j && (match ds.getD j none with | some d => decide (d < n) | none => false)) && okF ds n r fs
  | [], [] => true
  | _, _ => false
def AbsStepsF (P : Program) (ops : Array Oper) (Q : Exit → Act → World → Prop) (c : List Value) (ds : List (Option Tmp)) (ol : List (Nat × Value)) (w0 : World) (a0 : Act) : List Oper → List Value → List (List Nat) → Prop
  | o :: r, x :: xs, js :: fs => (∀ (t : Array Value) (w : World), Grow w0 w → ∀ K : Act → World → Prop, (∀ w', Grow w w' → K (Act.put ⟨t, a0.defers⟩ o.dst x) w') →
      OV t ol (FV t ds c js (if Region.wanted o (yielded ops t) = true then o.wp P ⟨t, a0.defers⟩ w K Q else K (Act.put ⟨t, a0.defers⟩ o.dst undef) w))) ∧ AbsStepsF P ops Q c ds ol w0 a0 r xs fs
  | [], [], [] => True
  | _, _, _ => False
theorem OV.of {tm t : Array Value} {ds : List (Option Tmp)} {g : Prop} (hO : ∀ d v, ds.contains (some d) = false → tm[d]? = some v → t[d]? = some v) : ∀ (ol : List (Nat × Value)), (ol.all fun p => !ds.contains (some p.1)) = true → OL tm ol → OV t ol g → g := by
  intro ol
  induction ol with
  | nil => intro _ _ h; exact h
  | cons p r ih =>
    intro h1 h2 h
    simp only [List.all_cons, Bool.and_eq_true, Bool.not_eq_true'] at h1
    exact ih h1.2 h2.2 (h (hO _ _ h1.1 h2.1))
theorem FV.of {t : Array Value} {ds : List (Option Tmp)} {c : List Value} {o : Oper} {n : Nat} {g : Prop} (hV : ∀ j d, dep o j = true → ds.getD j none = some d → d < n → t[d]? = some (c.getD j undef)) : ∀ (js : List Nat), (js.all fun j => dep o j && (match ds.getD j none with | some d => decide (d < n) | none => false)) = true → FV t ds c js g → g := by
  intro js
  induction js with
  | nil => intro _ h; exact h
  | cons j r ih =>
    intro h1 h
    simp only [List.all_cons, Bool.and_eq_true] at h1
    obtain ⟨⟨h2, h3⟩, h4⟩ := h1
    refine ih h4 (h ?_)
    cases hd : ds.getD j none with
    | none => rw [hd] at h3; cases h3
    | some d => rw [hd] at h3; exact hV j d h2 hd (of_decide_eq_true h3)
theorem AbsStepsF.steps {P : Program} {ops : Array Oper} {Q : Exit → Act → World → Prop} {c : List Value} {ds : List (Option Tmp)} {ol : List (Nat × Value)} {w0 : World} {a0 : Act} (ho : (ol.all fun p => !ds.contains (some p.1)) = true) (hol : OL a0.tmps ol) : ∀ (l : List Oper) (xs : List Value) (fs : List (List Nat)), okF ds a0.tmps.size l fs = true → AbsStepsF P ops Q c ds ol w0 a0 l xs fs → AbsSteps P ops Q c ds w0 a0 l xs := by
  intro l
  induction l with
  | nil =>
    intro xs fs _ h
    cases xs with
    | nil => exact trivial
    | cons x xs => exact h.elim
  | cons o r ih =>
    intro xs fs hk h
    cases xs with
    | nil => exact h.elim
    | cons x xs =>
      cases fs with
      | nil => exact h.elim
      | cons js fs =>
        simp only [okF, Bool.and_eq_true] at hk
        exact ⟨fun t w hT hV hO K hK => FV.of hV js hk.1 (OV.of hO ol ho hol (h.1 t w hT K hK)), ih xs fs hk.2 h.2⟩
def putL : List (Option Tmp) → List Value → Act → Act
  | d :: ds, c :: cs, a => putL ds cs (a.put d c)
  | _, _, a => a
theorem putL_eq (u : Nat → Value) : ∀ (ds : List (Option Tmp)) (c : List Value) (k : Nat) (a : Act), ds.length = c.length → (∀ i, i < c.length → u (k + i) = c.getD i undef) → putAll ds k u a = putL ds c a := by
  intro ds
  induction ds with
  | nil => intro c k a h _; cases c with | nil => rfl | cons x xs => cases h
  | cons d r ih =>
    intro c k a h hu
    cases c with
    | nil => cases h
    | cons x xs =>
      have h0 : u k = x := hu 0 (Nat.zero_lt_succ _)
      show putAll r (k + 1) u (a.put d (u k)) = putL r xs (a.put d x)
      rw [h0]
      refine ih xs (k + 1) _ (Nat.succ.inj h) fun i hi => ?_
      have := hu (i + 1) (Nat.succ_lt_succ hi)
      rw [show k + 1 + i = k + (i + 1) by omega]
      exact this
theorem AbsStepsF.len {P : Program} {ops : Array Oper} {Q : Exit → Act → World → Prop} {c : List Value} {ds : List (Option Tmp)} {ol : List (Nat × Value)} {w0 : World} {a0 : Act} : ∀ (l : List Oper) (xs : List Value) (fs : List (List Nat)), AbsStepsF P ops Q c ds ol w0 a0 l xs fs → l.length = xs.length := by
  intro l
  induction l with
  | nil => intro xs fs h; cases xs with | nil => rfl | cons x xs => cases fs <;> exact h.elim
  | cons o r ih =>
    intro xs fs h
    cases xs with
    | nil => cases fs <;> exact h.elim
    | cons x xs =>
      cases fs with
      | nil => exact h.elim
      | cons js fs => rw [List.length_cons, List.length_cons, ih xs fs h.2]
/-- The rule with what each operation waits for as a list: one tactic serves all operations that only read. -/
theorem wp_reg_f {P : Program} {l : List Oper} {Q : Exit → Act → World → Prop} {id : Nat} {a : Act} {w : World} (ds : List (Option Tmp)) (c : List Value) (fs : List (List Nat)) (ol : List (Nat × Value)) (hol : OL a.tmps ol) (hds : l.map (·.dst) = ds) (hm : P.follows .mixedOrders = true)
    (hd : distinct ds = true) (hf : fwdFrom l 0 = true) (hk : okF ds a.tmps.size l fs = true) (ho : (ol.all fun p => !ds.contains (some p.1)) = true) (hsteps : AbsStepsF P l.toArray Q c ds ol w.drew a l c fs)
    (hpost : ∀ w', Below w.heap.size w w' → Q .normal (putL ds c a) w') : (Code.region id l.toArray true).wp P Q a w :=
  wp_reg_abs ds c hds hm hd hf (hsteps.steps ho hol l c fs hk) fun w' hb => by
    rw [putL_eq _ ds c 0 a (by rw [← hds, List.length_map]; exact hsteps.len) fun i _ => by rw [Nat.zero_add]]
    exact hpost w' hb
set_option linter.unusedSimpArgs false
set_option linter.unusedVariables false
set_option linter.unusedSectionVars false
open Go.RowKit

abbrev VP := Value → World → Prop
abbrev isV (c : Value) : VP := fun v _ => v = c
def anyV : VP := fun _ _ => True
def RelStep (P : Program) (ops : Array Oper) (Q : Exit → Act → World → Prop) (c : List VP) (ds : List (Option Tmp)) (w0 : World) (a0 : Act) (o : Oper) (x : VP) : Prop :=
  ∀ (u : Nat → Value) (w : World), Grow w0 w → (∀ j, dep o j = true → c.getD j anyV (u j) w) →
    ∀ K : Act → World → Prop, (∀ v w', Grow w w' → x v w' → K ((putAll ds 0 u a0).put o.dst v) w') →
      if Region.wanted o (yielded ops (putAll ds 0 u a0).tmps) = true then o.wp P (putAll ds 0 u a0) w K Q else K ((putAll ds 0 u a0).put o.dst undef) w
def RelSteps (P : Program) (ops : Array Oper) (Q : Exit → Act → World → Prop) (c : List VP) (ds : List (Option Tmp)) (w0 : World) (a0 : Act) : List Oper → List VP → Prop
  | o :: r, x :: xs => RelStep P ops Q c ds w0 a0 o x ∧ RelSteps P ops Q c ds w0 a0 r xs
  | [], [] => True
  | _, _ => False
theorem RelSteps.get {P : Program} {ops : Array Oper} {Q : Exit → Act → World → Prop} {c : List VP} {ds : List (Option Tmp)} {w0 : World} {a0 : Act} : ∀ (l : List Oper) (xs : List VP), RelSteps P ops Q c ds w0 a0 l xs → ∀ i o, l[i]? = some o → RelStep P ops Q c ds w0 a0 o (xs.getD i anyV) := by
  intro l
  induction l with
  | nil => intro xs _ i o h; simp at h
  | cons o r ih =>
    intro xs h i o' ho
    cases xs with
    | nil => exact h.elim
    | cons x xs =>
      cases i with
      | zero => simp at ho; subst ho; exact h.1
      | succ i => exact ih xs h.2 i o' (by simpa using ho)
set_option linter.unusedSimpArgs false
set_option linter.unusedVariables false
set_option linter.unusedSectionVars false
open Go.RowKit

section
variable {P : Program} {ops : Array Oper} {Q : Exit → Act → World → Prop}
/-- What is listed is listed with all that it waits for. -/
def ClosedL (ops : Array Oper) (listed : Array Bool) : Prop := ∀ i o, ops[i]? = some o → listed.getD i true = true → ∀ j, dep o j = true → j < ops.size → listed.getD j true = true
/-- Each operation of an is waited for by s or by another one of an. -/
def ancB (ops : Array Oper) (s : Nat) (an : List Nat) : Bool := an.all fun i => (s :: an).any fun k => match ops[k]? with | some o => dep o i | none => false
theorem dep_lt (hf : forward ops = true) {k i : Nat} {o : Oper} (ho : ops[k]? = some o) (h : dep o i = true) : i < k := by
  unfold dep at h
  rw [List.any_eq_true] at h
  obtain ⟨e, he, hb⟩ := h
  simp only [Bool.and_eq_true, beq_iff_eq] at hb
  have := fwdFrom_get _ _ hf k o (by simpa using ho) e (by simpa using he) hb.1
  omega
theorem anc_listed (hf : forward ops = true) {s : Nat} {an : List Nat} (ha : ancB ops s an = true) {listed : Array Bool} (hc : ClosedL ops listed) (hs : ∀ o, ops[s]? = some o → ∀ j, dep o j = true → j < ops.size → listed.getD j true = true) :
    ∀ n i, ops.size - i ≤ n → i ∈ an → i < ops.size → listed.getD i true = true := by
  intro n
  induction n with
  | zero => intro i h1 _ h3; omega
  | succ n ih =>
    intro i h1 h2 h3
    unfold ancB at ha
    rw [List.all_eq_true] at ha
    have h4 := ha i h2
    rw [List.any_eq_true] at h4
    obtain ⟨k, hk, hd⟩ := h4
    cases ho : ops[k]? with
    | none => rw [ho] at hd; cases hd
    | some o =>
      rw [ho] at hd
      have hd : dep o i = true := hd
      have hik := dep_lt hf ho hd
      have hks : k < ops.size := (Array.getElem?_eq_some_iff.1 ho).1
      rcases List.mem_cons.1 hk with rfl | hk
      · exact hs o ho i hd h3
      · exact hc k o ho (ih k (by omega) hk hks) i hd h3

theorem reg_two (an : List Nat) (u0 : Nat → Value) (V W : Nat → Value → World → Prop) (E : (Nat → Value) → World → Prop) (hEc : ∀ u u' w, (∀ j, j ∈ an → u j = u' j) → E u w → E u' w) (s : Nat) (T : World → World → Prop) (ht : ∀ a b c, T a b → T b c → T a c) (hV : ∀ i v w w', V i v w → T w w' → V i v w')
    (hd : distinct (dsts ops) = true) (hf : forward ops = true) (hsl : s < ops.size) (ha : ancB ops s an = true) (hsan : s ∉ an) {a0 : Act} {w0 : World}
    (hpre : ∀ i, i < ops.size → i ≠ s → ∀ o, ops[i]? = some o → dep o s = false → ∀ (u : Nat → Value) (w : World), T w0 w → (∀ j, dep o j = true → V j (u j) w) → (∀ j oj, ops[j]? = some oj → dep oj s = true → u j = u0 j) →
      ∀ K : Act → World → Prop, (∀ v w', T w w' → V i v w' → K ((putAll (dsts ops) 0 u a0).put o.dst v) w') →
        if Region.wanted o (yielded ops (putAll (dsts ops) 0 u a0).tmps) = true then o.wp P (putAll (dsts ops) 0 u a0) w K Q else K ((putAll (dsts ops) 0 u a0).put o.dst undef) w)
    (hs1 : ∀ o, ops[s]? = some o → ∀ (u : Nat → Value) (w : World), T w0 w → (∀ j, j < ops.size → j ∈ an → V j (u j) w) → (∀ j oj, ops[j]? = some oj → dep oj s = true → u j = u0 j) →
      ∀ K : Act → World → Prop, (∀ v w', E u w' → W s v w' → K ((putAll (dsts ops) 0 u a0).put o.dst v) w') →
        if Region.wanted o (yielded ops (putAll (dsts ops) 0 u a0).tmps) = true then o.wp P (putAll (dsts ops) 0 u a0) w K Q else K ((putAll (dsts ops) 0 u a0).put o.dst undef) w)
    (hVW : ∀ j v w w', j ≠ s → V j v w → W j v w')
    (hlate : ∀ i, i < ops.size → i ≠ s → i ∉ an → ∀ o, ops[i]? = some o → ∀ (u : Nat → Value) (w : World), E u w → (∀ j, dep o j = true → W j (u j) w) →
      ∀ K : Act → World → Prop, (∀ v, W i v w → K ((putAll (dsts ops) 0 u a0).put o.dst v) w) →
        if Region.wanted o (yielded ops (putAll (dsts ops) 0 u a0).tmps) = true then o.wp P (putAll (dsts ops) 0 u a0) w K Q else K ((putAll (dsts ops) 0 u a0).put o.dst undef) w)
    (hpost : ∀ (u : Nat → Value) (w : World), E u w → (∀ i, i < ops.size → W i (u i) w) → Q .normal (putAll (dsts ops) 0 u a0) w) :
    ∀ (fuel : Nat) (listed : Array Bool) (u : Nat → Value) (w : World), listed.size = ops.size → ((List.range ops.size).filter fun j => !listed.getD j true).length ≤ fuel → ClosedL ops listed →
      (listed.getD s true = false → T w0 w ∧ (∀ i, i < ops.size → listed.getD i true = true → V i (u i) w) ∧ ∀ i, i < ops.size → listed.getD i true = false → u i = u0 i) →
      (listed.getD s true = true → E u w ∧ ∀ i, i < ops.size → listed.getD i true = true → W i (u i) w) → wpAny P .any ops Q fuel listed (putAll (dsts ops) 0 u a0) w := by
  intro fuel
  have hall : ∀ (listed : Array Bool) (u : Nat → Value) (w : World), listed.size = ops.size →
      (listed.getD s true = true → E u w ∧ ∀ i, i < ops.size → listed.getD i true = true → W i (u i) w) → Region.ready .any ops listed = [] → Q .normal (putAll (dsts ops) 0 u a0) w := by
    intro listed u w hs hl hr
    have hdone : ∀ i, i < ops.size → listed.getD i true = true := by
      intro i hi
      cases hb : listed.getD i true with
      | true => rfl
      | false =>
        obtain ⟨j, hj⟩ := least_ready hf hs i hi hb
        rw [hr] at hj; simp at hj
    have h9 := hl (hdone s hsl)
    exact hpost u w h9.1 fun i hi => h9.2 i hi (hdone i hi)
  induction fuel with
  | zero =>
    intro listed u w hs hc _ _ hl
    have hr : Region.ready .any ops listed = [] := by
      cases hr : Region.ready .any ops listed with
      | nil => rfl
      | cons j r =>
        exfalso
        have hj : j ∈ Region.ready .any ops listed := by rw [hr]; simp
        rw [mem_ready] at hj
        obtain ⟨h0, o, ho, _⟩ := hj
        have hjl : j < ops.size := (Array.getElem?_eq_some_iff.1 ho).1
        have : j ∈ (List.range ops.size).filter fun j => !listed.getD j true := by
          rw [List.mem_filter]; exact ⟨List.mem_range.2 hjl, by rw [h0]; rfl⟩
        rw [List.eq_nil_of_length_eq_zero (Nat.le_zero.1 hc)] at this
        simp at this
    exact ⟨hr, hall listed u w hs hl hr⟩
  | succ fuel ih =>
    intro listed u w hs hc hcl hl1 hl2
    refine ⟨hall listed u w hs hl2, fun i hi => ?_⟩
    rw [mem_ready] at hi
    obtain ⟨h0, o, ho, hready⟩ := hi
    have hil : i < ops.size := (Array.getElem?_eq_some_iff.1 ho).1
    have hdi := dsts_get ho
    have hlen : i < (dsts ops).length := by simpa [dsts] using hil
    have hdep : ∀ j, dep o j = true → j < ops.size → listed.getD j true = true := by
      intro j hj hjs
      unfold dep at hj
      rw [List.any_eq_true] at hj
      obtain ⟨e, he, hb⟩ := hj
      have he : e ∈ o.after := by simpa using he
      simp only [Bool.and_eq_true, beq_iff_eq] at hb
      have h1 := hready e he hb.1
      rw [hb.2] at h1
      have hjs : j < listed.size := by omega
      simpa [Array.getD, hjs] using h1
    have hcl' : ClosedL ops (listed.setIfInBounds i true) := by
      intro k ok hok hk j hj hjs
      by_cases e : j = i
      · subst e
        simp [Array.getD, hs, hjs]
      · rw [getD_set_ne true (fun e' => e e'.symm)]
        by_cases e2 : k = i
        · subst e2
          rw [ho] at hok
          injection hok with hok
          subst hok
          exact hdep j hj hjs
        · rw [getD_set_ne true (fun e' => e2 e'.symm)] at hk
          exact hcl k ok hok hk j hj hjs
    have hcnt : ((List.range ops.size).filter fun j => !(listed.setIfInBounds i true).getD j true).length ≤ fuel := by have := count_set hil h0 hs; omega
    have hsz : (listed.setIfInBounds i true).size = ops.size := by simpa using hs
    have hdl : ∀ j, dep o j = true → j < ops.size := fun j hj => by have := dep_lt hf ho hj; omega
    have hget : (listed.setIfInBounds i true).getD i true = true := by simp [Array.getD, hs, hil]
    have hbe : listed.getD s true = false → ∀ j oj, ops[j]? = some oj → dep oj s = true → j < ops.size ∧ listed.getD j true = false := by
      intro hph j oj hoj hds
      have hjl : j < ops.size := (Array.getElem?_eq_some_iff.1 hoj).1
      refine ⟨hjl, ?_⟩
      cases hb : listed.getD j true with
      | false => rfl
      | true =>
        have := hcl j oj hoj hb s hds hsl
        rw [hph] at this; cases this
    by_cases his : i = s
    · subst his
      have hpreF := hl1 h0
      have hs' := hs1 o ho u w hpreF.1 (fun j hj hja => hpreF.2.1 j hj (anc_listed hf ha hcl (fun o' ho' j hj hjs => by
          rw [ho] at ho'
          injection ho' with ho'
          subst ho'
          exact hdep j hj hjs) _ j (Nat.le_refl _) hja hj)) (fun j oj hoj hds => by have h9 := hbe h0 j oj hoj hds; exact hpreF.2.2 j h9.1 h9.2) (wpAny P .any ops Q fuel (listed.setIfInBounds i true)) (fun v w' hE hW => by
        rw [← hdi, putAll_upd _ 0 i u a0 v hd hlen, Nat.zero_add]
        refine ih _ _ _ hsz hcnt hcl' (fun h => by rw [hget] at h; cases h) fun _ => ⟨hEc _ _ _ (fun j hj => (upd_ne u v (fun e => hsan (by rw [← e]; exact hj))).symm) hE, fun j hj hlj => ?_⟩
        by_cases e : j = i
        · subst e; rw [upd_same]; exact hW
        · rw [upd_ne _ _ e]
          rw [getD_set_ne true (fun e' => e e'.symm)] at hlj
          exact hVW j _ w w' e (hpreF.2.1 j hj hlj))
      unfold wpOp
      rw [ho]
      simp only
      split
      · rename_i hw'; rw [if_pos hw'] at hs'; exact .inl hs'
      · rename_i hw'; rw [if_neg hw'] at hs'; exact hs'
    · have hgs : (listed.setIfInBounds i true).getD s true = listed.getD s true := getD_set_ne true his
      cases hph : listed.getD s true with
      | false =>
        have hpreF := hl1 hph
        have hds : dep o s = false := by
          cases hb : dep o s with
          | false => rfl
          | true =>
            have := hdep s hb hsl
            rw [hph] at this; cases this
        have hs' := hpre i hil his o ho hds u w hpreF.1 (fun j hj => hpreF.2.1 j (hdl j hj) (hdep j hj (hdl j hj))) (fun j oj hoj hds => by have h9 := hbe hph j oj hoj hds; exact hpreF.2.2 j h9.1 h9.2) (wpAny P .any ops Q fuel (listed.setIfInBounds i true)) (fun v w' hww hv => by
          rw [← hdi, putAll_upd _ 0 i u a0 v hd hlen, Nat.zero_add]
          refine ih _ _ _ hsz hcnt hcl' (fun _ => ⟨ht _ _ _ hpreF.1 hww, fun j hj hlj => ?_, fun j hj hlj => ?_⟩) fun h => by rw [hgs, hph] at h; cases h
          · by_cases e : j = i
            · subst e; rw [upd_same]; exact hv
            · rw [upd_ne _ _ e]
              rw [getD_set_ne true (fun e' => e e'.symm)] at hlj
              exact hV j _ _ _ (hpreF.2.1 j hj hlj) hww
          · by_cases e : j = i
            · subst e; rw [hget] at hlj; cases hlj
            · rw [upd_ne _ _ e]
              rw [getD_set_ne true (fun e' => e e'.symm)] at hlj
              exact hpreF.2.2 j hj hlj)
        unfold wpOp
        rw [ho]
        simp only
        split
        · rename_i hw'; rw [if_pos hw'] at hs'; exact .inl hs'
        · rename_i hw'; rw [if_neg hw'] at hs'; exact hs'
      | true =>
        have hlateF := hl2 hph
        have hnan : i ∉ an := by
          intro hia
          have := anc_listed hf ha hcl (fun o' ho' j hj hjs => hcl s o' ho' hph j hj hjs) _ i (Nat.le_refl _) hia hil
          rw [h0] at this; cases this
        have hs' := hlate i hil his hnan o ho u w hlateF.1 (fun j hj => hlateF.2 j (hdl j hj) (hdep j hj (hdl j hj))) (wpAny P .any ops Q fuel (listed.setIfInBounds i true)) (fun v hv => by
          rw [← hdi, putAll_upd _ 0 i u a0 v hd hlen, Nat.zero_add]
          refine ih _ _ _ hsz hcnt hcl' (fun h => by rw [hgs, hph] at h; cases h) fun _ => ⟨hEc _ _ _ (fun j hj => (upd_ne u v (fun e => hnan (by rw [← e]; exact hj))).symm) hlateF.1, fun j hj hlj => ?_⟩
          by_cases e : j = i
          · subst e; rw [upd_same]; exact hv
          · rw [upd_ne _ _ e]
            rw [getD_set_ne true (fun e' => e e'.symm)] at hlj
            exact hlateF.2 j hj hlj)
        unfold wpOp
        rw [ho]
        simp only
        split
        · rename_i hw'; rw [if_pos hw'] at hs'; exact .inl hs'
        · rename_i hw'; rw [if_neg hw'] at hs'; exact hs'
end

/-- What the frame holds of the operations that o waits for. -/
def DepF (ds : List (Option Tmp)) (a0 : Act) (V : Nat → VP) (D : Nat → Prop) (t : Array Value) (w : World) : Prop := ∀ j d, D j → ds.getD j none = some d → d < a0.tmps.size → ∃ v, t[d]? = some v ∧ V j v w
def OldF (Wr : Nat → Prop) (a0 : Act) (t : Array Value) : Prop := ∀ d v, Wr d → a0.tmps[d]? = some v → t[d]? = some v
theorem DepF.g {ds : List (Option Tmp)} {a0 : Act} {V : Nat → VP} {D : Nat → Prop} {t : Array Value} {w : World} (h : DepF ds a0 V D t w) (j d : Nat) (hj : D j) (hd : ds.getD j none = some d) (hs : decide (d < a0.tmps.size) = true) : ∃ v, t[d]? = some v ∧ V j v w := h j d hj hd (of_decide_eq_true hs)
/-- Slots that no operation of the region writes; and those that one writes which waits for s. -/
def notIn (ds : List (Option Tmp)) (d : Nat) : Prop := ds.contains (some d) = false
def notYet (ops : Array Oper) (ds : List (Option Tmp)) (s d : Nat) : Prop := ds.contains (some d) = false ∨ ∃ j o, ops[j]? = some o ∧ dep o s = true ∧ ds.getD j none = some d
/-- The values of operations out of the frame. -/
def fval (ds : List (Option Tmp)) (t : Array Value) (j : Nat) : Value := t.getD ((ds.getD j none).getD 0) undef
/-- An operation ahead of s. -/
def StPre (P : Program) (ops : Array Oper) (Q : Exit → Act → World → Prop) (V : List VP) (Wr : Nat → Prop) (ds : List (Option Tmp)) (w0 : World) (a0 : Act) (o : Oper) (x : VP) : Prop :=
  ∀ (t : Array Value) (w : World), Grow w0 w → DepF ds a0 (fun j => V.getD j anyV) (fun j => dep o j = true) t w → OldF Wr a0 t →
    ∀ K : Act → World → Prop, (∀ v w', Grow w w' → x v w' → K (Act.put ⟨t, a0.defers⟩ o.dst v) w') →
      if Region.wanted o (yielded ops t) = true then o.wp P ⟨t, a0.defers⟩ w K Q else K (Act.put ⟨t, a0.defers⟩ o.dst undef) w
def StOne (P : Program) (ops : Array Oper) (Q : Exit → Act → World → Prop) (V : List VP) (Wr : Nat → Prop) (an : List Nat) (ds : List (Option Tmp)) (w0 : World) (a0 : Act) (E : (Nat → Value) → World → Prop) (o : Oper) (x : VP) : Prop :=
  ∀ (t : Array Value) (w : World), Grow w0 w → DepF ds a0 (fun j => V.getD j anyV) (fun j => j ∈ an) t w → OldF Wr a0 t →
    ∀ K : Act → World → Prop, (∀ v w', E (fval ds t) w' → x v w' → K (Act.put ⟨t, a0.defers⟩ o.dst v) w') →
      if Region.wanted o (yielded ops t) = true then o.wp P ⟨t, a0.defers⟩ w K Q else K (Act.put ⟨t, a0.defers⟩ o.dst undef) w
/-- What is known of a value behind s: of one that s waited for, what was known before. -/
def lateV (V W : List VP) (an : List Nat) (j : Nat) (v : Value) (w : World) : Prop := if j ∈ an then ∃ w1, V.getD j anyV v w1 else W.getD j anyV v w
def StLate (P : Program) (ops : Array Oper) (Q : Exit → Act → World → Prop) (V W : List VP) (an : List Nat) (ds : List (Option Tmp)) (a0 : Act) (o : Oper) (x : VP) : Prop :=
  ∀ (t : Array Value) (w : World), DepF ds a0 (lateV V W an) (fun j => dep o j = true) t w → OldF (notIn ds) a0 t →
    ∀ K : Act → World → Prop, (∀ v, x v w → K (Act.put ⟨t, a0.defers⟩ o.dst v) w) →
      if Region.wanted o (yielded ops t) = true then o.wp P ⟨t, a0.defers⟩ w K Q else K (Act.put ⟨t, a0.defers⟩ o.dst undef) w
/-- All operations, in the text's order. -/
def StAll (P : Program) (ops : Array Oper) (Q : Exit → Act → World → Prop) (V W : List VP) (s : Nat) (an : List Nat) (ds : List (Option Tmp)) (w0 : World) (a0 : Act) (E : (Nat → Value) → World → Prop) : Nat → List Oper → List VP → List VP → Prop
  | k, o :: r, x :: xs, y :: ys => (if k = s then StOne P ops Q V (notYet ops ds s) an ds w0 a0 E o y else (if dep o s = true then True else StPre P ops Q V (notYet ops ds s) ds w0 a0 o x) ∧ (if an.contains k then True else StLate P ops Q V W an ds a0 o y)) ∧ StAll P ops Q V W s an ds w0 a0 E (k + 1) r xs ys
  | _, [], [], [] => True
  | _, _, _, _ => False
theorem StAll.get {P : Program} {ops : Array Oper} {Q : Exit → Act → World → Prop} {V W : List VP} {s : Nat} {an : List Nat} {ds : List (Option Tmp)} {w0 : World} {a0 : Act} {E : (Nat → Value) → World → Prop} : ∀ (l : List Oper) (xs ys : List VP) (k : Nat), StAll P ops Q V W s an ds w0 a0 E k l xs ys → ∀ i o, l[i]? = some o →
    if k + i = s then StOne P ops Q V (notYet ops ds s) an ds w0 a0 E o (ys.getD i anyV) else (if dep o s = true then True else StPre P ops Q V (notYet ops ds s) ds w0 a0 o (xs.getD i anyV)) ∧ (if an.contains (k + i) then True else StLate P ops Q V W an ds a0 o (ys.getD i anyV)) := by
  intro l
  induction l with
  | nil => intro xs ys k _ i o h; simp at h
  | cons o r ih =>
    intro xs ys k h i o' ho
    cases xs with
    | nil => cases ys <;> exact h.elim
    | cons x xs =>
      cases ys with
      | nil => exact h.elim
      | cons y ys =>
        cases i with
        | zero => simp at ho; subst ho; exact h.1
        | succ i =>
          have := ih xs ys (k + 1) h.2 i o' (by simpa using ho)
          have e : k + 1 + i = k + (i + 1) := by omega
          rw [e] at this
          exact this
theorem frame_of (ds : List (Option Tmp)) (u : Nat → Value) (a0 : Act) : putAll ds 0 u a0 = ⟨(putAll ds 0 u a0).tmps, a0.defers⟩ := by rw [← putAll_defers ds 0 u a0]
theorem depF_of {ds : List (Option Tmp)} {a0 : Act} {V : Nat → VP} {D : Nat → Prop} {u : Nat → Value} {w : World} (hd : distinct ds = true) (h : ∀ j, D j → V j (u j) w) : DepF ds a0 V D (putAll ds 0 u a0).tmps w := by
  intro j d hj hjd hs
  have h1 := putAll_new ds 0 u a0 j d hd hjd hs
  rw [Nat.zero_add] at h1
  exact ⟨u j, by rw [← h1]; exact get_some (by rw [putAll_size]; exact hs), h j hj⟩
theorem oldF_of {ds : List (Option Tmp)} {a0 : Act} {u : Nat → Value} : OldF (notIn ds) a0 (putAll ds 0 u a0).tmps := by
  intro d v hd' hv
  have hs : d < a0.tmps.size := (Array.getElem?_eq_some_iff.1 hv).1
  have h1 := putAll_old ds 0 u a0 d (by intro hm; unfold notIn at hd'; simp [hm] at hd')
  have h2 : a0.tmps.getD d undef = v := by simp [Array.getD_eq_getD_getElem?, hv]
  rw [h2] at h1
  rw [← h1]
  exact get_some (by rw [putAll_size]; exact hs)
theorem lateV.pre {V W : List VP} {an : List Nat} {j : Nat} {v : Value} {w : World} (h : lateV V W an j v w) (hj : j ∈ an) : ∃ w1, V.getD j anyV v w1 := by unfold lateV at h; rwa [if_pos hj] at h
theorem lateV.late {V W : List VP} {an : List Nat} {j : Nat} {v : Value} {w : World} (h : lateV V W an j v w) (hj : j ∉ an) : W.getD j anyV v w := by unfold lateV at h; rwa [if_neg hj] at h
theorem oldY_of {ops : Array Oper} {ds : List (Option Tmp)} {s : Nat} {a0 : Act} {u u0 : Nat → Value} (hd : distinct ds = true) (hu0 : putAll ds 0 u0 a0 = a0) (hu : ∀ j o, ops[j]? = some o → dep o s = true → u j = u0 j) : OldF (notYet ops ds s) a0 (putAll ds 0 u a0).tmps := by
  intro d v hw hv
  rcases hw with hw | ⟨j, o, ho, hds, hj⟩
  · exact oldF_of d v hw hv
  · have hs : d < a0.tmps.size := (Array.getElem?_eq_some_iff.1 hv).1
    have h1 := putAll_new ds 0 u a0 j d hd hj hs
    have h2 := putAll_new ds 0 u0 a0 j d hd hj hs
    rw [Nat.zero_add, hu j o ho hds] at h1
    rw [Nat.zero_add, hu0] at h2
    have h3 : a0.tmps.getD d undef = v := by simp [Array.getD_eq_getD_getElem?, hv]
    rw [h3] at h2
    rw [← h2] at h1
    rw [← h1]
    exact get_some (by rw [putAll_size]; exact hs)
/-- THE RULE. W: what is known behind s of the operations that s does not wait for, and of s. -/
theorem wp_reg_st {P : Program} {l : List Oper} {Q : Exit → Act → World → Prop} {id : Nat} {a : Act} {w : World} (ds : List (Option Tmp)) (V W : List VP) (s : Nat) (an : List Nat) (E : (Nat → Value) → World → Prop) (hds : l.map (·.dst) = ds) (hm : P.follows .mixedOrders = true)
    (hd : distinct ds = true) (hf : fwdFrom l 0 = true) (hsl : s < l.length) (ha : ancB l.toArray s an = true) (hsz : (an.all fun j => match ds.getD j none with | some d => decide (d < a.tmps.size) | none => true) = true) (hEc : ∀ u u' w, (∀ j, j ∈ an → (ds.getD j none).isSome = true → u j = u' j) → E u w → E u' w)
    (hkeep : ∀ i v w w', V.getD i anyV v w → Grow w w' → V.getD i anyV v w') (hVW : ∀ j v w w', j ∉ an → j ≠ s → V.getD j anyV v w → W.getD j anyV v w')
    (hsteps : StAll P l.toArray Q V W s an ds w.drew a E 0 l V W)
    (hpost : ∀ u w', E u w' → (∀ i, i < l.length → lateV V W an i (u i) w') → Q .normal (putAll ds 0 u a) w') : (Code.region id l.toArray true).wp P Q a w := by
  have hds' : dsts l.toArray = ds := hds
  subst hds'
  refine wp_region_any hm ?_
  obtain ⟨u, hu⟩ := putAll_self (dsts l.toArray) 0 a
  have hstep : ∀ i o, l.toArray[i]? = some o → _ := fun i o ho => hsteps.get l V W 0 i o (by simpa using ho)
  have := reg_two (P := P) (ops := l.toArray) (Q := Q) an u (fun i v w => V.getD i anyV v w) (lateV V W an) E (fun u u' w h => hEc u u' w fun j hj _ => h j hj) s Grow Grow.trans hkeep hd hf (by simpa using hsl) ha (fun hsa => absurd rfl (anc_ne hf ha s hsa)) (a0 := a) (w0 := w.drew)
    (fun i hi his o ho hds u' w hT hV hU K hK => by
      have h1 := hstep i o ho
      rw [Nat.zero_add, if_neg his, if_neg (by simp [hds])] at h1
      have := h1.1 (putAll (dsts l.toArray) 0 u' a).tmps w hT (depF_of hd hV) (oldY_of hd hu hU) K (by rw [← frame_of]; exact hK)
      rw [← frame_of] at this
      exact this)
    (fun o ho u' w hT hV hU K hK => by
      have h1 := hstep s o ho
      rw [Nat.zero_add, if_pos rfl] at h1
      have hol : s < l.length := hsl
      have := h1 (putAll (dsts l.toArray) 0 u' a).tmps w hT (by
          intro j d hj hjd hs
          have hjl : j < l.length := by
            rcases Nat.lt_or_ge j l.length with h | h
            · exact h
            · have e : (dsts l.toArray).length ≤ j := by simpa [dsts] using h
              rw [List.getD_eq_getElem?_getD, List.getElem?_eq_none e] at hjd
              cases hjd
          exact depF_of (D := fun j => j ∈ an ∧ j < l.length) hd (fun j hj => hV j (by simpa using hj.2) hj.1) j d ⟨hj, hjl⟩ hjd hs) (oldY_of hd hu hU) K (fun v w' hE hW => by
          rw [← frame_of]
          refine hK v w' (hEc _ _ _ (fun j hj hsome => ?_) hE) ?_
          · obtain ⟨d, hd9⟩ := Option.isSome_iff_exists.1 hsome
            have h5 := List.all_eq_true.1 hsz j hj
            rw [hd9] at h5
            have h6 := putAll_new (dsts l.toArray) 0 u' a j d hd hd9 (by simpa using h5)
            rw [Nat.zero_add] at h6
            unfold fval
            rw [hd9]
            exact h6
          unfold lateV
          by_cases hsa : s ∈ an
          · exfalso
            have h4 := ha
            unfold ancB at h4
            rw [List.all_eq_true] at h4
            exact absurd rfl (anc_ne hf ha s hsa)
          · rw [if_neg hsa]; exact hW)
      rw [← frame_of] at this
      exact this)
    (fun j v w w' hjs hV => by
      unfold lateV
      by_cases hja : j ∈ an
      · rw [if_pos hja]; exact ⟨w, hV⟩
      · rw [if_neg hja]; exact hVW j v w w' hja hjs hV)
    (fun i hi his hia o ho u w hE hW K hK => by
      have h1 := hstep i o ho
      have hc : an.contains i = false := by simpa using hia
      rw [Nat.zero_add, if_neg his, hc] at h1
      have := h1.2 (putAll (dsts l.toArray) 0 u a).tmps w (depF_of hd hW) oldF_of K (by
        rw [← frame_of]
        intro v hv
        refine hK v ?_
        unfold lateV
        rw [if_neg hia]; exact hv)
      rw [← frame_of] at this
      exact this)
    (fun u w' hE hW => hpost u w' hE (fun i hi => hW i (by simpa using hi)))
    l.toArray.size (Array.replicate l.toArray.size false) u w.drew (by simp) (by
      have := List.length_filter_le (fun j => !(Array.replicate l.toArray.size false).getD j true) (List.range l.toArray.size)
      simpa using this) (fun i o ho h => by
        have hi : i < l.toArray.size := (Array.getElem?_eq_some_iff.1 ho).1
        simp [Array.getD, (by simpa using hi : i < l.length)] at h) (fun _ => ⟨Grow.refl _, fun i hi h => by simp [Array.getD, (by simpa using hi : i < l.length)] at h, fun _ _ _ => rfl⟩) (fun h => by simp [Array.getD, (by simpa using hsl : s < l.length)] at h)
  rw [hu] at this
  exact this
where
  anc_ne {l : List Oper} {s : Nat} {an : List Nat} (hf : fwdFrom l 0 = true) (ha : ancB l.toArray s an = true) : ∀ i, i ∈ an → i ≠ s := by
    have key : ∀ n i, l.length - i ≤ n → i ∈ an → i < s := by
      intro n
      induction n with
      | zero =>
        intro i h1 h2
        have h4 := ha
        unfold ancB at h4
        rw [List.all_eq_true] at h4
        have h5 := h4 i h2
        rw [List.any_eq_true] at h5
        obtain ⟨k, hk, hd⟩ := h5
        cases ho : l.toArray[k]? with
        | none => rw [ho] at hd; cases hd
        | some o =>
          rw [ho] at hd
          have := dep_lt (ops := l.toArray) hf ho hd
          have hkl : k < l.toArray.size := (Array.getElem?_eq_some_iff.1 ho).1
          have : k < l.length := by simpa using hkl
          omega
      | succ n ih =>
        intro i h1 h2
        have h4 := ha
        unfold ancB at h4
        rw [List.all_eq_true] at h4
        have h5 := h4 i h2
        rw [List.any_eq_true] at h5
        obtain ⟨k, hk, hd⟩ := h5
        cases ho : l.toArray[k]? with
        | none => rw [ho] at hd; cases hd
        | some o =>
          rw [ho] at hd
          have h6 := dep_lt (ops := l.toArray) hf ho hd
          rcases List.mem_cons.1 hk with rfl | hk
          · exact h6
          · have := ih k (by omega) hk
            omega
    intro i hi e
    have := key _ i (Nat.le_refl _) hi
    omega
set_option linter.unusedSimpArgs false
set_option linter.unusedVariables false
set_option linter.unusedSectionVars false
open Go.RowKit

def RaAll (P : Program) (ops : Array Oper) (Q : Exit → Act → World → Prop) (V : List VP) (ds : List (Option Tmp)) (w0 : World) (a0 : Act) : List Oper → List VP → Prop
  | o :: r, x :: xs => StPre P ops Q V (notIn ds) ds w0 a0 o x ∧ RaAll P ops Q V ds w0 a0 r xs
  | [], [] => True
  | _, _ => False
theorem RaAll.get {P : Program} {ops : Array Oper} {Q : Exit → Act → World → Prop} {V : List VP} {ds : List (Option Tmp)} {w0 : World} {a0 : Act} : ∀ (l : List Oper) (xs : List VP), RaAll P ops Q V ds w0 a0 l xs → ∀ i o, l[i]? = some o → StPre P ops Q V (notIn ds) ds w0 a0 o (xs.getD i anyV) := by
  intro l
  induction l with
  | nil => intro xs _ i o h; simp at h
  | cons o r ih =>
    intro xs h i o' ho
    cases xs with
    | nil => exact h.elim
    | cons x xs =>
      cases i with
      | zero => simp at ho; subst ho; exact h.1
      | succ i => exact ih xs h.2 i o' (by simpa using ho)
theorem wp_reg_ra {P : Program} {l : List Oper} {Q : Exit → Act → World → Prop} {id : Nat} {a : Act} {w : World} (ds : List (Option Tmp)) (V : List VP) (hds : l.map (·.dst) = ds) (hm : P.follows .mixedOrders = true)
    (hd : distinct ds = true) (hf : fwdFrom l 0 = true) (hkeep : ∀ i v w w', V.getD i anyV v w → Grow w w' → V.getD i anyV v w') (hsteps : RaAll P l.toArray Q V ds w.drew a l V)
    (hpost : ∀ u w', Below w.heap.size w w' → (∀ i, i < l.length → V.getD i anyV (u i) w') → Q .normal (putAll ds 0 u a) w') : (Code.region id l.toArray true).wp P Q a w := by
  have hds' : dsts l.toArray = ds := hds
  subst hds'
  refine wp_reg (fun i v w => V.getD i anyV v w) Grow hm Grow.refl Grow.trans hkeep hd hf ?_ fun u w' hT hu => ?_
  · have key : ∀ n, n ≤ l.toArray.size → RegSteps P l.toArray Q (fun i v w => V.getD i anyV v w) Grow w.drew a n := by
      intro n
      induction n with
      | zero => exact fun _ => trivial
      | succ n ih =>
        intro hn
        refine ⟨ih (by omega), fun o ho u w hT hV K hK => ?_⟩
        have := (hsteps.get l V n o (by simpa using ho)) (putAll (dsts l.toArray) 0 u a).tmps w hT (depF_of hd hV) oldF_of K (by rw [← frame_of]; exact hK)
        rw [← frame_of] at this
        exact this
    exact key _ (Nat.le_refl _)
  · exact hpost u w' hT.below (fun i hi => hu i (by simpa using hi))
end Go.Proofs.YtfenjklilocjgaaGreatDoor
