/- The rule for drawn regions in which ONE operation (place s) writes to memory that was there: the operations that it waits for come before it, the others are quiet. The frame is opaque. No program in sight. -/
import Derived.Test.YtofijnhkoadfjaaReg3
namespace Go.Proofs.Ytofijnhkoadfjaa
set_option linter.unusedSimpArgs false
set_option linter.unusedVariables false
set_option linter.unusedSectionVars false
open Go.RowKit

section
variable {P : Program} {ops : Array Oper} {Q : Exit → Act → World → Prop}
/-- What is listed is listed with all that it waits for. -/
def ClosedL (ops : Array Oper) (listed : Array Bool) : Prop := ∀ i o, ops[i]? = some o → listed.getD i true = true → ∀ j, dep o j = true → j < ops.size → listed.getD j true = true
/-- Each operation of an is waited for by s or by another one of an. -/
def ancB (ops : Array Oper) (s : Nat) (an : List Nat) : Bool := an.all fun i => (s :: an).any fun k => match ops[k]? with | some o => dep o i | none => false
theorem dep_lt (hf : forward ops = true) {k i : Nat} {o : Oper} (ho : ops[k]? = some o) (h : dep o i = true) : i < k := by
  unfold dep at h
  rw [List.any_eq_true] at h
  obtain ⟨e, he, hb⟩ := h
  simp only [Bool.and_eq_true, beq_iff_eq] at hb
  have := fwdFrom_get _ _ hf k o (by simpa using ho) e (by simpa using he) hb.1
  omega
theorem anc_listed (hf : forward ops = true) {s : Nat} {an : List Nat} (ha : ancB ops s an = true) {listed : Array Bool} (hc : ClosedL ops listed) (hs : ∀ o, ops[s]? = some o → ∀ j, dep o j = true → j < ops.size → listed.getD j true = true) :
    ∀ n i, ops.size - i ≤ n → i ∈ an → i < ops.size → listed.getD i true = true := by
  intro n
  induction n with
  | zero => intro i h1 _ h3; omega
  | succ n ih =>
    intro i h1 h2 h3
    unfold ancB at ha
    rw [List.all_eq_true] at ha
    have h4 := ha i h2
    rw [List.any_eq_true] at h4
    obtain ⟨k, hk, hd⟩ := h4
    cases ho : ops[k]? with
    | none => rw [ho] at hd; cases hd
    | some o =>
      rw [ho] at hd
      have hd : dep o i = true := hd
      have hik := dep_lt hf ho hd
      have hks : k < ops.size := (Array.getElem?_eq_some_iff.1 ho).1
      rcases List.mem_cons.1 hk with rfl | hk
      · exact hs o ho i hd h3
      · exact hc k o ho (ih k (by omega) hk hks) i hd h3

theorem reg_two (an : List Nat) (u0 : Nat → Value) (V W : Nat → Value → World → Prop) (E : (Nat → Value) → World → Prop) (hEc : ∀ u u' w, (∀ j, j ∈ an → u j = u' j) → E u w → E u' w) (s : Nat) (T : World → World → Prop) (ht : ∀ a b c, T a b → T b c → T a c) (hV : ∀ i v w w', V i v w → T w w' → V i v w')
    (hd : distinct (dsts ops) = true) (hf : forward ops = true) (hsl : s < ops.size) (ha : ancB ops s an = true) (hsan : s ∉ an) {a0 : Act} {w0 : World}
    (hpre : ∀ i, i < ops.size → i ≠ s → ∀ o, ops[i]? = some o → dep o s = false → ∀ (u : Nat → Value) (w : World), T w0 w → (∀ j, dep o j = true → V j (u j) w) → (∀ j oj, ops[j]? = some oj → dep oj s = true → u j = u0 j) →
      ∀ K : Act → World → Prop, (∀ v w', T w w' → V i v w' → K ((putAll (dsts ops) 0 u a0).put o.dst v) w') →
        if Region.wanted o (yielded ops (putAll (dsts ops) 0 u a0).tmps) = true then o.wp P (putAll (dsts ops) 0 u a0) w K Q else K ((putAll (dsts ops) 0 u a0).put o.dst undef) w)
    (hs1 : ∀ o, ops[s]? = some o → ∀ (u : Nat → Value) (w : World), T w0 w → (∀ j, j < ops.size → j ∈ an → V j (u j) w) → (∀ j oj, ops[j]? = some oj → dep oj s = true → u j = u0 j) →
      ∀ K : Act → World → Prop, (∀ v w', E u w' → W s v w' → K ((putAll (dsts ops) 0 u a0).put o.dst v) w') →
        if Region.wanted o (yielded ops (putAll (dsts ops) 0 u a0).tmps) = true then o.wp P (putAll (dsts ops) 0 u a0) w K Q else K ((putAll (dsts ops) 0 u a0).put o.dst undef) w)
    (hVW : ∀ j v w w', j ≠ s → V j v w → W j v w')
    (hlate : ∀ i, i < ops.size → i ≠ s → i ∉ an → ∀ o, ops[i]? = some o → ∀ (u : Nat → Value) (w : World), E u w → (∀ j, dep o j = true → W j (u j) w) →
      ∀ K : Act → World → Prop, (∀ v, W i v w → K ((putAll (dsts ops) 0 u a0).put o.dst v) w) →
        if Region.wanted o (yielded ops (putAll (dsts ops) 0 u a0).tmps) = true then o.wp P (putAll (dsts ops) 0 u a0) w K Q else K ((putAll (dsts ops) 0 u a0).put o.dst undef) w)
    (hpost : ∀ (u : Nat → Value) (w : World), E u w → (∀ i, i < ops.size → W i (u i) w) → Q .normal (putAll (dsts ops) 0 u a0) w) :
    ∀ (fuel : Nat) (listed : Array Bool) (u : Nat → Value) (w : World), listed.size = ops.size → ((List.range ops.size).filter fun j => !listed.getD j true).length ≤ fuel → ClosedL ops listed →
      (listed.getD s true = false → T w0 w ∧ (∀ i, i < ops.size → listed.getD i true = true → V i (u i) w) ∧ ∀ i, i < ops.size → listed.getD i true = false → u i = u0 i) →
      (listed.getD s true = true → E u w ∧ ∀ i, i < ops.size → listed.getD i true = true → W i (u i) w) → wpAny P .any ops Q fuel listed (putAll (dsts ops) 0 u a0) w := by
  intro fuel
  have hall : ∀ (listed : Array Bool) (u : Nat → Value) (w : World), listed.size = ops.size →
      (listed.getD s true = true → E u w ∧ ∀ i, i < ops.size → listed.getD i true = true → W i (u i) w) → Region.ready .any ops listed = [] → Q .normal (putAll (dsts ops) 0 u a0) w := by
    intro listed u w hs hl hr
    have hdone : ∀ i, i < ops.size → listed.getD i true = true := by
      intro i hi
      cases hb : listed.getD i true with
      | true => rfl
      | false =>
        obtain ⟨j, hj⟩ := least_ready hf hs i hi hb
        rw [hr] at hj; simp at hj
    have h9 := hl (hdone s hsl)
    exact hpost u w h9.1 fun i hi => h9.2 i hi (hdone i hi)
  induction fuel with
  | zero =>
    intro listed u w hs hc _ _ hl
    have hr : Region.ready .any ops listed = [] := by
      cases hr : Region.ready .any ops listed with
      | nil => rfl
      | cons j r =>
        exfalso
        have hj : j ∈ Region.ready .any ops listed := by rw [hr]; simp
        rw [mem_ready] at hj
        obtain ⟨h0, o, ho, _⟩ := hj
        have hjl : j < ops.size := (Array.getElem?_eq_some_iff.1 ho).1
        have : j ∈ (List.range ops.size).filter fun j => !listed.getD j true := by
          rw [List.mem_filter]; exact ⟨List.mem_range.2 hjl, by rw [h0]; rfl⟩
        rw [List.eq_nil_of_length_eq_zero (Nat.le_zero.1 hc)] at this
        simp at this
    exact ⟨hr, hall listed u w hs hl hr⟩
  | succ fuel ih =>
    intro listed u w hs hc hcl hl1 hl2
    refine ⟨hall listed u w hs hl2, fun i hi => ?_⟩
    rw [mem_ready] at hi
    obtain ⟨h0, o, ho, hready⟩ := hi
    have hil : i < ops.size := (Array.getElem?_eq_some_iff.1 ho).1
    have hdi := dsts_get ho
    have hlen : i < (dsts ops).length := by simpa [dsts] using hil
    have hdep : ∀ j, dep o j = true → j < ops.size → listed.getD j true = true := by
      intro j hj hjs
      unfold dep at hj
      rw [List.any_eq_true] at hj
      obtain ⟨e, he, hb⟩ := hj
      have he : e ∈ o.after := by simpa using he
      simp only [Bool.and_eq_true, beq_iff_eq] at hb
      have h1 := hready e he hb.1
      rw [hb.2] at h1
      have hjs : j < listed.size := by omega
      simpa [Array.getD, hjs] using h1
    have hcl' : ClosedL ops (listed.setIfInBounds i true) := by
      intro k ok hok hk j hj hjs
      by_cases e : j = i
      · subst e
        simp [Array.getD, hs, hjs]
      · rw [getD_set_ne true (fun e' => e e'.symm)]
        by_cases e2 : k = i
        · subst e2
          rw [ho] at hok
          injection hok with hok
          subst hok
          exact hdep j hj hjs
        · rw [getD_set_ne true (fun e' => e2 e'.symm)] at hk
          exact hcl k ok hok hk j hj hjs
    have hcnt : ((List.range ops.size).filter fun j => !(listed.setIfInBounds i true).getD j true).length ≤ fuel := by have := count_set hil h0 hs; omega
    have hsz : (listed.setIfInBounds i true).size = ops.size := by simpa using hs
    have hdl : ∀ j, dep o j = true → j < ops.size := fun j hj => by have := dep_lt hf ho hj; omega
    have hget : (listed.setIfInBounds i true).getD i true = true := by simp [Array.getD, hs, hil]
    have hbe : listed.getD s true = false → ∀ j oj, ops[j]? = some oj → dep oj s = true → j < ops.size ∧ listed.getD j true = false := by
      intro hph j oj hoj hds
      have hjl : j < ops.size := (Array.getElem?_eq_some_iff.1 hoj).1
      refine ⟨hjl, ?_⟩
      cases hb : listed.getD j true with
      | false => rfl
      | true =>
        have := hcl j oj hoj hb s hds hsl
        rw [hph] at this; cases this
    by_cases his : i = s
    · subst his
      have hpreF := hl1 h0
      have hs' := hs1 o ho u w hpreF.1 (fun j hj hja => hpreF.2.1 j hj (anc_listed hf ha hcl (fun o' ho' j hj hjs => by
          rw [ho] at ho'
          injection ho' with ho'
          subst ho'
          exact hdep j hj hjs) _ j (Nat.le_refl _) hja hj)) (fun j oj hoj hds => by have h9 := hbe h0 j oj hoj hds; exact hpreF.2.2 j h9.1 h9.2) (wpAny P .any ops Q fuel (listed.setIfInBounds i true)) (fun v w' hE hW => by
        rw [← hdi, putAll_upd _ 0 i u a0 v hd hlen, Nat.zero_add]
        refine ih _ _ _ hsz hcnt hcl' (fun h => by rw [hget] at h; cases h) fun _ => ⟨hEc _ _ _ (fun j hj => (upd_ne u v (fun e => hsan (by rw [← e]; exact hj))).symm) hE, fun j hj hlj => ?_⟩
        by_cases e : j = i
        · subst e; rw [upd_same]; exact hW
        · rw [upd_ne _ _ e]
          rw [getD_set_ne true (fun e' => e e'.symm)] at hlj
          exact hVW j _ w w' e (hpreF.2.1 j hj hlj))
      unfold wpOp
      rw [ho]
      simp only
      split
      · rename_i hw'; rw [if_pos hw'] at hs'; exact .inl hs'
      · rename_i hw'; rw [if_neg hw'] at hs'; exact hs'
    · have hgs : (listed.setIfInBounds i true).getD s true = listed.getD s true := getD_set_ne true his
      cases hph : listed.getD s true with
      | false =>
        have hpreF := hl1 hph
        have hds : dep o s = false := by
          cases hb : dep o s with
          | false => rfl
          | true =>
            have := hdep s hb hsl
            rw [hph] at this; cases this
        have hs' := hpre i hil his o ho hds u w hpreF.1 (fun j hj => hpreF.2.1 j (hdl j hj) (hdep j hj (hdl j hj))) (fun j oj hoj hds => by have h9 := hbe hph j oj hoj hds; exact hpreF.2.2 j h9.1 h9.2) (wpAny P .any ops Q fuel (listed.setIfInBounds i true)) (fun v w' hww hv => by
          rw [← hdi, putAll_upd _ 0 i u a0 v hd hlen, Nat.zero_add]
          refine ih _ _ _ hsz hcnt hcl' (fun _ => ⟨ht _ _ _ hpreF.1 hww, fun j hj hlj => ?_, fun j hj hlj => ?_⟩) fun h => by rw [hgs, hph] at h; cases h
          · by_cases e : j = i
            · subst e; rw [upd_same]; exact hv
            · rw [upd_ne _ _ e]
              rw [getD_set_ne true (fun e' => e e'.symm)] at hlj
              exact hV j _ _ _ (hpreF.2.1 j hj hlj) hww
          · by_cases e : j = i
            · subst e; rw [hget] at hlj; cases hlj
            · rw [upd_ne _ _ e]
              rw [getD_set_ne true (fun e' => e e'.symm)] at hlj
              exact hpreF.2.2 j hj hlj)
        unfold wpOp
        rw [ho]
        simp only
        split
        · rename_i hw'; rw [if_pos hw'] at hs'; exact .inl hs'
        · rename_i hw'; rw [if_neg hw'] at hs'; exact hs'
      | true =>
        have hlateF := hl2 hph
        have hnan : i ∉ an := by
          intro hia
          have := anc_listed hf ha hcl (fun o' ho' j hj hjs => hcl s o' ho' hph j hj hjs) _ i (Nat.le_refl _) hia hil
          rw [h0] at this; cases this
        have hs' := hlate i hil his hnan o ho u w hlateF.1 (fun j hj => hlateF.2 j (hdl j hj) (hdep j hj (hdl j hj))) (wpAny P .any ops Q fuel (listed.setIfInBounds i true)) (fun v hv => by
          rw [← hdi, putAll_upd _ 0 i u a0 v hd hlen, Nat.zero_add]
          refine ih _ _ _ hsz hcnt hcl' (fun h => by rw [hgs, hph] at h; cases h) fun _ => ⟨hEc _ _ _ (fun j hj => (upd_ne u v (fun e => hnan (by rw [← e]; exact hj))).symm) hlateF.1, fun j hj hlj => ?_⟩
          by_cases e : j = i
          · subst e; rw [upd_same]; exact hv
          · rw [upd_ne _ _ e]
            rw [getD_set_ne true (fun e' => e e'.symm)] at hlj
            exact hlateF.2 j hj hlj)
        unfold wpOp
        rw [ho]
        simp only
        split
        · rename_i hw'; rw [if_pos hw'] at hs'; exact .inl hs'
        · rename_i hw'; rw [if_neg hw'] at hs'; exact hs'
end

/-- What the frame holds of the operations that o waits for. -/
def DepF (ds : List (Option Tmp)) (a0 : Act) (V : Nat → VP) (D : Nat → Prop) (t : Array Value) (w : World) : Prop := ∀ j d, D j → ds.getD j none = some d → d < a0.tmps.size → ∃ v, t[d]? = some v ∧ V j v w
def OldF (Wr : Nat → Prop) (a0 : Act) (t : Array Value) : Prop := ∀ d v, Wr d → a0.tmps[d]? = some v → t[d]? = some v
/-- Slots that no operation of the region writes; and those that one writes which waits for s. -/
def notIn (ds : List (Option Tmp)) (d : Nat) : Prop := ds.contains (some d) = false
def notYet (ops : Array Oper) (ds : List (Option Tmp)) (s d : Nat) : Prop := ds.contains (some d) = false ∨ ∃ j o, ops[j]? = some o ∧ dep o s = true ∧ ds.getD j none = some d
/-- The values of operations out of the frame. -/
def fval (ds : List (Option Tmp)) (t : Array Value) (j : Nat) : Value := t.getD ((ds.getD j none).getD 0) undef
theorem fval_of {ds : List (Option Tmp)} {t : Array Value} {j d : Nat} {v : Value} (h : t[d]? = some v) (hd : ds.getD j none = some d) : fval ds t j = v := by
  unfold fval
  rw [hd]
  simp [Array.getD_eq_getD_getElem?, h]
/-- An operation ahead of s. -/
def StPre (P : Program) (ops : Array Oper) (Q : Exit → Act → World → Prop) (V : List VP) (Wr : Nat → Prop) (ds : List (Option Tmp)) (w0 : World) (a0 : Act) (o : Oper) (x : VP) : Prop :=
  ∀ (t : Array Value) (w : World), Grow w0 w → DepF ds a0 (fun j => V.getD j anyV) (fun j => dep o j = true) t w → OldF Wr a0 t →
    ∀ K : Act → World → Prop, (∀ v w', Grow w w' → x v w' → K (Act.put ⟨t, a0.defers⟩ o.dst v) w') →
      if Region.wanted o (yielded ops t) = true then o.wp P ⟨t, a0.defers⟩ w K Q else K (Act.put ⟨t, a0.defers⟩ o.dst undef) w
def StOne (P : Program) (ops : Array Oper) (Q : Exit → Act → World → Prop) (V : List VP) (Wr : Nat → Prop) (an : List Nat) (ds : List (Option Tmp)) (w0 : World) (a0 : Act) (E : (Nat → Value) → World → Prop) (o : Oper) (x : VP) : Prop :=
  ∀ (t : Array Value) (w : World), Grow w0 w → DepF ds a0 (fun j => V.getD j anyV) (fun j => j ∈ an) t w → OldF Wr a0 t →
    ∀ K : Act → World → Prop, (∀ v w', E (fval ds t) w' → x v w' → K (Act.put ⟨t, a0.defers⟩ o.dst v) w') →
      if Region.wanted o (yielded ops t) = true then o.wp P ⟨t, a0.defers⟩ w K Q else K (Act.put ⟨t, a0.defers⟩ o.dst undef) w
/-- What is known of a value behind s: of one that s waited for, what was known before. -/
def lateV (V W : List VP) (an : List Nat) (j : Nat) (v : Value) (w : World) : Prop := if j ∈ an then ∃ w1, V.getD j anyV v w1 else W.getD j anyV v w
def StLate (P : Program) (ops : Array Oper) (Q : Exit → Act → World → Prop) (V W : List VP) (an : List Nat) (ds : List (Option Tmp)) (a0 : Act) (o : Oper) (x : VP) : Prop :=
  ∀ (t : Array Value) (w : World), DepF ds a0 (lateV V W an) (fun j => dep o j = true) t w → OldF (notIn ds) a0 t →
    ∀ K : Act → World → Prop, (∀ v, x v w → K (Act.put ⟨t, a0.defers⟩ o.dst v) w) →
      if Region.wanted o (yielded ops t) = true then o.wp P ⟨t, a0.defers⟩ w K Q else K (Act.put ⟨t, a0.defers⟩ o.dst undef) w
/-- All operations, in the text's order. -/
def StAll (P : Program) (ops : Array Oper) (Q : Exit → Act → World → Prop) (V W : List VP) (s : Nat) (an : List Nat) (ds : List (Option Tmp)) (w0 : World) (a0 : Act) (E : (Nat → Value) → World → Prop) : Nat → List Oper → List VP → List VP → Prop
  | k, o :: r, x :: xs, y :: ys => (if k = s then StOne P ops Q V (notYet ops ds s) an ds w0 a0 E o y else (if dep o s = true then True else StPre P ops Q V (notYet ops ds s) ds w0 a0 o x) ∧ (if an.contains k then True else StLate P ops Q V W an ds a0 o y)) ∧ StAll P ops Q V W s an ds w0 a0 E (k + 1) r xs ys
  | _, [], [], [] => True
  | _, _, _, _ => False
theorem StAll.get {P : Program} {ops : Array Oper} {Q : Exit → Act → World → Prop} {V W : List VP} {s : Nat} {an : List Nat} {ds : List (Option Tmp)} {w0 : World} {a0 : Act} {E : (Nat → Value) → World → Prop} : ∀ (l : List Oper) (xs ys : List VP) (k : Nat), StAll P ops Q V W s an ds w0 a0 E k l xs ys → ∀ i o, l[i]? = some o →
    if k + i = s then StOne P ops Q V (notYet ops ds s) an ds w0 a0 E o (ys.getD i anyV) else (if dep o s = true then True else StPre P ops Q V (notYet ops ds s) ds w0 a0 o (xs.getD i anyV)) ∧ (if an.contains (k + i) then True else StLate P ops Q V W an ds a0 o (ys.getD i anyV)) := by
  intro l
  induction l with
  | nil => intro xs ys k _ i o h; simp at h
  | cons o r ih =>
    intro xs ys k h i o' ho
    cases xs with
    | nil => cases ys <;> exact h.elim
    | cons x xs =>
      cases ys with
      | nil => exact h.elim
      | cons y ys =>
        cases i with
        | zero => simp at ho; subst ho; exact h.1
        | succ i =>
          have := ih xs ys (k + 1) h.2 i o' (by simpa using ho)
          have e : k + 1 + i = k + (i + 1) := by omega
          rw [e] at this
          exact this
theorem frame_of (ds : List (Option Tmp)) (u : Nat → Value) (a0 : Act) : putAll ds 0 u a0 = ⟨(putAll ds 0 u a0).tmps, a0.defers⟩ := by rw [← putAll_defers ds 0 u a0]
theorem depF_of {ds : List (Option Tmp)} {a0 : Act} {V : Nat → VP} {D : Nat → Prop} {u : Nat → Value} {w : World} (hd : distinct ds = true) (h : ∀ j, D j → V j (u j) w) : DepF ds a0 V D (putAll ds 0 u a0).tmps w := by
  intro j d hj hjd hs
  have h1 := putAll_new ds 0 u a0 j d hd hjd hs
  rw [Nat.zero_add] at h1
  exact ⟨u j, by rw [← h1]; exact get_some (by rw [putAll_size]; exact hs), h j hj⟩
theorem oldF_of {ds : List (Option Tmp)} {a0 : Act} {u : Nat → Value} : OldF (notIn ds) a0 (putAll ds 0 u a0).tmps := by
  intro d v hd' hv
  have hs : d < a0.tmps.size := (Array.getElem?_eq_some_iff.1 hv).1
  have h1 := putAll_old ds 0 u a0 d (by intro hm; unfold notIn at hd'; simp [hm] at hd')
  have h2 : a0.tmps.getD d undef = v := by simp [Array.getD_eq_getD_getElem?, hv]
  rw [h2] at h1
  rw [← h1]
  exact get_some (by rw [putAll_size]; exact hs)
theorem lateV.pre {V W : List VP} {an : List Nat} {j : Nat} {v : Value} {w : World} (h : lateV V W an j v w) (hj : j ∈ an) : ∃ w1, V.getD j anyV v w1 := by unfold lateV at h; rwa [if_pos hj] at h
theorem lateV.late {V W : List VP} {an : List Nat} {j : Nat} {v : Value} {w : World} (h : lateV V W an j v w) (hj : j ∉ an) : W.getD j anyV v w := by unfold lateV at h; rwa [if_neg hj] at h
theorem oldY_of {ops : Array Oper} {ds : List (Option Tmp)} {s : Nat} {a0 : Act} {u u0 : Nat → Value} (hd : distinct ds = true) (hu0 : putAll ds 0 u0 a0 = a0) (hu : ∀ j o, ops[j]? = some o → dep o s = true → u j = u0 j) : OldF (notYet ops ds s) a0 (putAll ds 0 u a0).tmps := by
  intro d v hw hv
  rcases hw with hw | ⟨j, o, ho, hds, hj⟩
  · exact oldF_of d v hw hv
  · have hs : d < a0.tmps.size := (Array.getElem?_eq_some_iff.1 hv).1
    have h1 := putAll_new ds 0 u a0 j d hd hj hs
    have h2 := putAll_new ds 0 u0 a0 j d hd hj hs
    rw [Nat.zero_add, hu j o ho hds] at h1
    rw [Nat.zero_add, hu0] at h2
    have h3 : a0.tmps.getD d undef = v := by simp [Array.getD_eq_getD_getElem?, hv]
    rw [h3] at h2
    rw [← h2] at h1
    rw [← h1]
    exact get_some (by rw [putAll_size]; exact hs)
/-- THE RULE. W: what is known behind s of the operations that s does not wait for, and of s. -/
theorem wp_reg_st {P : Program} {l : List Oper} {Q : Exit → Act → World → Prop} {id : Nat} {a : Act} {w : World} (ds : List (Option Tmp)) (V W : List VP) (s : Nat) (an : List Nat) (E : (Nat → Value) → World → Prop) (hds : l.map (·.dst) = ds) (hm : P.follows .mixedOrders = true)
    (hd : distinct ds = true) (hf : fwdFrom l 0 = true) (hsl : s < l.length) (ha : ancB l.toArray s an = true) (hsz : (an.all fun j => match ds.getD j none with | some d => decide (d < a.tmps.size) | none => true) = true) (hEc : ∀ u u' w, (∀ j, j ∈ an → (ds.getD j none).isSome = true → u j = u' j) → E u w → E u' w)
    (hkeep : ∀ i v w w', V.getD i anyV v w → Grow w w' → V.getD i anyV v w') (hVW : ∀ j v w w', j ∉ an → j ≠ s → V.getD j anyV v w → W.getD j anyV v w')
    (hsteps : StAll P l.toArray Q V W s an ds w.drew a E 0 l V W)
    (hpost : ∀ u w', E u w' → (∀ i, i < l.length → lateV V W an i (u i) w') → Q .normal (putAll ds 0 u a) w') : (Code.region id l.toArray true).wp P Q a w := by
  have hds' : dsts l.toArray = ds := hds
  subst hds'
  refine wp_region_any hm ?_
  obtain ⟨u, hu⟩ := putAll_self (dsts l.toArray) 0 a
  have hstep : ∀ i o, l.toArray[i]? = some o → _ := fun i o ho => hsteps.get l V W 0 i o (by simpa using ho)
  have := reg_two (P := P) (ops := l.toArray) (Q := Q) an u (fun i v w => V.getD i anyV v w) (lateV V W an) E (fun u u' w h => hEc u u' w fun j hj _ => h j hj) s Grow Grow.trans hkeep hd hf (by simpa using hsl) ha (fun hsa => absurd rfl (anc_ne hf ha s hsa)) (a0 := a) (w0 := w.drew)
    (fun i hi his o ho hds u' w hT hV hU K hK => by
      have h1 := hstep i o ho
      rw [Nat.zero_add, if_neg his, if_neg (by simp [hds])] at h1
      have := h1.1 (putAll (dsts l.toArray) 0 u' a).tmps w hT (depF_of hd hV) (oldY_of hd hu hU) K (by rw [← frame_of]; exact hK)
      rw [← frame_of] at this
      exact this)
    (fun o ho u' w hT hV hU K hK => by
      have h1 := hstep s o ho
      rw [Nat.zero_add, if_pos rfl] at h1
      have hol : s < l.length := hsl
      have := h1 (putAll (dsts l.toArray) 0 u' a).tmps w hT (by
          intro j d hj hjd hs
          have hjl : j < l.length := by
            rcases Nat.lt_or_ge j l.length with h | h
            · exact h
            · have e : (dsts l.toArray).length ≤ j := by simpa [dsts] using h
              rw [List.getD_eq_getElem?_getD, List.getElem?_eq_none e] at hjd
              cases hjd
          exact depF_of (D := fun j => j ∈ an ∧ j < l.length) hd (fun j hj => hV j (by simpa using hj.2) hj.1) j d ⟨hj, hjl⟩ hjd hs) (oldY_of hd hu hU) K (fun v w' hE hW => by
          rw [← frame_of]
          refine hK v w' (hEc _ _ _ (fun j hj hsome => ?_) hE) ?_
          · obtain ⟨d, hd9⟩ := Option.isSome_iff_exists.1 hsome
            have h5 := List.all_eq_true.1 hsz j hj
            rw [hd9] at h5
            have h6 := putAll_new (dsts l.toArray) 0 u' a j d hd hd9 (by simpa using h5)
            rw [Nat.zero_add] at h6
            unfold fval
            rw [hd9]
            exact h6
          unfold lateV
          by_cases hsa : s ∈ an
          · exfalso
            have h4 := ha
            unfold ancB at h4
            rw [List.all_eq_true] at h4
            exact absurd rfl (anc_ne hf ha s hsa)
          · rw [if_neg hsa]; exact hW)
      rw [← frame_of] at this
      exact this)
    (fun j v w w' hjs hV => by
      unfold lateV
      by_cases hja : j ∈ an
      · rw [if_pos hja]; exact ⟨w, hV⟩
      · rw [if_neg hja]; exact hVW j v w w' hja hjs hV)
    (fun i hi his hia o ho u w hE hW K hK => by
      have h1 := hstep i o ho
      have hc : an.contains i = false := by simpa using hia
      rw [Nat.zero_add, if_neg his, hc] at h1
      have := h1.2 (putAll (dsts l.toArray) 0 u a).tmps w (depF_of hd hW) oldF_of K (by
        rw [← frame_of]
        intro v hv
        refine hK v ?_
        unfold lateV
        rw [if_neg hia]; exact hv)
      rw [← frame_of] at this
      exact this)
    (fun u w' hE hW => hpost u w' hE (fun i hi => hW i (by simpa using hi)))
    l.toArray.size (Array.replicate l.toArray.size false) u w.drew (by simp) (by
      have := List.length_filter_le (fun j => !(Array.replicate l.toArray.size false).getD j true) (List.range l.toArray.size)
      simpa using this) (fun i o ho h => by
        have hi : i < l.toArray.size := (Array.getElem?_eq_some_iff.1 ho).1
        simp [Array.getD, (by simpa using hi : i < l.length)] at h) (fun _ => ⟨Grow.refl _, fun i hi h => by simp [Array.getD, (by simpa using hi : i < l.length)] at h, fun _ _ _ => rfl⟩) (fun h => by simp [Array.getD, (by simpa using hsl : s < l.length)] at h)
  rw [hu] at this
  exact this
where
  anc_ne {l : List Oper} {s : Nat} {an : List Nat} (hf : fwdFrom l 0 = true) (ha : ancB l.toArray s an = true) : ∀ i, i ∈ an → i ≠ s := by
    have key : ∀ n i, l.length - i ≤ n → i ∈ an → i < s := by
      intro n
      induction n with
      | zero =>
        intro i h1 h2
        have h4 := ha
        unfold ancB at h4
        rw [List.all_eq_true] at h4
        have h5 := h4 i h2
        rw [List.any_eq_true] at h5
        obtain ⟨k, hk, hd⟩ := h5
        cases ho : l.toArray[k]? with
        | none => rw [ho] at hd; cases hd
        | some o =>
          rw [ho] at hd
          have := dep_lt (ops := l.toArray) hf ho hd
          have hkl : k < l.toArray.size := (Array.getElem?_eq_some_iff.1 ho).1
          have : k < l.length := by simpa using hkl
          omega
      | succ n ih =>
        intro i h1 h2
        have h4 := ha
        unfold ancB at h4
        rw [List.all_eq_true] at h4
        have h5 := h4 i h2
        rw [List.any_eq_true] at h5
        obtain ⟨k, hk, hd⟩ := h5
        cases ho : l.toArray[k]? with
        | none => rw [ho] at hd; cases hd
        | some o =>
          rw [ho] at hd
          have h6 := dep_lt (ops := l.toArray) hf ho hd
          rcases List.mem_cons.1 hk with rfl | hk
          · exact h6
          · have := ih k (by omega) hk
            omega
    intro i hi e
    have := key _ i (Nat.le_refl _) hi
    omega
end Go.Proofs.Ytofijnhkoadfjaa
