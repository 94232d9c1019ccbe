/- Parts of the proof: Mv, Rgt. No condition of its own. -/
import Derived.Test.YtffldjghdcfpiaaGreatDoorMu
import Derived.Test.YtffldjghdcfpiaaGreatDoorReg
set_option linter.unusedSimpArgs false
set_option linter.unusedVariables false
set_option linter.unusedSectionVars false
namespace Go.Proofs.YtffldjghdcfpiaaGreatDoor
open Go.RowKit Dg

theorem qres_yes {P Q : Nat} (h : 0 < Q) (hf : OkR (rat false P Q)) : ∀ e, QRes P Q e → e = .returned (.tuple #[RV (rat false P Q), .int .i64 0]) := by
  rintro e (⟨h1, _⟩ | ⟨_, h2⟩)
  · omega
  · exact h2.ok hf
theorem few_le {j k : Nat} {x : Rat} (h : Few j x) (hjk : j ≤ k) : Few k x := ⟨Nat.le_trans h.1 hjk, Nat.le_trans h.2 hjk⟩
theorem few_quo {P Q : Nat} (h : 0 < Q) (h1 : P < 10 ^ 70) (h2 : Q < 10 ^ 70) : Few 70 (rat false P Q) := few_rat h (dec_len_le (by decide) h1) (dec_len_le (by decide) h2)
theorem rat_pos' {P Q : Nat} (hp : 0 < P) (hq : 0 < Q) : 0 < rat false P Q := by
  rw [rat_quo, Rat.lt_div_iff (Rat.natCast_pos.2 hq), Rat.zero_mul]; exact Rat.natCast_pos.2 hp
theorem uq_le_succ (i : Int) (k : Nat) : uq i k ≤ uq (i + 1) k := by
  rw [uq_le]; have : (0 : Int) ≤ ((2 ^ k : Nat) : Int) := Int.natCast_nonneg _; exact Int.mul_le_mul_of_nonneg_right (by omega) this
def hiq (x : Rat) (i : Int) (k : Nat) : Rat := if p2 i = x ^ (2 ^ k) then uq i k else uq (i + 1) k
theorem hiq_le (x : Rat) (i : Int) (k : Nat) : uq i k ≤ hiq x i k := by
  unfold hiq
  split
  · exact Rat.le_refl
  · exact uq_le_succ i k
theorem hiq_few {x : Rat} {i : Int} {k : Nat} (h1 : -1000000 ≤ i) (h2 : i ≤ 1000000) (hk : k ≤ 8) : Few 7 (hiq x i k) := by
  unfold hiq
  split
  · exact uq_few (by omega) (by omega) hk
  · exact uq_few (by omega) (by omega) hk
theorem VC.prod {a p q n x y : Nat} (hx : x ≤ 4294967296) (hy : y ≤ 4294967296) : prodN [x, y] < 10 ^ 70 := by
  have h1 : x * y ≤ 4294967296 * 4294967296 := Nat.mul_le_mul hx hy
  simp only [prodN, Nat.mul_one]
  exact Nat.lt_of_le_of_lt h1 (by decide)
theorem mi_yes {a p q n k : Nat} (hv : VC a p q n) (hk : k ≤ 8) (ha : 0 < a) (w0 : World) : ∃ i : Int, IsLog (rat false (prodN [a, n]) (prodN [p, q]) ^ (2 ^ k)) i ∧ -1000000 ≤ i ∧ i ≤ 1000000 ∧
    ∀ w, Tab w → Calls Tryz.prog 15 #[CV a p q n, .int .i64 (k : Int)] w fun e w' => e = .returned (.tuple #[IV (uq i k) (hiq (rat false (prodN [a, n]) (prodN [p, q])) i k), .int .i64 0]) ∧ Below w.heap.size w w' := by
  have h1 := hv.pn; have h2 := hv.qn; have h3 := hv.n2; have h4 := hv.ap; have h5 := hv.aq; have h6 := hv.pq; have h7 := hv.n1
  have hp : 0 < prodN [a, n] := by simp only [prodN, Nat.mul_one]; exact Nat.mul_pos ha (by omega)
  have hq : 0 < prodN [p, q] := by simp only [prodN, Nat.mul_one]; exact Nat.mul_pos (by omega) (by omega)
  have hf := few_quo hq (VC.prod (a := a) (p := p) (q := q) (n := n) (x := a) (y := n) (by omega) (by omega)) (VC.prod (a := a) (p := p) (q := q) (n := n) (x := p) (y := q) (by omega) (by omega)); obtain ⟨i, g1, g2, g3, -, g5⟩ := ebits_yes hf (rat_pos' hp hq) hk w0; exact ⟨i, g1, g2, g3, fun w ht => mi_core _ _ _ _ _ _ _ _ _ hv hk ha (qres_yes hq (hf.ok (by decide))) g5 w ht⟩
open Go.RowKit Dg

theorem dice_le {a p q : Nat} (ha : a ≤ p) (hb : a ≤ q) (h : 0 < p + q) : rat false (prodN [2, a]) (prodN [p + q]) ≤ 1 := by
  rw [rat_quo]
  simp only [prodN, Nat.mul_one]
  have hq : (0 : Rat) < ((p + q : Nat) : Rat) := Rat.natCast_pos.2 h; rw [← Rat.not_lt, Rat.lt_div_iff hq, Rat.one_mul, Rat.natCast_lt_natCast]
  omega
theorem dice_jac {a p q : Nat} (ha : a ≤ p) (hb : a ≤ q) (h : 0 < p + q) : rat false (prodN [2, a]) (prodN [p + q]) / (2 - rat false (prodN [2, a]) (prodN [p + q])) = rat false (prodN [a]) (prodN [p + q - a]) := by
  rw [rat_quo, rat_quo]
  simp only [prodN, Nat.mul_one]
  obtain ⟨s, hs⟩ : ∃ s, p + q = s + a := ⟨p + q - a, by omega⟩; have hsa : p + q - a = s := by omega
  rw [hsa, hs]; have hs0 : (0 : Rat) < (s : Rat) := Rat.natCast_pos.2 (by omega); have ha0 : (0 : Rat) ≤ (a : Rat) := by exact_mod_cast Nat.zero_le a
  have e1 : ((2 * a : Nat) : Rat) = 2 * (a : Rat) := by rw [Rat.natCast_mul]; rfl
  have e2 : ((s + a : Nat) : Rat) = (s : Rat) + (a : Rat) := by rw [Rat.natCast_add]
  rw [e1, e2]; generalize (a : Rat) = x at *; generalize (s : Rat) = y at *; have h1 : y + x ≠ 0 := by grind
  have h2 : y ≠ 0 := by grind
  grind
open Go.RowKit Dg

theorem rv_any {x : Rat} {n : Int} {d : Nat} (hn : x.num = n) (hd : x.den = d) : RV x = .agg #[.bool (decide (n < 0)), .string (S n.natAbs), .string (S d)] := by rw [← hn, ← hd]
theorem s7 : S 7 = ⟨#[55]⟩ := by decide
theorem s2 : S 2 = ⟨#[50]⟩ := by decide
theorem s1 : S 1 = ⟨#[49]⟩ := by decide
open Go.RowKit

def StPreT (T : World → World → Prop) (P : Program) (ops : Array Oper) (Q : Exit → Act → World → Prop) (V : List VP) (Wr : Nat → Prop) (ds : List (Option Tmp)) (w0 : World) (a0 : Act) (o : Oper) (x : VP) : Prop :=
  ∀ (t : Array Value) (w : World), T w0 w → DepF ds a0 (fun j => V.getD j anyV) (fun j => dep o j = true) t w → OldF Wr a0 t →
    ∀ K : Act → World → Prop, (∀ v w', T w w' → x v w' → K (Act.put ⟨t, a0.defers⟩ o.dst v) w') →
      if Region.wanted o (yielded ops t) = true then o.wp P ⟨t, a0.defers⟩ w K Q else K (Act.put ⟨t, a0.defers⟩ o.dst undef) w
def RaAllT (T : World → World → Prop) (P : Program) (ops : Array Oper) (Q : Exit → Act → World → Prop) (V : List VP) (ds : List (Option Tmp)) (w0 : World) (a0 : Act) : List Oper → List VP → Prop
  | o :: r, x :: xs => StPreT T P ops Q V (notIn ds) ds w0 a0 o x ∧ RaAllT T P ops Q V ds w0 a0 r xs
  | [], [] => True
  | _, _ => False
theorem RaAllT.get {T : World → World → Prop} {P : Program} {ops : Array Oper} {Q : Exit → Act → World → Prop} {V : List VP} {ds : List (Option Tmp)} {w0 : World} {a0 : Act} : ∀ (l : List Oper) (xs : List VP), RaAllT T P ops Q V ds w0 a0 l xs → ∀ i o, l[i]? = some o → StPreT T P ops Q V (notIn ds) ds w0 a0 o (xs.getD i anyV) := by
  intro l
  induction l with
  | nil => intro xs _ i o h; simp at h
  | cons o r ih =>
    intro xs h i o' ho
    cases xs with
    | nil => exact h.elim
    | cons x xs =>
      cases i with
      | zero => simp at ho; subst ho; exact h.1
      | succ i => exact ih xs h.2 i o' (by simpa using ho)
def KR (S : Nat → Prop) (I G1 G2 : World → Prop) (w w' : World) : Prop := Chg S w w' ∧ (I w → I w' ∧ (G1 w → G1 w') ∧ (G2 w → G2 w'))
theorem KR.refl {S : Nat → Prop} {I G1 G2 : World → Prop} (w : World) : KR S I G1 G2 w w := ⟨Chg.refl _ _, fun h => ⟨h, id, id⟩⟩
theorem KR.trans {S : Nat → Prop} {I G1 G2 : World → Prop} (a b c : World) (h : KR S I G1 G2 a b) (h' : KR S I G1 G2 b c) : KR S I G1 G2 a c :=
  ⟨h.1.trans h'.1, fun hi => ⟨(h'.2 (h.2 hi).1).1, fun g => (h'.2 (h.2 hi).1).2.1 ((h.2 hi).2.1 g), fun g => (h'.2 (h.2 hi).1).2.2 ((h.2 hi).2.2 g)⟩⟩
open Go.RowKit

def RegStepM (P : Program) (ops : Array Oper) (Q : Exit → Act → World → Prop) (V : Nat → Value → World → Prop) (M : (Nat → Bool) → (Nat → Value) → World → Prop) (T : World → World → Prop) (w0 : World) (a0 : Act) (i : Nat) : Prop :=
  ∀ o, ops[i]? = some o → ∀ (L : Nat → Bool) (u : Nat → Value) (w : World), T w0 w → L i = false → (∀ j, dep o j = true → L j = true ∧ V j (u j) w) → M L u w →
    ∀ K : Act → World → Prop, (∀ v w', T w w' → V i v w' → M (upd L i true) (upd u i v) w' → K ((putAll (dsts ops) 0 u a0).put o.dst v) w') →
      if Region.wanted o (yielded ops (putAll (dsts ops) 0 u a0).tmps) = true then o.wp P (putAll (dsts ops) 0 u a0) w K Q else K ((putAll (dsts ops) 0 u a0).put o.dst undef) w
theorem upd_listed {listed : Array Bool} {i : Nat} (h : i < listed.size) : (fun j => (listed.setIfInBounds i true).getD j true) = upd (fun j => listed.getD j true) i true := by
  funext j
  by_cases e : j = i
  · subst e; rw [upd_same]; simp [Array.getD, h]
  · rw [upd_ne _ _ e, getD_set_ne true (fun e' => e e'.symm)]
theorem reg_anyM {P : Program} {ops : Array Oper} {Q : Exit → Act → World → Prop} (V : Nat → Value → World → Prop) (M : (Nat → Bool) → (Nat → Value) → World → Prop) (T : World → World → Prop) (ht : ∀ a b c, T a b → T b c → T a c) (hV : ∀ i v w w', V i v w → T w w' → V i v w')
    (hd : distinct (dsts ops) = true) (hf : forward ops = true) {a0 : Act} {w0 : World} (hsteps : ∀ i, i < ops.size → RegStepM P ops Q V M T w0 a0 i)
    (hpost : ∀ (u : Nat → Value) (w : World), T w0 w → M (fun _ => true) u w → (∀ i, i < ops.size → V i (u i) w) → Q .normal (putAll (dsts ops) 0 u a0) w) :
    ∀ (fuel : Nat) (listed : Array Bool) (u : Nat → Value) (w : World), listed.size = ops.size → ((List.range ops.size).filter fun j => !listed.getD j true).length ≤ fuel → T w0 w → M (fun j => listed.getD j true) u w →
      (∀ i, i < ops.size → listed.getD i true = true → V i (u i) w) → wpAny P .any ops Q fuel listed (putAll (dsts ops) 0 u a0) w := by
  intro fuel; have hall : ∀ (listed : Array Bool) (u : Nat → Value) (w : World), listed.size = ops.size → T w0 w → M (fun j => listed.getD j true) u w → (∀ i, i < ops.size → listed.getD i true = true → V i (u i) w) → Region.ready .any ops listed = [] → Q .normal (putAll (dsts ops) 0 u a0) w := by
    intro listed u w hs hw hm hl hr; have hal : ∀ i, listed.getD i true = true := by
      intro i
      rcases Nat.lt_or_ge i ops.size with hi | hi
      · cases hb : listed.getD i true with
        | true => rfl
        | false =>
          obtain ⟨j, hj⟩ := least_ready hf hs i hi hb; rw [hr] at hj; simp at hj
      · simp [Array.getD, hs, Nat.not_lt.2 hi]
    have e : (fun j => listed.getD j true) = fun _ => true := funext hal; rw [e] at hm; exact hpost u w hw hm fun i hi => hl i hi (hal i)
  induction fuel with
  | zero =>
    intro listed u w hs hc hw hm hl; have hr : Region.ready .any ops listed = [] := by
      cases hr : Region.ready .any ops listed with
      | nil => rfl
      | cons j r =>
        exfalso
        have hj : j ∈ Region.ready .any ops listed := by rw [hr]; simp
        rw [mem_ready] at hj; obtain ⟨h0, o, ho, _⟩ := hj; have hjl : j < ops.size := (Array.getElem?_eq_some_iff.1 ho).1; have : j ∈ (List.range ops.size).filter fun j => !listed.getD j true := by
          rw [List.mem_filter]; exact ⟨List.mem_range.2 hjl, by rw [h0]; rfl⟩
        rw [List.eq_nil_of_length_eq_zero (Nat.le_zero.1 hc)] at this
        simp at this
    exact ⟨hr, hall listed u w hs hw hm hl hr⟩
  | succ fuel ih =>
    intro listed u w hs hc hw hm hl; refine ⟨hall listed u w hs hw hm hl, fun i hi => ?_⟩; rw [mem_ready] at hi; obtain ⟨h0, o, ho, hpre⟩ := hi; have hil : i < ops.size := (Array.getElem?_eq_some_iff.1 ho).1; have hdi := dsts_get ho; have hlen : i < (dsts ops).length := by simpa [dsts] using hil
    have go : ∀ v w', T w w' → V i v w' → M (upd (fun j => listed.getD j true) i true) (upd u i v) w' → wpAny P .any ops Q fuel (listed.setIfInBounds i true) ((putAll (dsts ops) 0 u a0).put o.dst v) w' := by
      intro v w' hww hv hm'; rw [← hdi, putAll_upd _ 0 i u a0 v hd hlen, Nat.zero_add]; refine ih _ _ _ (by simpa using hs) (by have := count_set hil h0 hs; omega) (ht _ _ _ hw hww) (by rw [upd_listed (by omega)]; exact hm') fun j hj hlj => ?_
      by_cases e : j = i
      · subst e; rw [upd_same]; exact hv
      · rw [upd_ne _ _ e]; rw [getD_set_ne true (fun e' => e e'.symm)] at hlj; exact hV j _ _ _ (hl j hj hlj) hww
    have hs' := hsteps i hil o ho (fun j => listed.getD j true) u w hw h0 (fun j hj => by
      unfold dep at hj; rw [List.any_eq_true] at hj; obtain ⟨e, he, hb⟩ := hj; have he : e ∈ o.after := by simpa using he
      simp only [Bool.and_eq_true, beq_iff_eq] at hb
      have h1 := hpre e he hb.1; rw [hb.2] at h1; have hjs : j < listed.size := by
        rcases Nat.lt_or_ge j listed.size with h | h
        · exact h
        · simp [Array.getD, Nat.not_lt.2 h] at h1
      have h2 : listed.getD j true = true := by simpa [Array.getD, hjs] using h1
      exact ⟨h2, hl j (by omega) h2⟩) hm (wpAny P .any ops Q fuel (listed.setIfInBounds i true)) go
    unfold wpOp; rw [ho]
    simp only
    split
    · rename_i hw'; rw [if_pos hw'] at hs'; exact .inl hs'
    · rename_i hw'; rw [if_neg hw'] at hs'; exact hs'
def StPreM (T : World → World → Prop) (M : (Nat → Bool) → (Nat → Value) → World → Prop) (P : Program) (ops : Array Oper) (Q : Exit → Act → World → Prop) (V : List VP) (Wr : Nat → Prop) (ds : List (Option Tmp)) (w0 : World) (a0 : Act) (i : Nat) (o : Oper) (x : VP) : Prop :=
  ∀ (L : Nat → Bool) (u : Nat → Value) (t : Array Value) (w : World), T w0 w → L i = false → (∀ j, dep o j = true → L j = true) → DepF ds a0 (fun j v w => V.getD j anyV v w ∧ v = u j) (fun j => dep o j = true) t w → OldF Wr a0 t → M L u w →
    ∀ K : Act → World → Prop, (∀ v w', T w w' → x v w' → M (upd L i true) (upd u i v) w' → K (Act.put ⟨t, a0.defers⟩ o.dst v) w') →
      if Region.wanted o (yielded ops t) = true then o.wp P ⟨t, a0.defers⟩ w K Q else K (Act.put ⟨t, a0.defers⟩ o.dst undef) w
def RaAllM (T : World → World → Prop) (M : (Nat → Bool) → (Nat → Value) → World → Prop) (P : Program) (ops : Array Oper) (Q : Exit → Act → World → Prop) (V : List VP) (ds : List (Option Tmp)) (w0 : World) (a0 : Act) : Nat → List Oper → List VP → Prop
  | k, o :: r, x :: xs => StPreM T M P ops Q V (notIn ds) ds w0 a0 k o x ∧ RaAllM T M P ops Q V ds w0 a0 (k + 1) r xs
  | _, [], [] => True
  | _, _, _ => False
theorem RaAllM.get {T : World → World → Prop} {M : (Nat → Bool) → (Nat → Value) → World → Prop} {P : Program} {ops : Array Oper} {Q : Exit → Act → World → Prop} {V : List VP} {ds : List (Option Tmp)} {w0 : World} {a0 : Act} : ∀ (l : List Oper) (xs : List VP) (k : Nat), RaAllM T M P ops Q V ds w0 a0 k l xs → ∀ i o, l[i]? = some o → StPreM T M P ops Q V (notIn ds) ds w0 a0 (k + i) o (xs.getD i anyV) := by
  intro l
  induction l with
  | nil => intro xs k _ i o h; simp at h
  | cons o r ih =>
    intro xs k h i o' ho
    cases xs with
    | nil => exact h.elim
    | cons x xs =>
      cases i with
      | zero => simp at ho; subst ho; exact h.1
      | succ i =>
        have := ih xs (k + 1) h.2 i o' (by simpa using ho); have e : k + 1 + i = k + (i + 1) := by omega
        rw [e] at this; exact this
theorem wp_reg_m (T : World → World → Prop) (M : (Nat → Bool) → (Nat → Value) → World → Prop) (h0 : ∀ w, T w w) (htr : ∀ a b c, T a b → T b c → T a c) {P : Program} {l : List Oper} {Q : Exit → Act → World → Prop} {id : Nat} {a : Act} {w : World} (ds : List (Option Tmp)) (V : List VP) (hds : l.map (·.dst) = ds) (hm : P.follows .mixedOrders = true)
    (hd : distinct ds = true) (hf : fwdFrom l 0 = true) (hM0 : ∀ L u, (∀ j, j < l.length → L j = false) → M L u w.drew) (hkeep : ∀ i v w w', V.getD i anyV v w → T w w' → V.getD i anyV v w') (hsteps : RaAllM T M P l.toArray Q V ds w.drew a 0 l V)
    (hpost : ∀ u w', T w.drew w' → M (fun _ => true) u w' → (∀ i, i < l.length → V.getD i anyV (u i) w') → Q .normal (putAll ds 0 u a) w') : (Code.region id l.toArray true).wp P Q a w := by
  have hds' : dsts l.toArray = ds := hds; subst hds'; refine wp_region_any hm ?_; obtain ⟨u, hu⟩ := putAll_self (dsts l.toArray) 0 a; have := reg_anyM (P := P) (ops := l.toArray) (Q := Q) (fun i v w => V.getD i anyV v w) M T htr hkeep hd hf (a0 := a) (w0 := w.drew) (fun i hi o ho L u w hT hL hD hM K hK => by
      have h1 := hsteps.get l V 0 i o (by simpa using ho); rw [Nat.zero_add] at h1; have := h1 L u (putAll (dsts l.toArray) 0 u a).tmps w hT hL (fun j hj => (hD j hj).1) (depF_of hd fun j hj => ⟨(hD j hj).2, rfl⟩) oldF_of hM K (by rw [← frame_of]; exact hK); rw [← frame_of] at this; exact this)
    (fun u w' hT hM hu => hpost u w' hT hM (fun i hi => hu i (by simpa using hi))) l.toArray.size (Array.replicate l.toArray.size false) u w.drew (by simp) (by
    have := List.length_filter_le (fun j => !(Array.replicate l.toArray.size false).getD j true) (List.range l.toArray.size)
    simpa using this) (h0 _) (hM0 _ _ fun j hj => by
      simp [Array.getD]; exact hj) (fun i hi h => by
      have h2 : i < l.length := by simpa using hi
      simp [Array.getD] at h
      omega)
  rw [hu] at this; exact this
end Go.Proofs.YtffldjghdcfpiaaGreatDoor
