/- Parts of the proof: Rgt, Xb. No condition of its own. -/
import Derived.Test.YtfenjklilocjgaaGreatDoorReg
import Derived.Test.YtfenjklilocjgaaGreatDoorXa
import Derived.Deep.Onto
set_option linter.unusedSimpArgs false
set_option linter.unusedVariables false
set_option linter.unusedSectionVars false
namespace Go.Proofs.YtfenjklilocjgaaGreatDoor
set_option linter.unusedSimpArgs false
set_option linter.unusedVariables false
set_option linter.unusedSectionVars false
open Go.RowKit

def StPreT (T : World → World → Prop) (P : Program) (ops : Array Oper) (Q : Exit → Act → World → Prop) (V : List VP) (Wr : Nat → Prop) (ds : List (Option Tmp)) (w0 : World) (a0 : Act) (o : Oper) (x : VP) : Prop :=
  ∀ (t : Array Value) (w : World), T w0 w → DepF ds a0 (fun j => V.getD j anyV) (fun j => dep o j = true) t w → OldF Wr a0 t →
    ∀ K : Act → World → Prop, (∀ v w', T w w' → x v w' → K (Act.put ⟨t, a0.defers⟩ o.dst v) w') →
      if Region.wanted o (yielded ops t) = true then o.wp P ⟨t, a0.defers⟩ w K Q else K (Act.put ⟨t, a0.defers⟩ o.dst undef) w
def RaAllT (T : World → World → Prop) (P : Program) (ops : Array Oper) (Q : Exit → Act → World → Prop) (V : List VP) (ds : List (Option Tmp)) (w0 : World) (a0 : Act) : List Oper → List VP → Prop
  | o :: r, x :: xs => StPreT T P ops Q V (notIn ds) ds w0 a0 o x ∧ RaAllT T P ops Q V ds w0 a0 r xs
  | [], [] => True
  | _, _ => False
theorem RaAllT.get {T : World → World → Prop} {P : Program} {ops : Array Oper} {Q : Exit → Act → World → Prop} {V : List VP} {ds : List (Option Tmp)} {w0 : World} {a0 : Act} : ∀ (l : List Oper) (xs : List VP), RaAllT T P ops Q V ds w0 a0 l xs → ∀ i o, l[i]? = some o → StPreT T P ops Q V (notIn ds) ds w0 a0 o (xs.getD i anyV) := by
  intro l
  induction l with
  | nil => intro xs _ i o h; simp at h
  | cons o r ih =>
    intro xs h i o' ho
    cases xs with
    | nil => exact h.elim
    | cons x xs =>
      cases i with
      | zero => simp at ho; subst ho; exact h.1
      | succ i => exact ih xs h.2 i o' (by simpa using ho)
theorem wp_reg_t (T : World → World → Prop) (h0 : ∀ w, T w w) (htr : ∀ a b c, T a b → T b c → T a c) {P : Program} {l : List Oper} {Q : Exit → Act → World → Prop} {id : Nat} {a : Act} {w : World} (ds : List (Option Tmp)) (V : List VP) (hds : l.map (·.dst) = ds) (hm : P.follows .mixedOrders = true)
    (hd : distinct ds = true) (hf : fwdFrom l 0 = true) (hkeep : ∀ i v w w', V.getD i anyV v w → T w w' → V.getD i anyV v w') (hsteps : RaAllT T P l.toArray Q V ds w.drew a l V)
    (hpost : ∀ u w', T w.drew w' → (∀ i, i < l.length → V.getD i anyV (u i) w') → Q .normal (putAll ds 0 u a) w') : (Code.region id l.toArray true).wp P Q a w := by
  have hds' : dsts l.toArray = ds := hds
  subst hds'
  refine wp_reg (fun i v w => V.getD i anyV v w) T hm h0 htr hkeep hd hf ?_ fun u w' hT hu => ?_
  · have key : ∀ n, n ≤ l.toArray.size → RegSteps P l.toArray Q (fun i v w => V.getD i anyV v w) T w.drew a n := by
      intro n
      induction n with
      | zero => exact fun _ => trivial
      | succ n ih =>
        intro hn
        refine ⟨ih (by omega), fun o ho u w hT hV K hK => ?_⟩
        have := (hsteps.get l V n o (by simpa using ho)) (putAll (dsts l.toArray) 0 u a).tmps w hT (depF_of hd hV) oldF_of K (by rw [← frame_of]; exact hK)
        rw [← frame_of] at this
        exact this
    exact key _ (Nat.le_refl _)
  · exact hpost u w' hT (fun i hi => hu i (by simpa using hi))
/-- A relation that keeps an invariant, and two more facts under it. -/
def KR (S : Nat → Prop) (I G1 G2 : World → Prop) (w w' : World) : Prop := Chg S w w' ∧ (I w → I w' ∧ (G1 w → G1 w') ∧ (G2 w → G2 w'))
theorem KR.refl {S : Nat → Prop} {I G1 G2 : World → Prop} (w : World) : KR S I G1 G2 w w := ⟨Chg.refl _ _, fun h => ⟨h, id, id⟩⟩
theorem KR.trans {S : Nat → Prop} {I G1 G2 : World → Prop} (a b c : World) (h : KR S I G1 G2 a b) (h' : KR S I G1 G2 b c) : KR S I G1 G2 a c :=
  ⟨h.1.trans h'.1, fun hi => ⟨(h'.2 (h.2 hi).1).1, fun g => (h'.2 (h.2 hi).1).2.1 ((h.2 hi).2.1 g), fun g => (h'.2 (h.2 hi).1).2.2 ((h.2 hi).2.2 g)⟩⟩
set_option linter.unusedSimpArgs false
set_option linter.unusedVariables false
set_option linter.unusedSectionVars false
open Go.RowKit

def RegStepM (P : Program) (ops : Array Oper) (Q : Exit → Act → World → Prop) (V : Nat → Value → World → Prop) (M : (Nat → Bool) → (Nat → Value) → World → Prop) (T : World → World → Prop) (w0 : World) (a0 : Act) (i : Nat) : Prop :=
  ∀ o, ops[i]? = some o → ∀ (L : Nat → Bool) (u : Nat → Value) (w : World), T w0 w → L i = false → (∀ j, dep o j = true → L j = true ∧ V j (u j) w) → M L u w →
    ∀ K : Act → World → Prop, (∀ v w', T w w' → V i v w' → M (upd L i true) (upd u i v) w' → K ((putAll (dsts ops) 0 u a0).put o.dst v) w') →
      if Region.wanted o (yielded ops (putAll (dsts ops) 0 u a0).tmps) = true then o.wp P (putAll (dsts ops) 0 u a0) w K Q else K ((putAll (dsts ops) 0 u a0).put o.dst undef) w
theorem upd_listed {listed : Array Bool} {i : Nat} (h : i < listed.size) : (fun j => (listed.setIfInBounds i true).getD j true) = upd (fun j => listed.getD j true) i true := by
  funext j
  by_cases e : j = i
  · subst e; rw [upd_same]; simp [Array.getD, h]
  · rw [upd_ne _ _ e, getD_set_ne true (fun e' => e e'.symm)]
theorem reg_anyM {P : Program} {ops : Array Oper} {Q : Exit → Act → World → Prop} (V : Nat → Value → World → Prop) (M : (Nat → Bool) → (Nat → Value) → World → Prop) (T : World → World → Prop) (ht : ∀ a b c, T a b → T b c → T a c) (hV : ∀ i v w w', V i v w → T w w' → V i v w')
    (hd : distinct (dsts ops) = true) (hf : forward ops = true) {a0 : Act} {w0 : World} (hsteps : ∀ i, i < ops.size → RegStepM P ops Q V M T w0 a0 i)
    (hpost : ∀ (u : Nat → Value) (w : World), T w0 w → M (fun _ => true) u w → (∀ i, i < ops.size → V i (u i) w) → Q .normal (putAll (dsts ops) 0 u a0) w) :
    ∀ (fuel : Nat) (listed : Array Bool) (u : Nat → Value) (w : World), listed.size = ops.size → ((List.range ops.size).filter fun j => !listed.getD j true).length ≤ fuel → T w0 w → M (fun j => listed.getD j true) u w →
      (∀ i, i < ops.size → listed.getD i true = true → V i (u i) w) → wpAny P .any ops Q fuel listed (putAll (dsts ops) 0 u a0) w := by
  intro fuel
  have hall : ∀ (listed : Array Bool) (u : Nat → Value) (w : World), listed.size = ops.size → T w0 w → M (fun j => listed.getD j true) u w → (∀ i, i < ops.size → listed.getD i true = true → V i (u i) w) → Region.ready .any ops listed = [] → Q .normal (putAll (dsts ops) 0 u a0) w := by
    intro listed u w hs hw hm hl hr
    have hal : ∀ i, listed.getD i true = true := by
      intro i
      rcases Nat.lt_or_ge i ops.size with hi | hi
      · cases hb : listed.getD i true with
        | true => rfl
        | false =>
          obtain ⟨j, hj⟩ := least_ready hf hs i hi hb
          rw [hr] at hj; simp at hj
      · simp [Array.getD, hs, Nat.not_lt.2 hi]
    have e : (fun j => listed.getD j true) = fun _ => true := funext hal
    rw [e] at hm
    exact hpost u w hw hm fun i hi => hl i hi (hal i)
  induction fuel with
  | zero =>
    intro listed u w hs hc hw hm hl
    have hr : Region.ready .any ops listed = [] := by
      cases hr : Region.ready .any ops listed with
      | nil => rfl
      | cons j r =>
        exfalso
        have hj : j ∈ Region.ready .any ops listed := by rw [hr]; simp
        rw [mem_ready] at hj
        obtain ⟨h0, o, ho, _⟩ := hj
        have hjl : j < ops.size := (Array.getElem?_eq_some_iff.1 ho).1
        have : j ∈ (List.range ops.size).filter fun j => !listed.getD j true := by
          rw [List.mem_filter]; exact ⟨List.mem_range.2 hjl, by rw [h0]; rfl⟩
        rw [List.eq_nil_of_length_eq_zero (Nat.le_zero.1 hc)] at this
        simp at this
    exact ⟨hr, hall listed u w hs hw hm hl hr⟩
  | succ fuel ih =>
    intro listed u w hs hc hw hm hl
    refine ⟨hall listed u w hs hw hm hl, fun i hi => ?_⟩
    rw [mem_ready] at hi
    obtain ⟨h0, o, ho, hpre⟩ := hi
    have hil : i < ops.size := (Array.getElem?_eq_some_iff.1 ho).1
    have hdi := dsts_get ho
    have hlen : i < (dsts ops).length := by simpa [dsts] using hil
    have go : ∀ v w', T w w' → V i v w' → M (upd (fun j => listed.getD j true) i true) (upd u i v) w' → wpAny P .any ops Q fuel (listed.setIfInBounds i true) ((putAll (dsts ops) 0 u a0).put o.dst v) w' := by
      intro v w' hww hv hm'
      rw [← hdi, putAll_upd _ 0 i u a0 v hd hlen, Nat.zero_add]
      refine ih _ _ _ (by simpa using hs) (by have := count_set hil h0 hs; omega) (ht _ _ _ hw hww) (by rw [upd_listed (by omega)]; exact hm') fun j hj hlj => ?_
      by_cases e : j = i
      · subst e; rw [upd_same]; exact hv
      · rw [upd_ne _ _ e]
        rw [getD_set_ne true (fun e' => e e'.symm)] at hlj
        exact hV j _ _ _ (hl j hj hlj) hww
    have hs' := hsteps i hil o ho (fun j => listed.getD j true) u w hw h0 (fun j hj => by
      unfold dep at hj
      rw [List.any_eq_true] at hj
      obtain ⟨e, he, hb⟩ := hj
      have he : e ∈ o.after := by simpa using he
      simp only [Bool.and_eq_true, beq_iff_eq] at hb
      have h1 := hpre e he hb.1
      rw [hb.2] at h1
      have hjs : j < listed.size := by
        rcases Nat.lt_or_ge j listed.size with h | h
        · exact h
        · simp [Array.getD, Nat.not_lt.2 h] at h1
      have h2 : listed.getD j true = true := by simpa [Array.getD, hjs] using h1
      exact ⟨h2, hl j (by omega) h2⟩) hm (wpAny P .any ops Q fuel (listed.setIfInBounds i true)) go
    unfold wpOp
    rw [ho]
    simp only
    split
    · rename_i hw'; rw [if_pos hw'] at hs'; exact .inl hs'
    · rename_i hw'; rw [if_neg hw'] at hs'; exact hs'
def StPreM (T : World → World → Prop) (M : (Nat → Bool) → (Nat → Value) → World → Prop) (P : Program) (ops : Array Oper) (Q : Exit → Act → World → Prop) (V : List VP) (Wr : Nat → Prop) (ds : List (Option Tmp)) (w0 : World) (a0 : Act) (i : Nat) (o : Oper) (x : VP) : Prop :=
  ∀ (L : Nat → Bool) (u : Nat → Value) (t : Array Value) (w : World), T w0 w → L i = false → (∀ j, dep o j = true → L j = true) → DepF ds a0 (fun j v w => V.getD j anyV v w ∧ v = u j) (fun j => dep o j = true) t w → OldF Wr a0 t → M L u w →
    ∀ K : Act → World → Prop, (∀ v w', T w w' → x v w' → M (upd L i true) (upd u i v) w' → K (Act.put ⟨t, a0.defers⟩ o.dst v) w') →
      if Region.wanted o (yielded ops t) = true then o.wp P ⟨t, a0.defers⟩ w K Q else K (Act.put ⟨t, a0.defers⟩ o.dst undef) w
def RaAllM (T : World → World → Prop) (M : (Nat → Bool) → (Nat → Value) → World → Prop) (P : Program) (ops : Array Oper) (Q : Exit → Act → World → Prop) (V : List VP) (ds : List (Option Tmp)) (w0 : World) (a0 : Act) : Nat → List Oper → List VP → Prop
  | k, o :: r, x :: xs => StPreM T M P ops Q V (notIn ds) ds w0 a0 k o x ∧ RaAllM T M P ops Q V ds w0 a0 (k + 1) r xs
  | _, [], [] => True
  | _, _, _ => False
theorem RaAllM.get {T : World → World → Prop} {M : (Nat → Bool) → (Nat → Value) → World → Prop} {P : Program} {ops : Array Oper} {Q : Exit → Act → World → Prop} {V : List VP} {ds : List (Option Tmp)} {w0 : World} {a0 : Act} : ∀ (l : List Oper) (xs : List VP) (k : Nat), RaAllM T M P ops Q V ds w0 a0 k l xs → ∀ i o, l[i]? = some o → StPreM T M P ops Q V (notIn ds) ds w0 a0 (k + i) o (xs.getD i anyV) := by
  intro l
  induction l with
  | nil => intro xs k _ i o h; simp at h
  | cons o r ih =>
    intro xs k h i o' ho
    cases xs with
    | nil => exact h.elim
    | cons x xs =>
      cases i with
      | zero => simp at ho; subst ho; exact h.1
      | succ i =>
        have := ih xs (k + 1) h.2 i o' (by simpa using ho)
        have e : k + 1 + i = k + (i + 1) := by omega
        rw [e] at this
        exact this
theorem wp_reg_m (T : World → World → Prop) (M : (Nat → Bool) → (Nat → Value) → World → Prop) (h0 : ∀ w, T w w) (htr : ∀ a b c, T a b → T b c → T a c) {P : Program} {l : List Oper} {Q : Exit → Act → World → Prop} {id : Nat} {a : Act} {w : World} (ds : List (Option Tmp)) (V : List VP) (hds : l.map (·.dst) = ds) (hm : P.follows .mixedOrders = true)
    (hd : distinct ds = true) (hf : fwdFrom l 0 = true) (hM0 : ∀ L u, (∀ j, j < l.length → L j = false) → M L u w.drew) (hkeep : ∀ i v w w', V.getD i anyV v w → T w w' → V.getD i anyV v w') (hsteps : RaAllM T M P l.toArray Q V ds w.drew a 0 l V)
    (hpost : ∀ u w', T w.drew w' → M (fun _ => true) u w' → (∀ i, i < l.length → V.getD i anyV (u i) w') → Q .normal (putAll ds 0 u a) w') : (Code.region id l.toArray true).wp P Q a w := by
  have hds' : dsts l.toArray = ds := hds
  subst hds'
  refine wp_region_any hm ?_
  obtain ⟨u, hu⟩ := putAll_self (dsts l.toArray) 0 a
  have := reg_anyM (P := P) (ops := l.toArray) (Q := Q) (fun i v w => V.getD i anyV v w) M T htr hkeep hd hf (a0 := a) (w0 := w.drew) (fun i hi o ho L u w hT hL hD hM K hK => by
      have h1 := hsteps.get l V 0 i o (by simpa using ho)
      rw [Nat.zero_add] at h1
      have := h1 L u (putAll (dsts l.toArray) 0 u a).tmps w hT hL (fun j hj => (hD j hj).1) (depF_of hd fun j hj => ⟨(hD j hj).2, rfl⟩) oldF_of hM K (by rw [← frame_of]; exact hK)
      rw [← frame_of] at this
      exact this)
    (fun u w' hT hM hu => hpost u w' hT hM (fun i hi => hu i (by simpa using hi))) l.toArray.size (Array.replicate l.toArray.size false) u w.drew (by simp) (by
    have := List.length_filter_le (fun j => !(Array.replicate l.toArray.size false).getD j true) (List.range l.toArray.size)
    simpa using this) (h0 _) (hM0 _ _ fun j hj => by
      simp [Array.getD]; exact hj) (fun i hi h => by
      have h2 : i < l.length := by simpa using hi
      simp [Array.getD] at h
      omega)
  rw [hu] at this
  exact this
set_option linter.unusedSimpArgs false
set_option linter.unusedVariables false
set_option linter.unusedSectionVars false
open Go.RowKit

def b8 (x : Int) : UInt8 := UInt8.ofNat (x % 256).toNat
theorem b8_wrap (x : Int) : IntKind.u8.wrap x = ((b8 x).toNat : Int) := by
  rw [IntKind.wrap_u8', b8, UInt8.toNat_ofNat']
  have h1 := Int.emod_nonneg x (show (256 : Int) ≠ 0 by decide)
  have h2 := Int.emod_lt_of_pos x (show (0 : Int) < 256 by decide)
  omega
/-- The bytes of a sum. -/
def b4 (v : Int) : List UInt8 := [b8 v, b8 (v / 256), b8 (v / 65536), b8 (v / 16777216)]
set_option maxRecDepth 100000 in
set_option maxHeartbeats 1000000 in
theorem bytesOf_any (v : Int) (hv : U32 v) (w : World) :
    Calls Tryz.prog 36 #[.int .u32 v] w fun e w' => e = .returned (.agg #[.int .u8 ((b8 v).toNat : Int), .int .u8 ((b8 (v / 256)).toNat : Int), .int .u8 ((b8 (v / 65536)).toNat : Int), .int .u8 ((b8 (v / 16777216)).toNat : Int)]) ∧ Below w.heap.size w w' := by
  obtain ⟨h0, h1⟩ := hv
  have z0 := b8_wrap v
  have z1 := b8_wrap (v / 256)
  have z2 := b8_wrap (v / 65536)
  have z3 := b8_wrap (v / 16777216)
  obtain ⟨o_b, hbw⟩ := new1 w [.int .u8 ((b8 v).toNat : Int), .int .u8 ((b8 (v / 256)).toNat : Int), .int .u8 ((b8 (v / 65536)).toNat : Int), .int .u8 ((b8 (v / 16777216)).toNat : Int)] 87
  go_enter Tryz.func36, Tryz.ntmps36
  go_wp2
  generalize (w.alloc (.cells #[.int .u8 ((b8 v).toNat : Int), .int .u8 ((b8 (v / 256)).toNat : Int), .int .u8 ((b8 (v / 65536)).toNat : Int), .int .u8 ((b8 (v / 16777216)).toNat : Int)] 87)) = wb at o_b hbw ⊢
  have c0 := o_b.cell 0
  have c1 := o_b.cell 1
  have c2 := o_b.cell 2
  have c3 := o_b.cell 3
  exact bodyPost_ret (v := .agg #[.int .u8 ((b8 v).toNat : Int), .int .u8 ((b8 (v / 256)).toNat : Int), .int .u8 ((b8 (v / 65536)).toNat : Int), .int .u8 ((b8 (v / 16777216)).toNat : Int)]) (by simp [results, Tryz.results36, go_sem, c0, c1, c2, c3]) rfl ⟨rfl, hbw⟩
theorem wanted_p {o : Oper} {y : Nat → Option Bool} (h : o.guard = none) : Region.wanted o y = true := by simp [Region.wanted, h]
open Go in
theorem wp_app {P : Program} {w w' : World} {o : Oper} {a : Act} {K : Act → World → Prop} {Q : Exit → Act → World → Prop} (s x : Operand) (t : TypeId)
    (ho : o.op = .call { callee := .builtin .append, args := #[s, x], argTypes := #[t, t] }) (v u v' : Value) (hs : a.eval s = v) (hx : a.eval x = u)
    (hr : (Builtin.append_ #[t, t] o.type #[v, u]).run P w = .ok v' w') (h : K (a.put o.dst v') w') : o.wp P a w K Q := by
  unfold Oper.wp execOp
  simp only [ho, resolve, invoke, builtin, Sem.run_bind, Sem.run_pure, Result.andThen_ok, List.map_toArray, List.map_cons, List.map_nil, hs, hx, hr]
  exact h
theorem ev_tmp {t : Array Value} {d : List Deferred} {k : Nat} {v : Value} (h : t[k]? = some v) : (Act.mk t d).eval (.tmp k) = v := by
  show t.getD k undef = v
  simp [Array.getD_eq_getD_getElem?, h]
theorem below_grown {w w' : World} (h : w.grownBy w' none) : Below w.heap.size w w' := ⟨h.os, h.tape, h.output, h.size, fun k hk => h.block k hk (by simp)⟩
theorem u8_info : (Tryz.prog.info? 5).map (fun i => (i.zero, i.size, i.bytes)) = some (some (.int .u8 0), 1, 1) := by kernel_rfl
theorem Own.rdA {w : World} {g : Nat} {t : TypeId} {xs : List Value} (h : Own w g t xs) : Rd w (some ⟨g, 0, none⟩) xs := fun j u hu => ⟨g, 0, rfl, by rw [Nat.zero_add]; exact (h.cell j).trans hu⟩
theorem rd_add {w : World} {b off : Nat} {xs : List Value} (h : Rd w (some ⟨b, off, none⟩) xs) : ∀ j u, xs[j]? = some u → w.cell? ((⟨b, off, none⟩ : Addr).add j) = some u := fun j u hu => by
  obtain ⟨b', off', e, hc⟩ := h j u hu
  injection e with e
  injection e with e1 e2
  subst e1 e2
  rw [Addr.add_lit]; exact hc
/-- Only new memory, and a row of new memory stays. -/
def BRow (B base e n : Nat) (xs : List Value) (a b : World) : Prop := Below B a b ∧ ∀ v, a.ownsRow base e 1 v n xs → b.ownsRow base e 1 v n xs
theorem BRow.refl {B base e n : Nat} {xs : List Value} (a : World) : BRow B base e n xs a a := ⟨Below.refl _ a, fun _ h => h⟩
theorem BRow.trans {B base e n : Nat} {xs : List Value} (a b c : World) (h : BRow B base e n xs a b) (h' : BRow B base e n xs b c) : BRow B base e n xs a c := ⟨h.1.trans h'.1, fun v x => h'.2 v (h.2 v x)⟩
set_option maxRecDepth 100000 in
set_option maxHeartbeats 1000000 in
theorem seal_any (b off : Nat) (l : List UInt8) (c : Nat) (hc : l.length ≤ c) (hm : c ≤ maxLen) (hm2 : l.length + 4 ≤ 140737488355328) (w : World) (h : Rd w (some ⟨b, off, none⟩) (u8c l)) :
    Calls Tryz.prog 21 #[.slice (some ⟨b, off, none⟩) l.length c] w fun e w' => ∃ v, e = .returned v ∧ w'.ownsRow w.heap.size 5 1 v (l.length + 4) (u8c (l ++ b4 (bits .xor .u32 4294967295 (sumV l)))) ∧ Below w.heap.size w w' := by
  have HR := Lib.hid h
  clear h
  have hs := xor_u32 (a := 4294967295) ⟨by decide, by decide⟩ (sumV_u32 l)
  have s9 := sum_any (some ⟨b, off, none⟩) l c hc hm w HR.out
  generalize bits .xor .u32 4294967295 (sumV l) = S at hs s9 ⊢
  obtain ⟨i0, hi0, hz⟩ : ∃ i, Tryz.prog.info? 5 = some i ∧ (i.zero, i.size, i.bytes) = (some (.int .u8 0), 1, 1) := by
    have := u8_info
    cases h : Tryz.prog.info? 5 with
    | none => rw [h] at this; cases this
    | some i => rw [h] at this; exact ⟨i, rfl, Option.some.inj this⟩
  obtain ⟨hy0, hy⟩ := Prod.mk.inj hz
  obtain ⟨hy1, hy2⟩ := Prod.mk.inj hy
  go_enter Tryz.func21, Tryz.ntmps21
  go_wp2_with fail
  refine s9.mono ?_
  rintro e w1 ⟨rfl, hb1⟩
  go_wp2_with fail
  refine (bytesOf_any S hs _).mono ?_
  rintro e w2 ⟨rfl, hb2⟩
  obtain ⟨o_x, hb3⟩ := new1 w2 [.int .u8 ((b8 S).toNat : Int), .int .u8 ((b8 (S / 256)).toNat : Int), .int .u8 ((b8 (S / 65536)).toNat : Int), .int .u8 ((b8 (S / 16777216)).toNat : Int)] 87
  go_upto_region 2 with (fail)
  generalize (w2.alloc (.cells #[.int .u8 ((b8 S).toNat : Int), .int .u8 ((b8 (S / 256)).toNat : Int), .int .u8 ((b8 (S / 65536)).toNat : Int), .int .u8 ((b8 (S / 16777216)).toNat : Int)] 87)) = w3 at o_x hb3 ⊢
  obtain ⟨gx, hgx⟩ : ∃ g, g = w2.heap.size := ⟨_, rfl⟩
  rw [← hgx] at o_x ⊢
  have h12 : w.heap.size ≤ w1.heap.size := hb1.size
  have hb2' : Below w.heap.size w w2 := hb1.trans (hb2.mono h12)
  have hb3' : Below w.heap.size w w3 := hb2'.trans (hb3.mono hb2'.size)
  have HR3 := Lib.hid (HR.out.below hb3')
  have hs3 : w.heap.size ≤ w3.heap.size := hb3'.size
  have hl : (u8c l).length = l.length * 1 := by unfold u8c; rw [List.length_map, Nat.mul_one]
  clear HR hb1 hb2 hb3 hb2' h12 hz hy hgx s9
  clear w2 w1
  refine wp_reg_t (BRow w3.heap.size w.heap.size 5 (l.length + 4) (u8c (l ++ b4 S))) (BRow.refl) (BRow.trans) [some 7, some 8, some 9, some 10, some 11, some 12, some 13, some 14, some 2] [isV ?v1_0, isV ?v1_1, isV ?v1_2, isV ?v1_3, isV ?v1_4, isV (.slice (some ⟨b, off, none⟩) l.length l.length), isV (.slice (some ⟨gx, 0, none⟩) 4 4), (fun v w' => w'.ownsRow w.heap.size 5 1 v (l.length + 4) (u8c (l ++ b4 S))), (fun v w' => w'.ownsRow w.heap.size 5 1 v (l.length + 4) (u8c (l ++ b4 S)))] rfl (by kernel_rfl) rfl rfl ?k1 ⟨?s1_0, ?s1_1, ?s1_2, ?s1_3, ?s1_4, ?s1_5, ?s1_6, ?s1_7, ?s1_8, trivial⟩ ?p1
  case s1_0 =>
    intro t9 w9 hT9 hV9 hO9 K9 hK9
    have o9_0 := hO9 0 _ (show List.contains _ _ = false from by kernel_rfl) rfl
    clear hV9 hO9
    go_simp
    (refine hK9 _ _ (BRow.refl w9) ?_; exact rfl)
  case s1_1 =>
    intro t9 w9 hT9 hV9 hO9 K9 hK9
    have o9_0 := hO9 0 _ (show List.contains _ _ = false from by kernel_rfl) rfl
    clear hV9 hO9
    go_simp
    (refine hK9 _ _ (BRow.refl w9) ?_; exact rfl)
  case s1_2 =>
    intro t9 w9 hT9 hV9 hO9 K9 hK9
    obtain ⟨x9_1, p9_1, q9_1⟩ := hV9 1 8 rfl rfl (of_decide_eq_true (by kernel_rfl))
    obtain rfl : x9_1 = ?v1_1 := q9_1
    clear hV9 hO9
    go_simp
    (refine hK9 _ _ (BRow.refl w9) ?_; exact rfl)
  case s1_3 =>
    intro t9 w9 hT9 hV9 hO9 K9 hK9
    have o9_0 := hO9 0 _ (show List.contains _ _ = false from by kernel_rfl) rfl
    clear hV9 hO9
    go_simp
    (refine hK9 _ _ (BRow.refl w9) ?_; exact rfl)
  case s1_4 =>
    intro t9 w9 hT9 hV9 hO9 K9 hK9
    obtain ⟨x9_3, p9_3, q9_3⟩ := hV9 3 10 rfl rfl (of_decide_eq_true (by kernel_rfl))
    obtain rfl : x9_3 = ?v1_3 := q9_3
    clear hV9 hO9
    go_simp
    (refine hK9 _ _ (BRow.refl w9) ?_; exact rfl)
  case s1_5 =>
    intro t9 w9 hT9 hV9 hO9 K9 hK9
    obtain ⟨x9_0, p9_0, q9_0⟩ := hV9 0 7 rfl rfl (of_decide_eq_true (by kernel_rfl))
    obtain rfl : x9_0 = ?v1_0 := q9_0
    obtain ⟨x9_2, p9_2, q9_2⟩ := hV9 2 9 rfl rfl (of_decide_eq_true (by kernel_rfl))
    obtain rfl : x9_2 = ?v1_2 := q9_2
    obtain ⟨x9_4, p9_4, q9_4⟩ := hV9 4 11 rfl rfl (of_decide_eq_true (by kernel_rfl))
    obtain rfl : x9_4 = ?v1_4 := q9_4
    clear hV9 hO9
    go_simp
    (refine hK9 _ _ (BRow.refl w9) ?_; exact rfl)
  case s1_6 =>
    intro t9 w9 hT9 hV9 hO9 K9 hK9
    have o9_3 := hO9 3 _ (show List.contains _ _ = false from by kernel_rfl) rfl
    clear hV9 hO9
    go_simp
    (refine hK9 _ _ (BRow.refl w9) ?_; exact rfl)
  case s1_7 =>
    intro t9 w9 hT9 hV9 hO9 K9 hK9
    obtain ⟨x9_5, p9_5, q9_5⟩ := hV9 5 12 rfl rfl (of_decide_eq_true (by kernel_rfl))
    obtain rfl : x9_5 = (.slice (some ⟨b, off, none⟩) l.length l.length) := q9_5
    obtain ⟨x9_6, p9_6, q9_6⟩ := hV9 6 13 rfl rfl (of_decide_eq_true (by kernel_rfl))
    obtain rfl : x9_6 = (.slice (some ⟨gx, 0, none⟩) 4 4) := q9_6
    clear hV9 hO9
    have x1 := (Own.below (show Own (World.drew w3) gx _ _ from o_x) hT9.1 o_x.lt).rdA
    have x2 := Rd.below (show Rd (World.drew w3) _ _ from HR3.out) hT9.1
    obtain ⟨v9, w9', hr9, ho9, hg9⟩ := run_append_arg_grows (P := Tryz.prog) w9 39 39 5 i0 _ 1 1 Tryz.underlying39 hi0 hy0 hy1 hy2 rfl (by decide) ⟨b, off, none⟩ l.length l.length (u8c l) hl (rd_add x2) ⟨gx, 0, none⟩ 4 4 (u8c (b4 S)) rfl (rd_add x1) (by omega) (by unfold maxLen; omega) (by omega)
    have q9 : w9'.ownsRow w.heap.size 5 1 v9 (l.length + 4) (u8c (l ++ b4 S)) := by
      have := ho9.mono (base' := w.heap.size) (Nat.le_trans hs3 hT9.1.size)
      unfold u8c at this ⊢
      rw [List.map_append]
      exact this
    have g9 : Below w3.heap.size w9 w9' := (below_grown hg9).mono hT9.1.size
    rw [if_pos (wanted_p rfl)]
    exact wp_app (.tmp 12) (.tmp 13) 39 rfl _ _ v9 (ev_tmp p9_5) (ev_tmp p9_6) hr9 (hK9 _ _ ⟨g9, fun v h => h.kept hg9 (by cases v.ownBlock <;> simp)⟩ q9)
  case s1_8 =>
    intro t9 w9 hT9 hV9 hO9 K9 hK9
    obtain ⟨x9_7, p9_7, q9_7⟩ := hV9 7 14 rfl rfl (of_decide_eq_true (by kernel_rfl))
    replace q9_7 : ((fun v w' => w'.ownsRow w.heap.size 5 1 v (l.length + 4) (u8c (l ++ b4 S)))) x9_7 w9 := q9_7
    clear hV9 hO9
    go_simp
    exact hK9 _ _ (BRow.refl w9) q9_7
  case k1 =>
    intro i9 v9 w9 x9 h9 g9
    match i9, h9 with
    | 0, h9 => exact h9
    | 1, h9 => exact h9
    | 2, h9 => exact h9
    | 3, h9 => exact h9
    | 4, h9 => exact h9
    | 5, h9 => exact h9
    | 6, h9 => exact h9
    | 7, h9 => (replace h9 : (fun v w' => w'.ownsRow w.heap.size 5 1 v (l.length + 4) (u8c (l ++ b4 S))) v9 w9 := h9); exact g9.2 _ h9
    | 8, h9 => (replace h9 : (fun v w' => w'.ownsRow w.heap.size 5 1 v (l.length + 4) (u8c (l ++ b4 S))) v9 w9 := h9); exact g9.2 _ h9
    | _ + 9, h9 => exact trivial
  intro u9 w9 hE9 hu9
  have r9_0 : u9 0 = ?v1_0 := hu9 0 (by decide)
  have r9_1 : u9 1 = ?v1_1 := hu9 1 (by decide)
  have r9_2 : u9 2 = ?v1_2 := hu9 2 (by decide)
  have r9_3 : u9 3 = ?v1_3 := hu9 3 (by decide)
  have r9_4 : u9 4 = ?v1_4 := hu9 4 (by decide)
  have r9_5 : u9 5 = (.slice (some ⟨b, off, none⟩) l.length l.length) := hu9 5 (by decide)
  have r9_6 : u9 6 = (.slice (some ⟨gx, 0, none⟩) 4 4) := hu9 6 (by decide)
  have r9_7 : (fun v w' => w'.ownsRow w.heap.size 5 1 v (l.length + 4) (u8c (l ++ b4 S))) (u9 7) w9 := hu9 7 (by decide)
  have r9_8 : (fun v w' => w'.ownsRow w.heap.size 5 1 v (l.length + 4) (u8c (l ++ b4 S))) (u9 8) w9 := hu9 8 (by decide)
  clear hu9
  simp only [putAll, Act.put, List.setIfInBounds_toArray, List.set_cons_succ, List.set_cons_zero, List.getD_cons_succ, List.getD_cons_zero, Nat.reduceAdd, Nat.zero_add]
  simp only [r9_0, r9_1, r9_2, r9_3, r9_4, r9_5, r9_6]
  clear r9_0 r9_1 r9_2 r9_3 r9_4 r9_5 r9_6
  go_wp2
  go_ret
  exact ⟨_, rfl, r9_8, hb3'.trans (Below.mono (⟨hE9.1.os, hE9.1.tape, hE9.1.output, hE9.1.size, hE9.1.block⟩ : Below w3.heap.size w3 w9) hs3)⟩
end Go.Proofs.YtfenjklilocjgaaGreatDoor
