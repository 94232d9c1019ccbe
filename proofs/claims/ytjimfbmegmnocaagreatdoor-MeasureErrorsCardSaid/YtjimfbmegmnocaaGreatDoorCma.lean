/- Parts of the proof: Rgt, Cm, Cma. No condition of its own. -/
import Derived.Test.YtjimfbmegmnocaaGreatDoorReg
import Derived.Test.YtjimfbmegmnocaaGreatDoorCl
import Derived.Test.YtjimfbmegmnocaaGreatDoorCk
set_option linter.unusedSimpArgs false
set_option linter.unusedVariables false
namespace Go.Proofs.YtjimfbmegmnocaaGreatDoor
open Go.RowKit

def StPreT (T : World -> World -> Prop) (P : Program) (ops : Array Oper) (Q : Exit -> Act -> World -> Prop) (V : List VP) (Wr : Nat -> Prop) (ds : List (Option Tmp)) (w0 : World) (a0 : Act) (o : Oper) (x : VP) : Prop :=
 ∀ (t : Array Value) (w : World), T w0 w -> DepF ds a0 (fun j => V.getD j anyV) (fun j => dep o j = true) t w -> OldF Wr a0 t ->
  ∀ K : Act -> World -> Prop, (∀ v w', T w w' -> x v w' -> K (Act.put ⟨t, a0.defers⟩ o.dst v) w') ->
   if Region.wanted o (yielded ops t) = true then o.wp P ⟨t, a0.defers⟩ w K Q else K (Act.put ⟨t, a0.defers⟩ o.dst undef) w
def RaAllT (T : World -> World -> Prop) (P : Program) (ops : Array Oper) (Q : Exit -> Act -> World -> Prop) (V : List VP) (ds : List (Option Tmp)) (w0 : World) (a0 : Act) : List Oper -> List VP -> Prop
 | o :: r, x :: xs => StPreT T P ops Q V (notIn ds) ds w0 a0 o x /\ RaAllT T P ops Q V ds w0 a0 r xs
 | [], [] => True
 | _, _ => False
theorem RaAllT.get {T : World -> World -> Prop} {P : Program} {ops : Array Oper} {Q : Exit -> Act -> World -> Prop} {V : List VP} {ds : List (Option Tmp)} {w0 : World} {a0 : Act} : ∀ (l : List Oper) (xs : List VP), RaAllT T P ops Q V ds w0 a0 l xs -> ∀ i o, l[i]? = some o -> StPreT T P ops Q V (notIn ds) ds w0 a0 o (xs.getD i anyV) := by
 intro l
 induction l with
 | nil => intro xs _ i o h; simp at h
 | cons o r ih =>
  intro xs h i o' ho
  cases xs with
  | nil => exact h.elim
  | cons x xs =>
   cases i with
   | zero => simp at ho; subst ho; exact h.1
   | succ i => exact ih xs h.2 i o' (by simpa using ho)
theorem wp_reg_t (T : World -> World -> Prop) (h0 : ∀ w, T w w) (htr : ∀ a b c, T a b -> T b c -> T a c) {P : Program} {l : List Oper} {Q : Exit -> Act -> World -> Prop} {id : Nat} {a : Act} {w : World} (ds : List (Option Tmp)) (V : List VP) (hds : l.map (·.dst) = ds) (hm : P.follows .mixedOrders = true)
  (hd : distinct ds = true) (hf : fwdFrom l 0 = true) (hkeep : ∀ i v w w', V.getD i anyV v w -> T w w' -> V.getD i anyV v w') (hsteps : RaAllT T P l.toArray Q V ds w.drew a l V)
  (hpost : ∀ u w', T w.drew w' -> (∀ i, i < l.length -> V.getD i anyV (u i) w') -> Q .normal (putAll ds 0 u a) w') : (Code.region id l.toArray true).wp P Q a w := by
 have hds' : dsts l.toArray = ds := hds; subst hds'; refine wp_reg (fun i v w => V.getD i anyV v w) T hm h0 htr hkeep hd hf ?_ fun u w' hT hu => ?_
 ·have key : ∀ n, n <= l.toArray.size -> RegSteps P l.toArray Q (fun i v w => V.getD i anyV v w) T w.drew a n := by
   intro n
   induction n with
   | zero => exact fun _ => trivial
   | succ n ih =>
    intro hn; refine ⟨ih (by omega), fun o ho u w hT hV K hK => ?_⟩; have := (hsteps.get l V n o (by simpa using ho)) (putAll (dsts l.toArray) 0 u a).tmps w hT (depF_of hd hV) oldF_of K (by rw [<- frame_of]; exact hK); rw [<- frame_of] at this; exact this
  exact key _ (Nat.le_refl _)
 ·exact hpost u w' hT (fun i hi => hu i (by simpa using hi))
def KR (S : Nat -> Prop) (I G1 G2 : World -> Prop) (w w' : World) : Prop := Chg S w w' /\ (I w -> I w' /\ (G1 w -> G1 w') /\ (G2 w -> G2 w'))
theorem KR.refl {S : Nat -> Prop} {I G1 G2 : World -> Prop} (w : World) : KR S I G1 G2 w w := ⟨Chg.refl _ _, fun h => ⟨h, id, id⟩⟩
theorem KR.trans {S : Nat -> Prop} {I G1 G2 : World -> Prop} (a b c : World) (h : KR S I G1 G2 a b) (h' : KR S I G1 G2 b c) : KR S I G1 G2 a c :=
 ⟨h.1.trans h'.1, fun hi => ⟨(h'.2 (h.2 hi).1).1, fun g => (h'.2 (h.2 hi).1).2.1 ((h.2 hi).2.1 g), fun g => (h'.2 (h.2 hi).1).2.2 ((h.2 hi).2.2 g)⟩⟩
open Go.RowKit

def RegStepM (P : Program) (ops : Array Oper) (Q : Exit -> Act -> World -> Prop) (V : Nat -> Value -> World -> Prop) (M : (Nat -> Bool) -> (Nat -> Value) -> World -> Prop) (T : World -> World -> Prop) (w0 : World) (a0 : Act) (i : Nat) : Prop :=
 ∀ o, ops[i]? = some o -> ∀ (L : Nat -> Bool) (u : Nat -> Value) (w : World), T w0 w -> L i = false -> (∀ j, dep o j = true -> L j = true /\ V j (u j) w) -> M L u w ->
  ∀ K : Act -> World -> Prop, (∀ v w', T w w' -> V i v w' -> M (upd L i true) (upd u i v) w' -> K ((putAll (dsts ops) 0 u a0).put o.dst v) w') ->
   if Region.wanted o (yielded ops (putAll (dsts ops) 0 u a0).tmps) = true then o.wp P (putAll (dsts ops) 0 u a0) w K Q else K ((putAll (dsts ops) 0 u a0).put o.dst undef) w
theorem upd_listed {listed : Array Bool} {i : Nat} (h : i < listed.size) : (fun j => (listed.setIfInBounds i true).getD j true) = upd (fun j => listed.getD j true) i true := by
 funext j
 by_cases e : j = i
 ·subst e; rw [upd_same]; simp [Array.getD, h]
 ·rw [upd_ne _ _ e, getD_set_ne true (fun e' => e e'.symm)]
theorem reg_anyM {P : Program} {ops : Array Oper} {Q : Exit -> Act -> World -> Prop} (V : Nat -> Value -> World -> Prop) (M : (Nat -> Bool) -> (Nat -> Value) -> World -> Prop) (T : World -> World -> Prop) (ht : ∀ a b c, T a b -> T b c -> T a c) (hV : ∀ i v w w', V i v w -> T w w' -> V i v w')
  (hd : distinct (dsts ops) = true) (hf : forward ops = true) {a0 : Act} {w0 : World} (hsteps : ∀ i, i < ops.size -> RegStepM P ops Q V M T w0 a0 i)
  (hpost : ∀ (u : Nat -> Value) (w : World), T w0 w -> M (fun _ => true) u w -> (∀ i, i < ops.size -> V i (u i) w) -> Q .normal (putAll (dsts ops) 0 u a0) w) :
  ∀ (fuel : Nat) (listed : Array Bool) (u : Nat -> Value) (w : World), listed.size = ops.size -> ((List.range ops.size).filter fun j => !listed.getD j true).length <= fuel -> T w0 w -> M (fun j => listed.getD j true) u w ->
   (∀ i, i < ops.size -> listed.getD i true = true -> V i (u i) w) -> wpAny P .any ops Q fuel listed (putAll (dsts ops) 0 u a0) w := by
 intro fuel; have hall : ∀ (listed : Array Bool) (u : Nat -> Value) (w : World), listed.size = ops.size -> T w0 w -> M (fun j => listed.getD j true) u w -> (∀ i, i < ops.size -> listed.getD i true = true -> V i (u i) w) -> Region.ready .any ops listed = [] -> Q .normal (putAll (dsts ops) 0 u a0) w := by
  intro listed u w hs hw hm hl hr; have hal : ∀ i, listed.getD i true = true := by
   intro i
   rcases Nat.lt_or_ge i ops.size with hi | hi
   ·cases hb : listed.getD i true with
    | true => rfl
    | false =>
     obtain ⟨j, hj⟩ := least_ready hf hs i hi hb; rw [hr] at hj; simp at hj
   ·simp [Array.getD, hs, Nat.not_lt.2 hi]
  have e : (fun j => listed.getD j true) = fun _ => true := funext hal; rw [e] at hm; exact hpost u w hw hm fun i hi => hl i hi (hal i)
 induction fuel with
 | zero =>
  intro listed u w hs hc hw hm hl; have hr : Region.ready .any ops listed = [] := by
   cases hr : Region.ready .any ops listed with
   | nil => rfl
   | cons j r =>
    exfalso
    have hj : j ∈ Region.ready .any ops listed := by rw [hr]; simp
    rw [mem_ready] at hj; obtain ⟨h0, o, ho, _⟩ := hj; have hjl : j < ops.size := (Array.getElem?_eq_some_iff.1 ho).1; have : j ∈ (List.range ops.size).filter fun j => !listed.getD j true := by
     rw [List.mem_filter]; exact ⟨List.mem_range.2 hjl, by rw [h0]; rfl⟩
    rw [List.eq_nil_of_length_eq_zero (Nat.le_zero.1 hc)] at this
    simp at this
  exact ⟨hr, hall listed u w hs hw hm hl hr⟩
 | succ fuel ih =>
  intro listed u w hs hc hw hm hl; refine ⟨hall listed u w hs hw hm hl, fun i hi => ?_⟩; rw [mem_ready] at hi; obtain ⟨h0, o, ho, hpre⟩ := hi; have hil : i < ops.size := (Array.getElem?_eq_some_iff.1 ho).1; have hdi := dsts_get ho; have hlen : i < (dsts ops).length := by simpa [dsts] using hil
  have go : ∀ v w', T w w' -> V i v w' -> M (upd (fun j => listed.getD j true) i true) (upd u i v) w' -> wpAny P .any ops Q fuel (listed.setIfInBounds i true) ((putAll (dsts ops) 0 u a0).put o.dst v) w' := by
   intro v w' hww hv hm'; rw [<- hdi, putAll_upd _ 0 i u a0 v hd hlen, Nat.zero_add]; refine ih _ _ _ (by simpa using hs) (by have := count_set hil h0 hs; omega) (ht _ _ _ hw hww) (by rw [upd_listed (by omega)]; exact hm') fun j hj hlj => ?_
   by_cases e : j = i
   ·subst e; rw [upd_same]; exact hv
   ·rw [upd_ne _ _ e]; rw [getD_set_ne true (fun e' => e e'.symm)] at hlj; exact hV j _ _ _ (hl j hj hlj) hww
  have hs' := hsteps i hil o ho (fun j => listed.getD j true) u w hw h0 (fun j hj => by
   unfold dep at hj; rw [List.any_eq_true] at hj; obtain ⟨e, he, hb⟩ := hj; have he : e ∈ o.after := by simpa using he
   simp only [Bool.and_eq_true, beq_iff_eq] at hb
   have h1 := hpre e he hb.1; rw [hb.2] at h1; have hjs : j < listed.size := by
    rcases Nat.lt_or_ge j listed.size with h | h
    ·exact h
    ·simp [Array.getD, Nat.not_lt.2 h] at h1
   have h2 : listed.getD j true = true := by simpa [Array.getD, hjs] using h1
   exact ⟨h2, hl j (by omega) h2⟩) hm (wpAny P .any ops Q fuel (listed.setIfInBounds i true)) go
  unfold wpOp; rw [ho]
  simp only
  split
  ·rename_i hw'; rw [if_pos hw'] at hs'; exact .inl hs'
  ·rename_i hw'; rw [if_neg hw'] at hs'; exact hs'
def StPreM (T : World -> World -> Prop) (M : (Nat -> Bool) -> (Nat -> Value) -> World -> Prop) (P : Program) (ops : Array Oper) (Q : Exit -> Act -> World -> Prop) (V : List VP) (Wr : Nat -> Prop) (ds : List (Option Tmp)) (w0 : World) (a0 : Act) (i : Nat) (o : Oper) (x : VP) : Prop :=
 ∀ (L : Nat -> Bool) (u : Nat -> Value) (t : Array Value) (w : World), T w0 w -> L i = false -> (∀ j, dep o j = true -> L j = true) -> DepF ds a0 (fun j v w => V.getD j anyV v w /\ v = u j) (fun j => dep o j = true) t w -> OldF Wr a0 t -> M L u w ->
  ∀ K : Act -> World -> Prop, (∀ v w', T w w' -> x v w' -> M (upd L i true) (upd u i v) w' -> K (Act.put ⟨t, a0.defers⟩ o.dst v) w') ->
   if Region.wanted o (yielded ops t) = true then o.wp P ⟨t, a0.defers⟩ w K Q else K (Act.put ⟨t, a0.defers⟩ o.dst undef) w
def RaAllM (T : World -> World -> Prop) (M : (Nat -> Bool) -> (Nat -> Value) -> World -> Prop) (P : Program) (ops : Array Oper) (Q : Exit -> Act -> World -> Prop) (V : List VP) (ds : List (Option Tmp)) (w0 : World) (a0 : Act) : Nat -> List Oper -> List VP -> Prop
 | k, o :: r, x :: xs => StPreM T M P ops Q V (notIn ds) ds w0 a0 k o x /\ RaAllM T M P ops Q V ds w0 a0 (k + 1) r xs
 | _, [], [] => True
 | _, _, _ => False
theorem RaAllM.get {T : World -> World -> Prop} {M : (Nat -> Bool) -> (Nat -> Value) -> World -> Prop} {P : Program} {ops : Array Oper} {Q : Exit -> Act -> World -> Prop} {V : List VP} {ds : List (Option Tmp)} {w0 : World} {a0 : Act} : ∀ (l : List Oper) (xs : List VP) (k : Nat), RaAllM T M P ops Q V ds w0 a0 k l xs -> ∀ i o, l[i]? = some o -> StPreM T M P ops Q V (notIn ds) ds w0 a0 (k + i) o (xs.getD i anyV) := by
 intro l
 induction l with
 | nil => intro xs k _ i o h; simp at h
 | cons o r ih =>
  intro xs k h i o' ho
  cases xs with
  | nil => exact h.elim
  | cons x xs =>
   cases i with
   | zero => simp at ho; subst ho; exact h.1
   | succ i =>
    have := ih xs (k + 1) h.2 i o' (by simpa using ho); have e : k + 1 + i = k + (i + 1) := by omega
    rw [e] at this; exact this
theorem wp_reg_m (T : World -> World -> Prop) (M : (Nat -> Bool) -> (Nat -> Value) -> World -> Prop) (h0 : ∀ w, T w w) (htr : ∀ a b c, T a b -> T b c -> T a c) {P : Program} {l : List Oper} {Q : Exit -> Act -> World -> Prop} {id : Nat} {a : Act} {w : World} (ds : List (Option Tmp)) (V : List VP) (hds : l.map (·.dst) = ds) (hm : P.follows .mixedOrders = true)
  (hd : distinct ds = true) (hf : fwdFrom l 0 = true) (hM0 : ∀ L u, (∀ j, j < l.length -> L j = false) -> M L u w.drew) (hkeep : ∀ i v w w', V.getD i anyV v w -> T w w' -> V.getD i anyV v w') (hsteps : RaAllM T M P l.toArray Q V ds w.drew a 0 l V)
  (hpost : ∀ u w', T w.drew w' -> M (fun _ => true) u w' -> (∀ i, i < l.length -> V.getD i anyV (u i) w') -> Q .normal (putAll ds 0 u a) w') : (Code.region id l.toArray true).wp P Q a w := by
 have hds' : dsts l.toArray = ds := hds; subst hds'; refine wp_region_any hm ?_; obtain ⟨u, hu⟩ := putAll_self (dsts l.toArray) 0 a; have := reg_anyM (P := P) (ops := l.toArray) (Q := Q) (fun i v w => V.getD i anyV v w) M T htr hkeep hd hf (a0 := a) (w0 := w.drew) (fun i hi o ho L u w hT hL hD hM K hK => by
   have h1 := hsteps.get l V 0 i o (by simpa using ho); rw [Nat.zero_add] at h1; have := h1 L u (putAll (dsts l.toArray) 0 u a).tmps w hT hL (fun j hj => (hD j hj).1) (depF_of hd fun j hj => ⟨(hD j hj).2, rfl⟩) oldF_of hM K (by rw [<- frame_of]; exact hK); rw [<- frame_of] at this; exact this)
  (fun u w' hT hM hu => hpost u w' hT hM (fun i hi => hu i (by simpa using hi))) l.toArray.size (Array.replicate l.toArray.size false) u w.drew (by simp) (by
  have := List.length_filter_le (fun j => !(Array.replicate l.toArray.size false).getD j true) (List.range l.toArray.size)
  simpa using this) (h0 _) (hM0 _ _ fun j hj => by
   simp [Array.getD]; exact hj) (fun i hi h => by
   have h2 : i < l.length := by simpa using hi
   simp [Array.getD] at h
   omega)
 rw [hu] at this; exact this
open Go.RowKit

open Go in
theorem run_append_none {P : Program} (w : World) (base : Nat) (t ty e : TypeId) (i : TypeInfo) (size c : Nat) (ht : P.underlying t = some (.slice e)) (hi : P.info? e = some i)
  (v : Value) (n : Nat) (xs : List Value) (hown : w.ownsRow base e size v n xs) :
  (Builtin.append_ #[t, t] ty #[v, .slice none 0 c]).run P w = .ok v w := by
 rcases hown.2 with ⟨rfl, rfl⟩ | ⟨g, cap, cur, rfl, _, _, hnc, _⟩
 ·simp [Builtin.append_, run_underlying ht, sizeOf, typeInfo, hi, Builtin.lenOf, Builtin.firstCells]
 ·simp [Builtin.append_, run_underlying ht, sizeOf, typeInfo, hi, Builtin.lenOf, Builtin.firstCells, hnc, storeCells]
open Go in
theorem run_append_src {P : Program} (w : World) (base : Nat) (t ty e : TypeId) (i : TypeInfo) (z : Value) (size bytes : Nat) (ht : P.underlying t = some (.slice e)) (hi : P.info? e = some i) (hz : i.zero = some z)
  (hsize : i.size = size) (hby : i.bytes = bytes) (hzs : z.cells.size = size) (hsz : 0 < size)
  (v : Value) (n : Nat) (xs : List Value) (hown : w.ownsRow base e size v n xs) (A : Option Addr) (m c : Nat) (news : List Value) (hl : news.length = m * size) (hr : Rd w A news) (h1 : ∀ u ∈ news, u.oneCell' = true)
  (h63 : n + m <= maxLen) (hbytes : (n + m) * bytes <= 140737488355328) (hbase : base <= w.heap.size) :
  ∃ v' w', (Builtin.append_ #[t, t] ty #[v, .slice A m c]).run P w = .ok v' w' /\ w'.ownsRow base e size v' (n + m) (xs ++ news) /\ w.grownBy w' v.ownBlock /\ (v'.ownBlock = v.ownBlock \/ v'.ownBlock = some w.heap.size) := by
 cases A with
 | none =>
  have hn : news = [] := by
   cases news with
   | nil => rfl
   | cons u r => obtain ⟨b, off, e, -⟩ := hr 0 u rfl; cases e
  subst hn; have hm : m = 0 := by
   rcases Nat.eq_zero_or_pos m with h | h
   ·exact h
   ·have := Nat.mul_pos h hsz; simp at hl; omega
  subst hm; exact ⟨v, w, run_append_none w base t ty e i size c ht hi v n xs hown, by simpa using hown, World.grownBy.refl _ _, .inl rfl⟩
 | some ad =>
  obtain ⟨v', w', hr', h2, h3, _, h5⟩ := run_append_own_at (P := P) w base t ty e i z size bytes ht hi hz hsize hby hzs hsz v n xs hown ad m c news hl (fun j u hu => by
   obtain ⟨b, off, e, hc⟩ := hr j u hu
   injection e with e
   subst e; rw [Addr.add_lit]; exact hc) h1 h63 hbytes hbase
  exact ⟨v', w', hr', h2, h3, h5⟩
structure AM (B3 : Nat) (E : TypeId) (size gc : Nat) (cs : List Value) (idx n1 : Nat) (xs1 : List Value) (n2 : Nat) (xs2 : List Value) (l2 l5 l7 : Bool) (v2 v5 : Value) (w : World) : Prop where
 h52 : l5 = true -> l2 = true
 h75 : l7 = true -> l5 = true
 r2 : l2 = true -> l5 = false -> w.ownsRow B3 E size v2 n1 xs1
 r5 : l5 = true -> w.ownsRow B3 E size v5 (n1 + n2) (xs1 ++ xs2)
 c0 : l7 = false -> Own w gc 30 cs
 c1 : l7 = true -> Own w gc 30 (cs.set idx v5)
 hB : B3 <= w.heap.size
 hg : gc < B3
section
variable {B3 : Nat} {E : TypeId} {size gc : Nat} {cs : List Value} {idx n1 : Nat} {xs1 : List Value} {n2 : Nat} {xs2 : List Value} {l2 l5 l7 : Bool} {v2 v5 : Value} {w w' : World}
theorem AM.start (hc : Own w gc 30 cs) (hB : B3 <= w.heap.size) (hg : gc < B3) (v2 v5 : Value) : AM B3 E size gc cs idx n1 xs1 n2 xs2 false false false v2 v5 w :=
 ⟨(fun h => nomatch h), (fun h => nomatch h), (fun h => nomatch h), (fun h => nomatch h), fun _ => hc, (fun h => nomatch h), hB, hg⟩
theorem grown_chg {row : Option Nat} (hgr : w.grownBy w' row) (hr : ∀ k, row = some k -> B3 <= k) : Chg (fun k => k = gc \/ B3 <= k) w w' :=
 ⟨hgr.os, hgr.tape, hgr.output, hgr.size, fun k hk hn => hgr.block k hk fun e => hn (.inr (hr k e.symm))⟩
theorem grown_own {row : Option Nat} {g : Nat} {t : TypeId} {xs : List Value} (hgr : w.grownBy w' row) (ho : Own w g t xs) (hr : row ≠ some g) : Own w' g t xs := (hgr.block g ho.lt (fun e => hr e.symm)).trans ho
theorem AM.a2 (h : AM B3 E size gc cs idx n1 xs1 n2 xs2 l2 l5 l7 v2 v5 w) (hl : l2 = false) {v : Value} (ho : w'.ownsRow B3 E size v n1 xs1) (hgr : w.grownBy w' none) : AM B3 E size gc cs idx n1 xs1 n2 xs2 true l5 l7 v v5 w' := by
 have h5 : l5 = false := by cases l5 with | false => rfl | true => have := h.h52 rfl; rw [hl] at this; cases this
 have h7 : l7 = false := by cases l7 with | false => rfl | true => have := h.h75 rfl; rw [h5] at this; cases this
 subst h5 h7; exact ⟨(fun h => nomatch h), (fun h => nomatch h), fun _ _ => ho, (fun h => nomatch h), fun _ => grown_own hgr (h.c0 rfl) (by simp), (fun h => nomatch h), Nat.le_trans h.hB hgr.size, h.hg⟩
theorem AM.a5 (h : AM B3 E size gc cs idx n1 xs1 n2 xs2 l2 l5 l7 v2 v5 w) (hl2 : l2 = true) (hl : l5 = false) {v : Value} (ho : w'.ownsRow B3 E size v (n1 + n2) (xs1 ++ xs2)) (hgr : w.grownBy w' v2.ownBlock) : AM B3 E size gc cs idx n1 xs1 n2 xs2 l2 true l7 v2 v w' := by
 have h7 : l7 = false := by cases l7 with | false => rfl | true => have := h.h75 rfl; rw [hl] at this; cases this
 subst h7; exact ⟨fun _ => hl2, (fun h => nomatch h), (fun _ h => nomatch h), fun _ => ho, fun _ => grown_own hgr (h.c0 rfl) (fun e => by have := own_lt (h.r2 hl2 hl) gc e; have := h.hg; omega), (fun h => nomatch h), Nat.le_trans h.hB hgr.size, h.hg⟩
theorem AM.s7 (h : AM B3 E size gc cs idx n1 xs1 n2 xs2 l2 l5 l7 v2 v5 w) (hl5 : l5 = true) (hl : l7 = false) : AM B3 E size gc cs idx n1 xs1 n2 xs2 l2 l5 true v2 v5 (w.setCell ⟨gc, idx, none⟩ v5) := by
 subst hl5; refine ⟨h.h52, fun _ => rfl, (fun _ h => nomatch h), fun _ => (h.r5 rfl).kept (grownBy_setCell w ⟨gc, idx, none⟩ v5) (.inr fun e => by have := own_lt (h.r5 rfl) gc e; have := h.hg; omega), (fun h => nomatch h), fun _ => (h.c0 hl).set_ idx v5, by simp only [World.setCell, Array.size_modify]; exact h.hB, h.hg⟩
end
theorem Own.set7' {w : World} {g : Nat} {t : TypeId} {a b c d e f h : Value} (o : Own w g t [a, b, c, d, e, f, h]) (u v x y z q p : Value) :
  Own (((((((w.setCell ⟨g, 0, none⟩ u).setCell ⟨g, 1, none⟩ v).setCell ⟨g, 2, none⟩ x).setCell ⟨g, 3, none⟩ y).setCell ⟨g, 4, none⟩ z).setCell ⟨g, 5, none⟩ q).setCell ⟨g, 6, none⟩ p) g t [u, v, x, y, z, q, p] :=
 ((((((o.set_ 0 u).set_ 1 v).set_ 2 x).set_ 3 y).set_ 4 z).set_ 5 q).set_ 6 p
theorem Below.set7' {B : Nat} {w w' : World} (h : Below B w w') {g : Nat} (hg : B <= g) (u v x y z q p : Value) :
  Below B w (((((((w'.setCell ⟨g, 0, none⟩ u).setCell ⟨g, 1, none⟩ v).setCell ⟨g, 2, none⟩ x).setCell ⟨g, 3, none⟩ y).setCell ⟨g, 4, none⟩ z).setCell ⟨g, 5, none⟩ q).setCell ⟨g, 6, none⟩ p) :=
 ((((((h.setCell hg u).setCell hg v).setCell hg x).setCell hg y).setCell hg z).setCell hg q).setCell hg p
open Go.RowKit

theorem flat_set {k : Nat} : ∀ {es : List (List Value)} (_ : ∀ e ∈ es, e.length = k) (i : Nat) (e : List Value) (j : Nat) (u : Value), es[i]? = some e -> j < k -> es.flatten.set (i * k + j) u = (es.set i (e.set j u)).flatten := by
 intro es
 induction es with
 | nil => intro _ i e j u h; simp at h
 | cons x r ih =>
  intro hk i e j u h hj; have hx := hk x (by simp)
  cases i with
  | zero =>
   have h : x = e := by simpa using h
   subst h; rw [List.flatten_cons, Nat.zero_mul, Nat.zero_add, List.set_append_left _ _ (by omega), List.set_cons_zero, List.flatten_cons]
  | succ i =>
   have := ih (fun e he => hk e (by simp [he])) i e j u (by simpa using h) hj; rw [List.flatten_cons, List.set_append_right _ _ (by rw [hx, Nat.add_mul]; omega), hx]; have e9 : (i + 1) * k + j - k = i * k + j := by rw [Nat.add_mul]; omega
   rw [e9, this, List.set_cons_succ, List.flatten_cons]
section
variable {α : Type} {k : Nat} {E : α -> List Value -> Prop} {es : List (List Value)} {l : List α}
theorem Els.set (h : Els k E es l) {i : Nat} {e : List Value} {x : α} (he : e.length = k) (hx : E x e) : Els k E (es.set i e) (l.set i x) := by
 refine ⟨by simp [h.len], fun e' he' => ?_, fun i' e' x' h1 h2 => ?_⟩
 ·rcases List.mem_or_eq_of_mem_set he' with h1 | h1
  ·exact h.wide _ h1
  ·rw [h1]; exact he
 ·rw [List.getElem?_set] at h1 h2
  by_cases hi : i = i'
  ·subst hi; rw [if_pos rfl] at h1 h2
   split at h1
   ·split at h2
    ·cases h1; cases h2; exact hx
    ·cases h2
   ·cases h1
  ·rw [if_neg hi] at h1 h2; exact h.each _ _ _ h1 h2
def upTo (A B : List α) (f : α -> α) (j : Nat) : List α := A ++ (B.take j).map f ++ B.drop j
theorem upTo_zero (A B : List α) (f : α -> α) : upTo A B f 0 = A ++ B := by simp [upTo]
theorem upTo_all (A B : List α) (f : α -> α) : upTo A B f B.length = A ++ B.map f := by simp [upTo]
theorem upTo_get (A B : List α) (f : α -> α) {j : Nat} (hj : j < B.length) : (upTo A B f j)[A.length + j]? = some B[j] := by
 have e : A.length + j - (A ++ (B.take j).map f).length = 0 := by simp; omega
 rw [upTo, List.getElem?_append_right (by simp; omega), e, List.getElem?_drop, Nat.add_zero, List.getElem?_eq_getElem hj]
theorem upTo_step (A B : List α) (f : α -> α) {j : Nat} (hj : j < B.length) : (upTo A B f j).set (A.length + j) (f B[j]) = upTo A B f (j + 1) := by
 have e : A.length + j - (A ++ (B.take j).map f).length = 0 := by simp; omega
 rw [upTo, List.set_append_right _ _ (by simp; omega), e, List.drop_eq_getElem_cons hj, List.set_cons_zero, upTo, List.take_succ_eq_append_getElem hj, List.map_append]
 simp
end
def sh (n : Nat) (t : Spn) : Spn := { t with lo := t.lo + n, hi := t.hi + n }
def shN (n m : Nat) (t : Nd) : Nd := (t.1, t.2.1 + n, t.2.2.1 + n, if 0 <= t.2.2.2 then t.2.2.2 + m else t.2.2.2)
theorem text_in {C : Cor} (h : TextsOK C) {i : Nat} (hi : i < C.texts.length) : 0 <= C.texts[i].lo /\ C.texts[i].lo <= C.toks.length /\ 0 <= C.texts[i].hi /\ C.texts[i].hi <= C.toks.length := by
 obtain ⟨z, hz⟩ := h.all; have := hz.span i hi hi
 omega
theorem any_in {C : Cor} (h : TextsOK C) {a b : Int} (hi : C.texts.any (wiP a b) = true) : 0 <= a /\ a <= C.toks.length /\ 0 <= b /\ b <= C.toks.length := by
 obtain ⟨t, ht, hw⟩ := List.any_eq_true.1 hi; obtain ⟨i, hl, rfl⟩ := List.getElem_of_mem ht; have := text_in h hl
 simp only [wiP, Bool.and_eq_true, decide_eq_true_eq] at hw
 omega
end Go.Proofs.YtjimfbmegmnocaaGreatDoor
