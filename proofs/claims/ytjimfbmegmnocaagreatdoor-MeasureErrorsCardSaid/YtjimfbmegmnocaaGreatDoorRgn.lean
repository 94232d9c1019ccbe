/- Parts of the proof: Qi, Rgn. No condition of its own. -/
import Derived.Test.YtjimfbmegmnocaaGreatDoorCnh
import Derived.Test.YtjimfbmegmnocaaGreatDoorCma
set_option linter.unusedSimpArgs false
set_option linter.unusedVariables false
namespace Go.Proofs.YtjimfbmegmnocaaGreatDoor
open Go.RowKit

theorem Rd.map0 {w : World} {A : Option Addr} {xs : List Value} (h : Rd w A xs) : Rd w (A.map (·.add 0)) xs := by
 intro j u hu; obtain ⟨b, off, rfl, hc⟩ := h j u hu; exact ⟨b, off, by simp [Addr.add_lit], hc⟩
theorem Rd.mapk {w : World} {A : Option Addr} {xs : List Value} (h : Rd w A xs) (k : Nat) : Rd w (A.map (·.add k)) (xs.drop k) := by
 intro j u hu; rw [List.getElem?_drop] at hu; obtain ⟨b, off, rfl, hc⟩ := h _ u hu; exact ⟨b, off + k, by simp [Addr.add_lit], by rw [Nat.add_assoc]; exact hc⟩
open Go in
theorem sliced_to {P : Program} {t e : TypeId} {sz : Nat} (ht : P.underlying t = some (.slice e)) (hz : ∀ w, (sizeOf e).run P w = .ok sz w) (A : Option Addr) (n c k : Nat) (hk : k <= c) :
  ∃ A1, (∀ W, (Instr.slice t (.slice A n c) none (some (.int .i64 (k : Int))) none).run P W = .ok (.slice A1 k c) W) /\ ∀ w xs, Rd w A xs -> Rd w A1 xs := by
 have ht' : P.underlying t = some (.slice (P.elem t)) := by simp [Program.elem, ht]
 have he : P.elem t = e := by simp [Program.elem, ht]
 refine ⟨if c = 0 then A else A.map (·.add (0 * sz)), fun W => ?_, fun w xs h => ?_⟩
 ·rw [run_slice_h W t _ _ _ ht' .i64 _ (by omega) (by omega), he, hz]
  simp [Result.andThen, sliced]
 ·split
  ·exact h
  ·rw [Nat.zero_mul]; exact h.map0
open Go in
theorem sliced_from {P : Program} {t e : TypeId} {sz : Nat} (ht : P.underlying t = some (.slice e)) (hz : ∀ w, (sizeOf e).run P w = .ok sz w) (A : Option Addr) (n c k : Nat) (hk : k <= n) (hn : n <= c) :
  ∃ A1, (∀ W, (Instr.slice t (.slice A n c) (some (.int .i64 (k : Int))) none none).run P W = .ok (.slice A1 (n - k) (c - k)) W) /\ ∀ w xs, xs.length = n * sz -> Rd w A xs -> Rd w A1 (xs.drop (k * sz)) := by
 have ht' : P.underlying t = some (.slice (P.elem t)) := by simp [Program.elem, ht]
 have he : P.elem t = e := by simp [Program.elem, ht]
 refine ⟨if c = k then A else A.map (·.add (k * sz)), fun W => ?_, fun w xs hl h => ?_⟩
 ·rw [run_slice_l W t _ _ _ ht' .i64 _ (by omega) (by omega), he, hz]
  simp [Result.andThen, sliced]
 ·split
  ·have hk9 : n = k := by omega
   have : xs.drop (k * sz) = [] := List.drop_eq_nil_of_le (by rw [hl, hk9]; exact Nat.le_refl _); rw [this]; exact Rd.nil _ _
  ·exact h.mapk _
structure IM (B9 : Nat) (E : TypeId) (size n1 : Nat) (xs1 x : List Value) (n2 : Nat) (xs2 : List Value) (l0 l4 l6 l7 l11 : Bool) (u0 u4 u6 u7 u11 : Value) (w : World) : Prop where
 h40 : l4 = true -> l0 = true
 h76 : l7 = true -> l6 = true
 h74 : l7 = true -> l4 = true
 hb7 : l11 = true -> l7 = true
 r0 : l0 = true -> l4 = false -> w.ownsRow B9 E size u0 0 []
 r4 : l4 = true -> l7 = false -> w.ownsRow B9 E size u4 n1 xs1
 r6 : l6 = true -> l7 = false -> ∃ g, u6 = .slice (some ⟨g, 0, none⟩) 1 1 /\ Own w g E x /\ (l0 = true -> l4 = false -> u0.ownBlock ≠ some g) /\ (l4 = true -> u4.ownBlock ≠ some g)
 r7 : l7 = true -> l11 = false -> w.ownsRow B9 E size u7 (n1 + 1) (xs1 ++ x)
 r11 : l11 = true -> w.ownsRow B9 E size u11 (n1 + 1 + n2) (xs1 ++ x ++ xs2)
 hs : B9 <= w.heap.size
section
variable {B9 : Nat} {E : TypeId} {size n1 : Nat} {xs1 x : List Value} {n2 : Nat} {xs2 : List Value} {l0 l4 l6 l7 l11 : Bool} {u0 u4 u6 u7 u11 : Value} {w w' : World}
theorem IM.start (hs : B9 <= w.heap.size) (u0 u4 u6 u7 u11 : Value) : IM B9 E size n1 xs1 x n2 xs2 false false false false false u0 u4 u6 u7 u11 w :=
 ⟨(fun h => nomatch h), (fun h => nomatch h), (fun h => nomatch h), (fun h => nomatch h), (fun h => nomatch h), (fun h => nomatch h), (fun h => nomatch h), (fun h => nomatch h), (fun h => nomatch h), hs⟩
theorem bool_f {p q : Bool} (h : p = true -> q = true) (hq : q = false) : p = false := by cases p with | false => rfl | true => rw [hq] at h; exact absurd (h rfl) (by decide)
theorem IM.i0 (h : IM B9 E size n1 xs1 x n2 xs2 l0 l4 l6 l7 l11 u0 u4 u6 u7 u11 w) (hl : l0 = false) : IM B9 E size n1 xs1 x n2 xs2 true l4 l6 l7 l11 (.slice (some ⟨w.heap.size, 0, none⟩) 0 0) u4 u6 u7 u11 (w.alloc (.cells #[] E)) := by
 have h4 := bool_f h.h40 hl; have h7 := bool_f h.h74 h4; have hb := bool_f h.hb7 h7; subst h4 h7 hb; have N := (new1 w [] E).2; refine ⟨(fun h => nomatch h), (fun h => nomatch h), (fun h => nomatch h), (fun h => nomatch h), fun _ _ => World.ownsRow_lit w #[] 0 h.hs (by unfold maxLen; omega) (by simp), (fun h => nomatch h), fun a b => ?_, (fun h => nomatch h), (fun h => nomatch h), Nat.le_trans h.hs N.size⟩; obtain ⟨g, e1, e2, -, -⟩ := h.r6 a b; exact ⟨g, e1, e2.alloc _, fun _ _ e => by have := e2.lt; simp [Value.ownBlock] at e; omega, (fun h => nomatch h)⟩
theorem IM.i4 (h : IM B9 E size n1 xs1 x n2 xs2 l0 l4 l6 l7 l11 u0 u4 u6 u7 u11 w) (hl0 : l0 = true) (hl : l4 = false) {v : Value} (ho : w'.ownsRow B9 E size v n1 xs1) (hgr : w.grownBy w' u0.ownBlock) (hat : v.ownBlock = u0.ownBlock \/ v.ownBlock = some w.heap.size) : IM B9 E size n1 xs1 x n2 xs2 l0 true l6 l7 l11 u0 v u6 u7 u11 w' := by
 have h7 := bool_f h.h74 hl; have hb := bool_f h.hb7 h7; subst h7 hb; refine ⟨fun _ => hl0, (fun h => nomatch h), (fun h => nomatch h), (fun h => nomatch h), (fun _ h => nomatch h), fun _ _ => ho, fun a b => ?_, (fun h => nomatch h), (fun h => nomatch h), Nat.le_trans h.hs hgr.size⟩; obtain ⟨g, e1, e2, e3, -⟩ := h.r6 a b; have hne := e3 hl0 hl; refine ⟨g, e1, grown_own hgr e2 hne, (fun _ h => nomatch h), fun _ e => ?_⟩
 rcases hat with h9 | h9
 ·rw [h9] at e; exact hne e
 ·rw [h9] at e; have := e2.lt; injection e with e; omega
theorem IM.i6 (h : IM B9 E size n1 xs1 x n2 xs2 l0 l4 l6 l7 l11 u0 u4 u6 u7 u11 w) (hl : l6 = false) : IM B9 E size n1 xs1 x n2 xs2 l0 l4 true l7 l11 u0 u4 (.slice (some ⟨w.heap.size, 0, none⟩) 1 1) u7 u11 (w.alloc (.cells x.toArray E)) := by
 have h7 := bool_f h.h76 hl; have hb := bool_f h.hb7 h7; subst h7 hb; have N := new1 w x E; refine ⟨h.h40, (fun h => nomatch h), (fun h => nomatch h), (fun h => nomatch h), fun a b => ownsRow_below (h.r0 a b) N.2, fun a b => ownsRow_below (h.r4 a b) N.2, fun _ _ => ⟨_, rfl, N.1, fun a b e => ?_, fun a e => ?_⟩, (fun h => nomatch h), (fun h => nomatch h), Nat.le_trans h.hs N.2.size⟩
 ·have := ((h.r0 a b).lt _ e).2; omega
 ·have := ((h.r4 a rfl).lt _ e).2; omega
theorem IM.i7 (h : IM B9 E size n1 xs1 x n2 xs2 l0 l4 l6 l7 l11 u0 u4 u6 u7 u11 w) (hl4 : l4 = true) (hl6 : l6 = true) (hl : l7 = false) {v : Value} (ho : w'.ownsRow B9 E size v (n1 + 1) (xs1 ++ x)) (hgr : w.grownBy w' u4.ownBlock) : IM B9 E size n1 xs1 x n2 xs2 l0 l4 l6 true l11 u0 u4 u6 v u11 w' := by
 have hb := bool_f h.hb7 hl; subst hb hl4 hl6; exact ⟨h.h40, fun _ => rfl, fun _ => rfl, (fun h => nomatch h), (fun _ h => nomatch h), (fun _ h => nomatch h), (fun _ h => nomatch h), fun _ _ => ho, (fun h => nomatch h), Nat.le_trans h.hs hgr.size⟩
theorem IM.i11 (h : IM B9 E size n1 xs1 x n2 xs2 l0 l4 l6 l7 l11 u0 u4 u6 u7 u11 w) (hl7 : l7 = true) {v : Value} (ho : w'.ownsRow B9 E size v (n1 + 1 + n2) (xs1 ++ x ++ xs2)) (hgr : w.grownBy w' u7.ownBlock) : IM B9 E size n1 xs1 x n2 xs2 l0 l4 l6 l7 true u0 u4 u6 u7 v w' := by
 have h4 := h.h74 hl7; subst hl7; subst h4; exact ⟨h.h40, h.h76, h.h74, fun _ => rfl, (fun _ h => nomatch h), (fun _ h => nomatch h), (fun _ h => nomatch h), (fun _ h => nomatch h), fun _ => ho, Nat.le_trans h.hs hgr.size⟩
theorem below_grown9 {B : Nat} {row : Option Nat} (hgr : w.grownBy w' row) (hr : ∀ k, row = some k -> B <= k) (hB : B <= w.heap.size) : Below B w w' :=
 ⟨hgr.os, hgr.tape, hgr.output, hgr.size, fun k hk => hgr.block k (Nat.lt_of_lt_of_le hk hB) fun e => by have := hr k e.symm; omega⟩
end
open Go.RowKit

def StPreN (T : World -> World -> Prop) (M : (Nat -> Bool) -> (Nat -> Value) -> World -> Prop) (P : Program) (ops : Array Oper) (Q : Exit -> Act -> World -> Prop) (V : List VP) (Wr : Nat -> Prop) (ds : List (Option Tmp)) (w0 : World) (a0 : Act) (i : Nat) (o : Oper) (x : VP) : Prop :=
 ∀ (L : Nat -> Bool) (u : Nat -> Value) (t : Array Value) (w : World), T w0 w -> L i = false -> (∀ j, dep o j = true -> L j = true) -> DepF ds a0 (fun j v w => V.getD j anyV v w /\ v = u j) (fun j => dep o j = true) t w -> OldF Wr a0 t ->
  (∀ j q, ds.getD j none = some q -> q < a0.tmps.size -> t[q]? = some (u j)) -> M L u w ->
  ∀ K : Act -> World -> Prop, (∀ v w', T w w' -> x v w' -> M (upd L i true) (upd u i v) w' -> K (Act.put ⟨t, a0.defers⟩ o.dst v) w') ->
   if Region.wanted o (yielded ops t) = true then o.wp P ⟨t, a0.defers⟩ w K Q else K (Act.put ⟨t, a0.defers⟩ o.dst undef) w
def RaAllN (T : World -> World -> Prop) (M : (Nat -> Bool) -> (Nat -> Value) -> World -> Prop) (P : Program) (ops : Array Oper) (Q : Exit -> Act -> World -> Prop) (V : List VP) (ds : List (Option Tmp)) (w0 : World) (a0 : Act) : Nat -> List Oper -> List VP -> Prop
 | k, o :: r, x :: xs => StPreN T M P ops Q V (notIn ds) ds w0 a0 k o x /\ RaAllN T M P ops Q V ds w0 a0 (k + 1) r xs
 | _, [], [] => True
 | _, _, _ => False
theorem RaAllN.get {T : World -> World -> Prop} {M : (Nat -> Bool) -> (Nat -> Value) -> World -> Prop} {P : Program} {ops : Array Oper} {Q : Exit -> Act -> World -> Prop} {V : List VP} {ds : List (Option Tmp)} {w0 : World} {a0 : Act} : ∀ (l : List Oper) (xs : List VP) (k : Nat), RaAllN T M P ops Q V ds w0 a0 k l xs -> ∀ i o, l[i]? = some o -> StPreN T M P ops Q V (notIn ds) ds w0 a0 (k + i) o (xs.getD i anyV) := by
 intro l
 induction l with
 | nil => intro xs k _ i o h; simp at h
 | cons o r ih =>
  intro xs k h i o' ho
  cases xs with
  | nil => exact h.elim
  | cons x xs =>
   cases i with
   | zero => simp at ho; subst ho; exact h.1
   | succ i =>
    have := ih xs (k + 1) h.2 i o' (by simpa using ho); have e : k + 1 + i = k + (i + 1) := by omega
    rw [e] at this; exact this
theorem newF_of {ds : List (Option Tmp)} {a0 : Act} {u : Nat -> Value} (hd : distinct ds = true) : ∀ j q, ds.getD j none = some q -> q < a0.tmps.size -> (putAll ds 0 u a0).tmps[q]? = some (u j) := by
 intro j q hj hs; have h1 := putAll_new ds 0 u a0 j q hd hj hs; rw [Nat.zero_add] at h1; rw [<- h1]; exact get_some (by rw [putAll_size]; exact hs)
theorem wp_reg_n (T : World -> World -> Prop) (M : (Nat -> Bool) -> (Nat -> Value) -> World -> Prop) (h0 : ∀ w, T w w) (htr : ∀ a b c, T a b -> T b c -> T a c) {P : Program} {l : List Oper} {Q : Exit -> Act -> World -> Prop} {id : Nat} {a : Act} {w : World} (ds : List (Option Tmp)) (V : List VP) (hds : l.map (·.dst) = ds) (hm : P.follows .mixedOrders = true)
  (hd : distinct ds = true) (hf : fwdFrom l 0 = true) (hM0 : ∀ L u, (∀ j, j < l.length -> L j = false) -> (∀ j q, ds.getD j none = some q -> q < a.tmps.size -> a.tmps[q]? = some (u j)) -> M L u w.drew) (hkeep : ∀ i v w w', V.getD i anyV v w -> T w w' -> V.getD i anyV v w') (hsteps : RaAllN T M P l.toArray Q V ds w.drew a 0 l V)
  (hpost : ∀ u w', T w.drew w' -> M (fun _ => true) u w' -> (∀ i, i < l.length -> V.getD i anyV (u i) w') -> Q .normal (putAll ds 0 u a) w') : (Code.region id l.toArray true).wp P Q a w := by
 have hds' : dsts l.toArray = ds := hds; subst hds'; refine wp_region_any hm ?_; obtain ⟨u, hu⟩ := putAll_self (dsts l.toArray) 0 a; have := reg_anyM (P := P) (ops := l.toArray) (Q := Q) (fun i v w => V.getD i anyV v w) M T htr hkeep hd hf (a0 := a) (w0 := w.drew) (fun i hi o ho L u w hT hL hD hM K hK => by
   have h1 := hsteps.get l V 0 i o (by simpa using ho); rw [Nat.zero_add] at h1; have := h1 L u (putAll (dsts l.toArray) 0 u a).tmps w hT hL (fun j hj => (hD j hj).1) (depF_of hd fun j hj => ⟨(hD j hj).2, rfl⟩) oldF_of (newF_of hd) hM K (by rw [<- frame_of]; exact hK); rw [<- frame_of] at this; exact this)
  (fun u w' hT hM hu => hpost u w' hT hM (fun i hi => hu i (by simpa using hi))) l.toArray.size (Array.replicate l.toArray.size false) u w.drew (by simp) (by
  have := List.length_filter_le (fun j => !(Array.replicate l.toArray.size false).getD j true) (List.range l.toArray.size)
  simpa using this) (h0 _) (hM0 _ _ (fun j hj => by
   simp [Array.getD]; exact hj) (fun j q hj hs => by
   have h1 := newF_of (ds := dsts l.toArray) (a0 := a) (u := u) hd j q hj hs; rw [hu] at h1; exact h1)) (fun i hi h => by
   have h2 : i < l.length := by simpa using hi
   simp [Array.getD] at h
   omega)
 rw [hu] at this; exact this
end Go.Proofs.YtjimfbmegmnocaaGreatDoor
