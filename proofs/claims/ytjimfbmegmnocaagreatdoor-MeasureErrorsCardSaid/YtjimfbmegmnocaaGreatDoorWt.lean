/- Parts of the proof: Wp, Ws, Wr, Wt. No condition of its own. -/
import Derived.Test.YtjimfbmegmnocaaGreatDoorWa
import Derived.Test.YtjimfbmegmnocaaGreatDoorKp
import Derived.Test.YtjimfbmegmnocaaGreatDoorWc
import Derived.Test.YtjimfbmegmnocaaGreatDoorSlay
set_option linter.unusedSimpArgs false
set_option linter.unusedVariables false
namespace Go.Proofs.YtjimfbmegmnocaaGreatDoor
open Go.RowKit

def mk9 (bl : List Bool) (p : Nat -> Bool) : List Bool := bl.mapIdx fun j b => b || p j
section
variable {bl : List Bool} {p q : Nat -> Bool}
theorem mk9_len : (mk9 bl p).length = bl.length := by simp [mk9]
theorem mk9_get (i : Nat) : (mk9 bl p)[i]? = bl[i]?.map fun b => b || p i := by simp [mk9]
theorem mk9_same (h : ∀ j, j < bl.length -> p j = q j) : mk9 bl p = mk9 bl q := by
 apply List.ext_getElem?
 intro i; rw [mk9_get, mk9_get]
 rcases Nat.lt_or_ge i bl.length with hi | hi
 ·rw [h i hi]
 ·rw [List.getElem?_eq_none hi]; rfl
theorem mk9_none (h : ∀ j, j < bl.length -> p j = false) : mk9 bl p = bl := by
 apply List.ext_getElem?
 intro i; rw [mk9_get]
 rcases Nat.lt_or_ge i bl.length with hi | hi
 ·rw [h i hi, List.getElem?_eq_getElem hi]; simp
 ·rw [List.getElem?_eq_none hi]; rfl
theorem mk9_set {i : Nat} (hq : ∀ j, j < bl.length -> q j = (p j || decide (j = i))) : mk9 bl q = (mk9 bl p).set i true := by
 apply List.ext_getElem?
 intro j; rw [mk9_get, List.getElem?_set, mk9_get]
 rcases Nat.lt_or_ge j bl.length with hj | hj
 ·rw [hq j hj, List.getElem?_eq_getElem hj]
  by_cases e : i = j
  ·subst e; simp [mk9_len, hj]
  ·rw [if_neg e]; simp [show ¬ j = i from fun x => e x.symm]
 ·rw [List.getElem?_eq_none hj]
  by_cases e : i = j
  ·subst e; rw [if_pos rfl, if_neg (by rw [mk9_len]; omega)]; rfl
  ·rw [if_neg e]; rfl
theorem mk9_mk9 : mk9 (mk9 bl p) q = mk9 bl fun j => p j || q j := by
 apply List.ext_getElem?
 intro i; rw [mk9_get, mk9_get, mk9_get]
 cases bl[i]? with
 | none => rfl
 | some b => simp [Bool.or_assoc]
end
def hitB (t : Spn) (W : Int) (q : Int × Int) (j : Nat) : Bool := (decide (t.lo <= (j : Int)) && decide (q.1 - W <= (j : Int)) && decide ((j : Int) < q.1)) || (decide (q.2 <= (j : Int)) && decide ((j : Int) < t.hi) && decide ((j : Int) < q.2 + W))
def txtOf (C : Cor) (q : Int × Int) : Option Spn := C.texts.find? (inP q.1 q.2)
def nearStep (C : Cor) (W : Int) (bl : List Bool) (q : Int × Int) : List Bool := match txtOf C q with
 | some t => mk9 bl (hitB t W q)
 | none => bl
def nearL (C : Cor) (W : Int) (L : List (Int × Int)) : List Bool := L.foldl (nearStep C W) (List.replicate C.toks.length false)
theorem nearStep_len (C : Cor) (W : Int) (bl : List Bool) (q : Int × Int) : (nearStep C W bl q).length = bl.length := by
 unfold nearStep
 cases txtOf C q with
 | none => rfl
 | some t => exact mk9_len
theorem nearL_len (C : Cor) (W : Int) (L : List (Int × Int)) : (nearL C W L).length = C.toks.length := by
 unfold nearL; have : ∀ (L : List (Int × Int)) (bl : List Bool), (L.foldl (nearStep C W) bl).length = bl.length := by
  intro L
  induction L with
  | nil => intro bl; rfl
  | cons q r ih => intro bl; rw [List.foldl_cons, ih, nearStep_len]
 rw [this, List.length_replicate]
theorem nearL_snoc (C : Cor) (W : Int) (L : List (Int × Int)) (q : Int × Int) : nearL C W (L ++ [q]) = nearStep C W (nearL C W L) q := by
 unfold nearL; rw [List.foldl_append]
 rfl
structure FitC (C : Cor) : Prop where
 wide : ∀ row ∈ C.toks, C.attrs.length <= row.length
 texts : ChainT 0 C.texts C.toks.length
 few : C.toks.length <= 1000
theorem MadeC.fit {m : Nat} {C : Cor} (h : MadeC m C) (hm : m <= 1000) : FitC C := ⟨fun r hr => by rw [h.rows r hr, h.attrs]; decide, h.texts, Nat.le_trans h.few hm⟩
theorem ChainT.uniq : ∀ {l : List Spn} {a b : Int}, ChainT a l b -> ∀ {t u : Spn} {x : Int}, t ∈ l -> u ∈ l -> t.lo <= x -> x < t.hi -> u.lo <= x -> x < u.hi -> t = u := by
 intro l
 induction l with
 | nil => intro a b _ t u x ht; cases ht
 | cons s r ih =>
  intro a b h t u x ht hu h1 h2 h3 h4; obtain ⟨e1, e2, hr⟩ := h; have hrr := hr.range.2
  rcases List.mem_cons.1 ht with e | ht9
  ·subst e
   rcases List.mem_cons.1 hu with e | hu9
   ·exact e.symm
   ·have := hrr u hu9; omega
  ·rcases List.mem_cons.1 hu with e | hu9
   ·subst e; have := hrr t ht9; omega
   ·exact ih hr ht9 hu9 h1 h2 h3 h4
theorem txt_at {C : Cor} (hF : ChainT 0 C.texts C.toks.length) {q : Int × Int} {t : Spn} (h : txtOf C q = some t) : C.texts.find? (atP q.1) = some t /\ 0 <= t.lo /\ t.lo <= q.1 /\ q.1 < q.2 /\ q.2 <= t.hi /\ t.hi <= C.toks.length := by
 have hp := List.find?_some h; have hm := List.mem_of_find?_eq_some h
 simp only [inP, Bool.and_eq_true, decide_eq_true_eq] at hp
 obtain ⟨p1, p2, p3, p4⟩ := hp; have hr := (hF.range.2 t hm); refine ⟨?_, p1, p2, p3, p4, hr.2.2⟩
 cases hx : C.texts.find? (atP q.1) with
 | none =>
  have := List.find?_eq_none.1 hx t hm
  simp only [atP, Bool.and_eq_true, decide_eq_true_eq, not_and] at this
  have := this p2
  omega
 | some u =>
  have hu := List.find?_some hx
  simp only [atP, Bool.and_eq_true, decide_eq_true_eq] at hu
  rw [hF.uniq hm (List.mem_of_find?_eq_some hx) p2 (by omega) hu.1 hu.2]
theorem txt_no {C : Cor} (hF : ChainT 0 C.texts C.toks.length) {q : Int × Int} {t : Spn} (h : txtOf C q = none) (ht : C.texts.find? (atP q.1) = some t) : q.2 <= q.1 \/ t.hi < q.2 := by
 have hm := List.mem_of_find?_eq_some ht; have h0 := List.find?_eq_none.1 h t hm; have hu := List.find?_some ht
 simp only [atP, Bool.and_eq_true, decide_eq_true_eq] at hu
 simp only [inP, Bool.and_eq_true, decide_eq_true_eq, not_and] at h0
 have hr := (hF.range.2 t hm).1; have := h0 hr hu.1
 rcases Int.lt_or_le q.1 q.2 with h1 | h1
 ·have := this h1; exact .inr (by omega)
 ·exact .inl h1
def nearW (C : Cor) (a : Nat) (bl : List Bool) : List ByteArray := selN (wordsOf C a) bl C.toks.length
def colC (C : Cor) (a : Nat) (bl : List Bool) (s : ByteArray) : List Value := [.string s, .int .i64 ((cn (nearW C a bl) s : Nat) : Int), .int .i64 ((bl.count true : Nat) : Int), .int .i64 ((cn (wordsOf C a) s : Nat) : Int), .int .i64 ((C.toks.length : Nat) : Int)]
inductive ResC (C : Cor) (L : List (Int × Int)) (W a : Int) (B : Nat) (w : World) : Ending -> Prop
 | arg (h : a < 0 \/ (C.attrs.length : Int) <= a \/ W < 1 \/ 50 < W) : ResC C L W a B w (.returned (.tuple #[.slice none 0 0, .int .i64 1]))
 | range (h : ¬ (a < 0 \/ (C.attrs.length : Int) <= a \/ W < 1 \/ 50 < W)) (h2 : ∃ q ∈ L, txtOf C q = none) : ResC C L W a B w (.returned (.tuple #[.slice none 0 0, .int .i64 8]))
 | ok (h : ¬ (a < 0 \/ (C.attrs.length : Int) <= a \/ W < 1 \/ 50 < W)) (h2 : ∀ q ∈ L, txtOf C q ≠ none) (v : Value) (l : List ByteArray)
   (hv : EO (fun k => k < B) w 5 (fun s e => e = colC C a.toNat (nearL C W L) s) v l) (hs : Srt (ltC (cn (nearW C a.toNat (nearL C W L)))) l) (hm : ∀ s, s ∈ l ↔ s ∈ nearW C a.toNat (nearL C W L)) : ResC C L W a B w (.returned (.tuple #[v, .int .i64 0]))
def kwC (A D : Cor) (a : Nat) (s : ByteArray) : List Value := [.string s, .int .i64 ((cn (wordsOf A a) s : Nat) : Int), .int .i64 ((A.toks.length : Nat) : Int), .int .i64 ((cn (wordsOf A a) s + cn (wordsOf D a) s : Nat) : Int), .int .i64 ((A.toks.length + D.toks.length : Nat) : Int)]
inductive ResK (A D : Cor) (a : Int) (B : Nat) (w : World) : Ending -> Prop
 | arg (h : a < 0 \/ (A.attrs.length : Int) <= a \/ (D.attrs.length : Int) <= a) : ResK A D a B w (.returned (.tuple #[.slice none 0 0, .int .i64 1]))
 | type (h : ¬ (a < 0 \/ (A.attrs.length : Int) <= a \/ (D.attrs.length : Int) <= a)) (h2 : A.attrs ≠ D.attrs) : ResK A D a B w (.returned (.tuple #[.slice none 0 0, .int .i64 17]))
 | value (h : ¬ (a < 0 \/ (A.attrs.length : Int) <= a \/ (D.attrs.length : Int) <= a)) (h2 : A.attrs = D.attrs) (h3 : A.toks.length = 0 \/ D.toks.length = 0) : ResK A D a B w (.returned (.tuple #[.slice none 0 0, .int .i64 14]))
 | ok (h : ¬ (a < 0 \/ (A.attrs.length : Int) <= a \/ (D.attrs.length : Int) <= a)) (h2 : A.attrs = D.attrs) (h3 : ¬ (A.toks.length = 0 \/ D.toks.length = 0)) (v : Value) (l : List ByteArray)
   (hv : EO (fun k => k < B) w 5 (fun s e => e = kwC A D a.toNat s) v l) (hs : Srt (ltK (cn (wordsOf A a.toNat)) (cn (wordsOf D a.toNat))) l) (hm : ∀ s, s ∈ l ↔ s ∈ wordsOf A a.toNat) : ResK A D a B w (.returned (.tuple #[v, .int .i64 0]))
open Go.RowKit Go.Sort Go.Shelf

theorem isAggC (w : World) : (isAgg 49).run Tryz.prog w = .ok true w := by kernel_rfl
theorem sizeOfC (w : World) : (Go.sizeOf 49).run Tryz.prog w = .ok 5 w := by kernel_rfl
theorem chg_sortWorld {α : Type} [Inhabited α] (enc : α -> List Value) (k : Nat) (w : World) (g off m : Nat) (d : Array α) (os : Array Obj) : Chg (fun x => x = g) w (sortWorldK enc k w g off m d os) := by
 unfold sortWorldK; refine ⟨rfl, rfl, rfl, ?_, fun x hx hn => ?_⟩
 ·rw [size_grow]
  show w.heap.size <= (w.heap.modify g _).size + _
  rw [Array.size_modify]; omega
 ·rw [heap_grow_old _ _ (show x < (w.heap.modify g _).size by rw [Array.size_modify]; exact hx)]
  show (w.heap.modify g _)[x]? = _
  rw [Array.getElem?_modify, if_neg (fun e => hn e.symm)]
theorem srt_merge {lt : ByteArray -> ByteArray -> Bool} (T : Tot lt) {l : List ByteArray} (hn : l.Nodup) : Srt lt (l.mergeSort fun x y => !lt y x) := by
 have h1 : (l.mergeSort fun x y => !lt y x).Pairwise fun x y => (!lt y x) = true := by
  refine List.pairwise_mergeSort (le := fun x y => !lt y x) (fun a b c h1 h2 => ?_) (fun a b => ?_) l
  ·simp only [Bool.not_eq_true'] at *
   exact T.swo.ntrans c b a h2 h1
  ·cases h : lt b a with
   | false => rfl
   | true =>
    cases h2 : lt a b with
    | false => rfl
    | true => have := T.trans a b a h2 h; rw [T.irr] at this; cases this
 have h2 : (l.mergeSort fun x y => !lt y x).Nodup := (List.mergeSort_perm l _).nodup_iff.2 hn; refine (h1.and h2).imp fun {x y} ⟨a, b⟩ => ?_
 cases h : lt x y with
 | true => rfl
 | false => exact absurd (T.tri x y h (by simpa using a)) b
theorem sort_any (cc : ByteArray -> List Value) (hc5 : ∀ s, (cc s).length = 5) (hc1 : ∀ s, ∀ v ∈ cc s, v.oneCell' = true) (cf : ByteArray -> ByteArray -> Int) (lt : ByteArray -> ByteArray -> Bool) (hlt : ∀ x y, decide (cf x y < 0) = lt x y) (T : Tot lt) (g : Nat)
  (eg : ∀ args w, (callFunc g args).run Tryz.prog w = .ok (.enter g args) w)
  (hcl : ∀ x y w, Calls Tryz.prog g #[.agg (cc x).toArray, .agg (cc y).toArray] w fun e w' => e = .returned (.int .i64 (cf x y)) /\ GD w w')
  (w : World) (B : Nat) (v : Value) (l : List ByteArray) (es : List (List Value)) (hrow : w.ownsRow B 49 5 v l.length es.flatten) (hes : Els 5 (fun s e => e = cc s) es l) (hn : l.Nodup) (hl : l.length <= 1000000) :
  Calls Tryz.prog 25 #[v, .func (.func g) #[] #[]] w fun e w' => e = .returned (.tuple #[]) /\
   (∃ l', Srt lt l' /\ (∀ s, s ∈ l' ↔ s ∈ l) /\ EO (fun k => k < B) w' 5 (fun s e => e = cc s) v l') /\ Chg (fun k => B <= k) w w' := by
 have hfun : ltOf cf = lt := by funext x y; exact hlt x y
 obtain ⟨hlen, ⟨rfl, h0⟩ | ⟨gb, cap, cur, rfl, hB, hh, hnc, hcm, hcs, htk⟩⟩ := hrow
 ·obtain rfl : l = [] := List.eq_nil_of_length_eq_zero h0; have hz := AnyF.slices_SortFunc_none Tryz.sortCol none 0 (.func (.func g) #[] #[]) w; refine hz.mono ?_; rintro e w' ⟨rfl, rfl⟩; exact ⟨rfl, ⟨[], List.Pairwise.nil, fun s => Iff.rfl, EO.nil _ _ _ _⟩, Chg.refl _ _⟩
 ·have hd : l.toArray.size = l.length := by simp
  have hcell : ∀ (i : Nat) (hi : i < l.length) (j : Nat) (u : Value), (cc l[i])[j]? = some u -> w.cell? ⟨gb, i * 5 + j, none⟩ = some u := by
   intro i hi j u hu; obtain ⟨e, g1, g2, g3⟩ := hes.get hi; have h9 := flat_get hes.wide i e j u g1 (by rw [g3]; exact hu); rw [<- htk] at h9; rw [cell_of_row w gb _ cur _ (0, 0) hh]; rw [List.getElem?_take] at h9
   split at h9
   ·simpa using h9
   ·cases h9
  have hH : HoldsK cc 5 w gb 0 l.toArray := by
   intro t ht; have ht5 : t < l.length * 5 := by simpa using ht
   have hi : t / 5 < l.length := by omega
   have hj : t % 5 < (cc l[t / 5]).length := by rw [hc5]; omega
   refine ⟨?_, by simp [World.frozen?, hh]⟩; rw [get_flatK _ _ _ _ (by simpa using ht5)]; have e1 : l.toArray[t / 5]! = l[t / 5] := by simp [hi]
   rw [e1]; have := hcell (t / 5) hi (t % 5) (cc l[t / 5])[t % 5] (List.getElem?_eq_getElem hj); rw [show t / 5 * 5 + t % 5 = 0 + t by omega] at this; rw [this]
   simp [getElem!_pos, hj]
  have hlt9 : gb < w.heap.size := by
   rcases Nat.lt_or_ge gb w.heap.size with h | h
   ·exact h
   ·rw [Array.getElem?_eq_none h] at hh; cases hh
  have hcmp : CmpLays Tryz.prog g #[] cc 5 cf gb 0 l.toArray.size w := fun m os dk _ x y => (hcl x y _).mono fun e w' ⟨h1, h2⟩ => ⟨h1, h2.grow⟩; have hz := AnyQ.slices_SortFunc_total Tryz.sortCol 5 isAggC sizeOfC cc hc5 hc1 cf (hfun ▸ T.swo) g #[] gb 0 cap l.toArray w eg hcmp hH hlt9 (by rw [hd]; omega) (fun x y h1 h2 => T.tri x y (hfun ▸ h1) (hfun ▸ h2)); rw [hd] at hz; refine hz.mono ?_; rintro e w' ⟨rfl, n, os, rfl⟩; rw [hfun]; obtain ⟨l', hl'⟩ : ∃ l', l' = l.mergeSort fun x y => !lt y x := ⟨_, rfl⟩; have hlen' : l'.length = l.length := by rw [hl', List.length_mergeSort]
  have ha : (l.toArray.toList.mergeSort fun x y => !lt y x).toArray = l'.toArray := by rw [hl']
  rw [ha]; have hH' := holdsK_sortWorldK_c cc 5 w gb 0 l.toArray l'.toArray n os hH hlt9 (by simp [hlen']); refine ⟨rfl, ⟨l', hl' ▸ srt_merge T hn, fun s => by rw [hl']; exact (List.mergeSort_perm l _).mem_iff, l'.map cc, ⟨by simp, ?_, ?_⟩, some ⟨gb, 0, none⟩, cap, by rw [hlen'], by omega, hcm, ?_⟩, (chg_sortWorld cc 5 w gb 0 n l'.toArray os).mono fun k _ e => e ▸ hB⟩
  ·intro e he; obtain ⟨s, -, rfl⟩ := List.mem_map.1 he; exact hc5 s
  ·intro i e x h1 h2; rw [List.getElem?_map, h2] at h1; exact (Option.some.inj h1).symm
  ·intro j u hu; refine ⟨gb, 0, rfl, by omega, ?_⟩; have hw : ∀ e ∈ l'.map cc, e.length = 5 := fun e he => by obtain ⟨s, -, rfl⟩ := List.mem_map.1 he; exact hc5 s
   have hj : j < (l'.map cc).flatten.length := by
    rcases Nat.lt_or_ge j (l'.map cc).flatten.length with h | h
    ·exact h
    ·rw [List.getElem?_eq_none h] at hu; cases hu
   rw [flat_length hw, List.length_map] at hj; have hi : j / 5 < l'.length := by omega
   have hjj : j % 5 < (cc l'[j / 5]).length := by rw [hc5]; omega
   have h8 := (hH' j (by simpa using hj)).1; rw [h8]; have h7 := flat_get hw (j / 5) (cc l'[j / 5]) (j % 5) (cc l'[j / 5])[j % 5] (by rw [List.getElem?_map, List.getElem?_eq_getElem hi]; rfl) (List.getElem?_eq_getElem hjj); rw [show j / 5 * 5 + j % 5 = j by omega, hu] at h7; rw [h7, get_flatK _ _ _ _ (by simpa using hj)]; have e1 : l'.toArray[j / 5]! = l'[j / 5] := by simp [hi]
   rw [e1]
   simp [getElem!_pos, hjj]
open Go.RowKit

def Come (D : DataW Unit) (left : Lit -> Bool) (ss : List ByteArray) : Prop := ss.Nodup /\ ∀ s, s ∈ ss ↔ (Maps.has D (kyS s) = true /\ left (kyS s) = false)
theorem Come.start (D : DataW Unit) : Come D (Maps.has D) [] := ⟨List.nodup_nil, fun s => by cases Maps.has D (kyS s) <;> simp⟩
theorem Come.step {D : DataW Unit} {left : Lit -> Bool} {ss : List ByteArray} (h : Come D left ss) {s : ByteArray} {y : DataW Unit} (hlk : left (kyS s) = true) (hat : ∀ zd, D.atKey (kyS s) zd = y) : Come D (fun z => left z && !z.sameKey (kyS s)) (ss ++ [s]) := by
 have hhas : Maps.has D (kyS s) = true := Maps.has_true_of_atKey hat; have hnew : s ∉ ss := fun hx => by have := ((h.2 s).1 hx).2; rw [hlk] at this; cases this
 refine ⟨List.nodup_append.2 ⟨h.1, by simp, fun a ha b hb => by simp at hb; subst hb; exact fun e => hnew (e ▸ ha)⟩, fun y => ?_⟩
 by_cases hy : y = s
 ·subst hy; have h9 : (kyS y).sameKey (kyS y) = true := WideAt.sameKey_self (by unfold kyS; trivial)
  simp [hhas, h9]
 ·have hne : (kyS y).sameKey (kyS s) = false := Maps.sameKey_ne (kyS_ne hy)
  simp [h.2 y, hy, hne]
theorem Come.all {D : DataW Unit} {left : Lit -> Bool} {ss ws : List ByteArray} (h : Come D left ss) (hl : ∀ z, left z = false) (hC : Cnt D ws) : ∀ s, s ∈ ss ↔ s ∈ ws := fun s => by rw [h.2, hl, <- hC.has]; simp
theorem next_words {w : World} {b r n : Nat} {D : DataW Unit} {left : Lit -> Bool} {cnt : Nat} {ws : List ByteArray} (h : w.ranges Tryz.prog 9 (plainElem Tryz.prog 3) b r n D left cnt) (hC : Cnt D ws) (ty : TypeId) :
  (cnt = 0 /\ (∀ z, left z = false) /\ (Instr.next (.pointer (some ⟨r, 0, none⟩)) false ty).run Tryz.prog w = .ok (.tuple #[.bool false]) w) \/
  ∃ (s : ByteArray) (w' : World) (cnt' : Nat), s.size <= maxLen /\ left (kyS s) = true /\ (∀ zd, D.atKey (kyS s) zd = .lit (.int .i64 ((cn ws s : Nat) : Int))) /\ (Instr.next (.pointer (some ⟨r, 0, none⟩)) false ty).run Tryz.prog w = .ok (.tuple #[.bool true, .string s, .int .i64 ((cn ws s : Nat) : Int)]) w' /\
   w'.ranges Tryz.prog 9 (plainElem Tryz.prog 3) b r n D (fun z => left z && !z.sameKey (kyS s)) cnt' /\ cnt' < cnt /\ w.grownBy w' (some r) /\ w'.heap.size = w.heap.size /\ (Instr.entry (.pointer (some ⟨r, 0, none⟩))).run Tryz.prog w' = .ok (.tuple #[.string s, .int .i64 ((cn ws s : Nat) : Int)]) w' := by
 rcases h.next keyS ty with ⟨h0, hl, hrun⟩ | ⟨key, v, kl, y, w', cnt', hkey, hlk, hv, hat, hrun, hrg, hlt, hgr, hsz, hen⟩
 ·exact .inl ⟨h0, hl, hrun⟩
 ·obtain ⟨s, rfl, rfl, hs⟩ := WideMaps.string_of_keyOf Tryz.underlying9 hkey; obtain ⟨c, rfl, rfl, -⟩ := plainElem_int_inv Tryz.underlying3 hv; have hat' : D.atKey (kyS s) (.lit (.int .i64 0)) = .lit (.int .i64 c) := hat _; obtain rfl := hC.val hat'; exact .inr ⟨s, w', cnt', hs, hlk, hat, hrun, hrg, hlt, hgr, hsz, hen⟩
theorem MapW.look {w : World} {b n : Nat} {ws : List ByteArray} (h : MapW w b n ws) {s : ByteArray} (hs : s.size <= maxLen) : (Instr.lookup 64 (.map (some b)) (.string s) false).run Tryz.prog w = .ok (.int .i64 ((cn ws s : Nat) : Int)) w := by
 obtain ⟨D, hown, hC⟩ := h; obtain ⟨c, hlk, hat, -⟩ := hown.lookup_int keyS Tryz.underlying64 Tryz.underlying3 (zeroI _) (kyS_key hs); obtain rfl := hC.val hat; exact hlk
theorem MapW.lt {w : World} {b n : Nat} {ws : List ByteArray} (h : MapW w b n ws) : b < w.heap.size := let ⟨_, hown, _⟩ := h; hown.lt
theorem MapW.under {w w' : World} {b n R : Nat} {ws : List ByteArray} (h : MapW w b n ws) (hb : Below R w w') (hR : b < R) : MapW w' b n ws := h.chg (S := fun k => R <= k) (Chg.of_below hb fun k _ e => e) (by omega)
theorem near_two (t : Spn) {tl th p e W s0 e2 : Nat} (bl : List Bool) (h1 : t.lo = (tl : Int)) (h2 : t.hi = (th : Int)) (hp : p <= e) (h3 : max (tl : Int) ((p : Int) - (W : Int)) = (s0 : Int)) (h4 : min (th : Int) ((e : Int) + (W : Int)) = (e2 : Int)) :
  mk9 (mk9 bl fun j => decide (s0 <= j) && decide (j < p)) (fun j => decide (e <= j) && decide (j < e2)) = mk9 bl (hitB t (W : Int) ((p : Int), (e : Int))) := by
 rw [mk9_mk9]; refine mk9_same fun j _ => ?_; rw [Bool.eq_iff_iff]
 simp only [hitB, Bool.or_eq_true, Bool.and_eq_true, decide_eq_true_eq]
 omega
theorem cb_rep9 (n : Nat) : ((List.replicate n false).map Value.bool).toArray = Array.replicate n (.bool false) := by simp
theorem run_make_bools9 {P : Program} {t e : TypeId} (ht : P.underlying t = some (.slice e)) (hi : (P.info? e).map (fun i => (i.zero, i.size, i.bytes)) = some (some (.bool false), 1, 1)) (n : Nat) (hn : n <= 1073741824) (w : World) :
  (Instr.makeSlice t (.int .i64 (n : Int)) (.int .i64 (n : Int))).run P w = .ok (.slice (some ⟨w.heap.size, 0, none⟩) n n) (w.alloc (.cells (Array.replicate n (.bool false)) e)) := by
 rw [<- cb_rep9]; obtain ⟨i0, hi0, hz0, hz1, hz2⟩ := info_parts hi; have hr := run_make (P := P) w t e i0 _ ht hi0 hz0 .i64 .i64 n n (by omega) (by omega) (by rw [hz2]; omega) (by omega); rw [hr, hz1]; have : madeCells (Value.bool false).cells n = ((List.replicate n false).map Value.bool).toArray := by
  show madeCells #[Value.bool false] n = _
  rw [madeCells_one]
  simp
 simp only [Int.toNat_natCast, Nat.mul_one, this]
theorem bool_info9 : (Tryz.prog.info? 4).map (fun i => (i.zero, i.size, i.bytes)) = some (some (.bool false), 1, 1) := by kernel_rfl
theorem col_info9 : (Tryz.prog.info? 49).map (fun i => (i.zero, i.size, i.bytes)) = some (some (.agg #[.string ⟨#[]⟩, .int .i64 0, .int .i64 0, .int .i64 0, .int .i64 0]), 5, 48) := by kernel_rfl
theorem Mks.mark {w : World} {gb gn : Nat} {bl : List Bool} (h : Mks w gb gn bl) (hne : gb ≠ gn) (i : Nat) : Mks (w.setCell ⟨gn, i, none⟩ (.bool true)) gb gn (bl.set i true) := by
 refine ⟨?_, ?_⟩
 ·rw [List.length_set]; exact h.box.far hne _
 ·have := h.row.set_ i (.bool true)
  rwa [show (bl.map Value.bool).set i (.bool true) = (bl.set i true).map Value.bool from by rw [List.map_set]] at this
theorem Mks.cells {w : World} {gb gn : Nat} {bl : List Bool} (h : Mks w gb gn bl) {i : Nat} (hi : i < bl.length) : w.cell? ⟨gb, 0, none⟩ = some (.slice (some ⟨gn, 0, none⟩) bl.length bl.length) /\ w.cell? ⟨gn, i, none⟩ = some (.bool bl[i]) /\ w.frozen? ⟨gn, i, none⟩ = false :=
 ⟨h.box.cell 0, by rw [h.row.cell]; simp [hi], h.row.frozen i⟩
theorem ranges_room {w : World} {P : Program} {k : TypeId} {R : Value -> Option (DataW Unit × List MemPlace)} {b n : Nat} {D : DataW Unit} (h : w.ownsMap P k R b n D) : Maps.size D <= n := by
 obtain ⟨es, clock, hb, F, hs, rfl⟩ := h; rw [Maps.size_eq, Go.length_sorted]
 simpa using hs
theorem grown_below9 {w w' : World} {row : Option Nat} {B : Nat} (h : w.grownBy w' row) (hB : B <= w.heap.size) (hr : ∀ k, row = some k -> B <= k) : Below B w w' := ⟨h.os, h.tape, h.output, h.size, fun k hk => h.block k (by omega) fun e => by have := hr k e.symm; omega⟩
open Go.RowKit

theorem colC_one (C : Cor) (j : Nat) (bl : List Bool) (s : ByteArray) : ∀ v ∈ colC C j bl s, v.oneCell' = true := by
 intro v hv
 simp only [colC, List.mem_cons, List.not_mem_nil, or_false] at hv
 rcases hv with rfl | rfl | rfl | rfl | rfl <;> rfl
theorem kwC_one (A D : Cor) (j : Nat) (s : ByteArray) : ∀ v ∈ kwC A D j s, v.oneCell' = true := by
 intro v hv
 simp only [kwC, List.mem_cons, List.not_mem_nil, or_false] at hv
 rcases hv with rfl | rfl | rfl | rfl | rfl <;> rfl
theorem sort_cols (C : Cor) (j : Nat) (bl : List Bool) (w : World) (B : Nat) (v : Value) (l : List ByteArray) (es : List (List Value)) (hrow : w.ownsRow B 49 5 v l.length es.flatten) (hes : Els 5 (fun s e => e = colC C j bl s) es l) (hn : l.Nodup) (hl : l.length <= 1000000) :
  Calls Tryz.prog 25 #[v, .func (.func 39) #[] #[]] w fun e w' => e = .returned (.tuple #[]) /\
   (∃ l', Srt (ltC (cn (nearW C j bl))) l' /\ (∀ s, s ∈ l' ↔ s ∈ l) /\ EO (fun k => k < B) w' 5 (fun s e => e = colC C j bl s) v l') /\ Chg (fun k => B <= k) w w' :=
 sort_any (colC C j bl) (fun _ => rfl) (colC_one C j bl) (cfC (cn (nearW C j bl))) (ltC (cn (nearW C j bl))) (cfC_lt _) (ltC_tot _) 39 (enters_of Tryz.func39 (by kernel_rfl) rfl)
  (fun x y w => cmpC_any x y _ _ _ _ _ _ _ _ w) w B v l es hrow hes hn hl
theorem sort_kws (A D : Cor) (j : Nat) (hA : A.toks.length <= 1000) (hD : D.toks.length <= 1000) (w : World) (B : Nat) (v : Value) (l : List ByteArray) (es : List (List Value)) (hrow : w.ownsRow B 49 5 v l.length es.flatten) (hes : Els 5 (fun s e => e = kwC A D j s) es l) (hn : l.Nodup) (hl : l.length <= 1000000) :
  Calls Tryz.prog 25 #[v, .func (.func 26) #[] #[]] w fun e w' => e = .returned (.tuple #[]) /\
   (∃ l', Srt (ltK (cn (wordsOf A j)) (cn (wordsOf D j))) l' /\ (∀ s, s ∈ l' ↔ s ∈ l) /\ EO (fun k => k < B) w' 5 (fun s e => e = kwC A D j s) v l') /\ Chg (fun k => B <= k) w w' := by
 have h1 : ∀ s, cn (wordsOf A j) s <= 1000000 := fun s => by have := cn_le (wordsOf A j) s; rw [wordsOf_length] at this; omega
 have h2 : ∀ s, cn (wordsOf D j) s <= 1000000 := fun s => by have := cn_le (wordsOf D j) s; rw [wordsOf_length] at this; omega
 exact sort_any (kwC A D j) (fun _ => rfl) (kwC_one A D j) (cfK (cn (wordsOf A j)) (cn (wordsOf D j))) (ltK (cn (wordsOf A j)) (cn (wordsOf D j))) (cfK_lt _ _) (ltK_tot _ _) 26 (enters_of Tryz.func26 (by kernel_rfl) rfl)
  (fun x y w => cmpK_any x y (cn (wordsOf A j) x) (cn (wordsOf D j) x) _ (cn (wordsOf A j) y) (cn (wordsOf D j) y) _ _ _ _ _ rfl rfl (h1 x) (h2 x) (h1 y) (h2 y) w) w B v l es hrow hes hn hl
end Go.Proofs.YtjimfbmegmnocaaGreatDoor
