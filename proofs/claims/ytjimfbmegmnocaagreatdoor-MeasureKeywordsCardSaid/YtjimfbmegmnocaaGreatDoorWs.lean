/- Parts of the proof: Wp, Ws. No condition of its own. -/
import Derived.Test.YtjimfbmegmnocaaGreatDoorKp
import Derived.Test.YtjimfbmegmnocaaGreatDoorWc
import Derived.Test.YtjimfbmegmnocaaGreatDoorSlay
set_option linter.unusedSimpArgs false
set_option linter.unusedVariables false
namespace Go.Proofs.YtjimfbmegmnocaaGreatDoor
open Go.RowKit

def mk9 (bl : List Bool) (p : Nat -> Bool) : List Bool := bl.mapIdx fun j b => b || p j
section
variable {bl : List Bool} {p q : Nat -> Bool}
end
def hitB (t : Spn) (W : Int) (q : Int × Int) (j : Nat) : Bool := (decide (t.lo <= (j : Int)) && decide (q.1 - W <= (j : Int)) && decide ((j : Int) < q.1)) || (decide (q.2 <= (j : Int)) && decide ((j : Int) < t.hi) && decide ((j : Int) < q.2 + W))
def txtOf (C : Cor) (q : Int × Int) : Option Spn := C.texts.find? (inP q.1 q.2)
def nearStep (C : Cor) (W : Int) (bl : List Bool) (q : Int × Int) : List Bool := match txtOf C q with
 | some t => mk9 bl (hitB t W q)
 | none => bl
def nearL (C : Cor) (W : Int) (L : List (Int × Int)) : List Bool := L.foldl (nearStep C W) (List.replicate C.toks.length false)
structure FitC (C : Cor) : Prop where
 wide : ∀ row ∈ C.toks, C.attrs.length <= row.length
 texts : ChainT 0 C.texts C.toks.length
 few : C.toks.length <= 1000
theorem MadeC.fit {m : Nat} {C : Cor} (h : MadeC m C) (hm : m <= 1000) : FitC C := ⟨fun r hr => by rw [h.rows r hr, h.attrs]; decide, h.texts, Nat.le_trans h.few hm⟩
theorem ChainT.uniq : ∀ {l : List Spn} {a b : Int}, ChainT a l b -> ∀ {t u : Spn} {x : Int}, t ∈ l -> u ∈ l -> t.lo <= x -> x < t.hi -> u.lo <= x -> x < u.hi -> t = u := by
 intro l
 induction l with
 | nil => intro a b _ t u x ht; cases ht
 | cons s r ih =>
  intro a b h t u x ht hu h1 h2 h3 h4; obtain ⟨e1, e2, hr⟩ := h; have hrr := hr.range.2
  rcases List.mem_cons.1 ht with e | ht9
  ·subst e
   rcases List.mem_cons.1 hu with e | hu9
   ·exact e.symm
   ·have := hrr u hu9; omega
  ·rcases List.mem_cons.1 hu with e | hu9
   ·subst e; have := hrr t ht9; omega
   ·exact ih hr ht9 hu9 h1 h2 h3 h4
def nearW (C : Cor) (a : Nat) (bl : List Bool) : List ByteArray := selN (wordsOf C a) bl C.toks.length
def colC (C : Cor) (a : Nat) (bl : List Bool) (s : ByteArray) : List Value := [.string s, .int .i64 ((cn (nearW C a bl) s : Nat) : Int), .int .i64 ((bl.count true : Nat) : Int), .int .i64 ((cn (wordsOf C a) s : Nat) : Int), .int .i64 ((C.toks.length : Nat) : Int)]
inductive ResC (C : Cor) (L : List (Int × Int)) (W a : Int) (B : Nat) (w : World) : Ending -> Prop
 | arg (h : a < 0 \/ (C.attrs.length : Int) <= a \/ W < 1 \/ 50 < W) : ResC C L W a B w (.returned (.tuple #[.slice none 0 0, .int .i64 1]))
 | range (h : ¬ (a < 0 \/ (C.attrs.length : Int) <= a \/ W < 1 \/ 50 < W)) (h2 : ∃ q ∈ L, txtOf C q = none) : ResC C L W a B w (.returned (.tuple #[.slice none 0 0, .int .i64 8]))
 | ok (h : ¬ (a < 0 \/ (C.attrs.length : Int) <= a \/ W < 1 \/ 50 < W)) (h2 : ∀ q ∈ L, txtOf C q ≠ none) (v : Value) (l : List ByteArray)
   (hv : EO (fun k => k < B) w 5 (fun s e => e = colC C a.toNat (nearL C W L) s) v l) (hs : Srt (ltC (cn (nearW C a.toNat (nearL C W L)))) l) (hm : ∀ s, s ∈ l ↔ s ∈ nearW C a.toNat (nearL C W L)) : ResC C L W a B w (.returned (.tuple #[v, .int .i64 0]))
def kwC (A D : Cor) (a : Nat) (s : ByteArray) : List Value := [.string s, .int .i64 ((cn (wordsOf A a) s : Nat) : Int), .int .i64 ((A.toks.length : Nat) : Int), .int .i64 ((cn (wordsOf A a) s + cn (wordsOf D a) s : Nat) : Int), .int .i64 ((A.toks.length + D.toks.length : Nat) : Int)]
inductive ResK (A D : Cor) (a : Int) (B : Nat) (w : World) : Ending -> Prop
 | arg (h : a < 0 \/ (A.attrs.length : Int) <= a \/ (D.attrs.length : Int) <= a) : ResK A D a B w (.returned (.tuple #[.slice none 0 0, .int .i64 1]))
 | type (h : ¬ (a < 0 \/ (A.attrs.length : Int) <= a \/ (D.attrs.length : Int) <= a)) (h2 : A.attrs ≠ D.attrs) : ResK A D a B w (.returned (.tuple #[.slice none 0 0, .int .i64 17]))
 | value (h : ¬ (a < 0 \/ (A.attrs.length : Int) <= a \/ (D.attrs.length : Int) <= a)) (h2 : A.attrs = D.attrs) (h3 : A.toks.length = 0 \/ D.toks.length = 0) : ResK A D a B w (.returned (.tuple #[.slice none 0 0, .int .i64 14]))
 | ok (h : ¬ (a < 0 \/ (A.attrs.length : Int) <= a \/ (D.attrs.length : Int) <= a)) (h2 : A.attrs = D.attrs) (h3 : ¬ (A.toks.length = 0 \/ D.toks.length = 0)) (v : Value) (l : List ByteArray)
   (hv : EO (fun k => k < B) w 5 (fun s e => e = kwC A D a.toNat s) v l) (hs : Srt (ltK (cn (wordsOf A a.toNat)) (cn (wordsOf D a.toNat))) l) (hm : ∀ s, s ∈ l ↔ s ∈ wordsOf A a.toNat) : ResK A D a B w (.returned (.tuple #[v, .int .i64 0]))
open Go.RowKit Go.Sort Go.Shelf

theorem isAggC (w : World) : (isAgg 49).run Tryz.prog w = .ok true w := by kernel_rfl
theorem sizeOfC (w : World) : (Go.sizeOf 49).run Tryz.prog w = .ok 5 w := by kernel_rfl
theorem chg_sortWorld {α : Type} [Inhabited α] (enc : α -> List Value) (k : Nat) (w : World) (g off m : Nat) (d : Array α) (os : Array Obj) : Chg (fun x => x = g) w (sortWorldK enc k w g off m d os) := by
 unfold sortWorldK; refine ⟨rfl, rfl, rfl, ?_, fun x hx hn => ?_⟩
 ·rw [size_grow]
  show w.heap.size <= (w.heap.modify g _).size + _
  rw [Array.size_modify]; omega
 ·rw [heap_grow_old _ _ (show x < (w.heap.modify g _).size by rw [Array.size_modify]; exact hx)]
  show (w.heap.modify g _)[x]? = _
  rw [Array.getElem?_modify, if_neg (fun e => hn e.symm)]
theorem srt_merge {lt : ByteArray -> ByteArray -> Bool} (T : Tot lt) {l : List ByteArray} (hn : l.Nodup) : Srt lt (l.mergeSort fun x y => !lt y x) := by
 have h1 : (l.mergeSort fun x y => !lt y x).Pairwise fun x y => (!lt y x) = true := by
  refine List.pairwise_mergeSort (le := fun x y => !lt y x) (fun a b c h1 h2 => ?_) (fun a b => ?_) l
  ·simp only [Bool.not_eq_true'] at *
   exact T.swo.ntrans c b a h2 h1
  ·cases h : lt b a with
   | false => rfl
   | true =>
    cases h2 : lt a b with
    | false => rfl
    | true => have := T.trans a b a h2 h; rw [T.irr] at this; cases this
 have h2 : (l.mergeSort fun x y => !lt y x).Nodup := (List.mergeSort_perm l _).nodup_iff.2 hn; refine (h1.and h2).imp fun {x y} ⟨a, b⟩ => ?_
 cases h : lt x y with
 | true => rfl
 | false => exact absurd (T.tri x y h (by simpa using a)) b
theorem sort_any (cc : ByteArray -> List Value) (hc5 : ∀ s, (cc s).length = 5) (hc1 : ∀ s, ∀ v ∈ cc s, v.oneCell' = true) (cf : ByteArray -> ByteArray -> Int) (lt : ByteArray -> ByteArray -> Bool) (hlt : ∀ x y, decide (cf x y < 0) = lt x y) (T : Tot lt) (g : Nat)
  (eg : ∀ args w, (callFunc g args).run Tryz.prog w = .ok (.enter g args) w)
  (hcl : ∀ x y w, Calls Tryz.prog g #[.agg (cc x).toArray, .agg (cc y).toArray] w fun e w' => e = .returned (.int .i64 (cf x y)) /\ GD w w')
  (w : World) (B : Nat) (v : Value) (l : List ByteArray) (es : List (List Value)) (hrow : w.ownsRow B 49 5 v l.length es.flatten) (hes : Els 5 (fun s e => e = cc s) es l) (hn : l.Nodup) (hl : l.length <= 1000000) :
  Calls Tryz.prog 25 #[v, .func (.func g) #[] #[]] w fun e w' => e = .returned (.tuple #[]) /\
   (∃ l', Srt lt l' /\ (∀ s, s ∈ l' ↔ s ∈ l) /\ EO (fun k => k < B) w' 5 (fun s e => e = cc s) v l') /\ Chg (fun k => B <= k) w w' := by
 have hfun : ltOf cf = lt := by funext x y; exact hlt x y
 obtain ⟨hlen, ⟨rfl, h0⟩ | ⟨gb, cap, cur, rfl, hB, hh, hnc, hcm, hcs, htk⟩⟩ := hrow
 ·obtain rfl : l = [] := List.eq_nil_of_length_eq_zero h0; have hz := AnyF.slices_SortFunc_none Tryz.sortCol none 0 (.func (.func g) #[] #[]) w; refine hz.mono ?_; rintro e w' ⟨rfl, rfl⟩; exact ⟨rfl, ⟨[], List.Pairwise.nil, fun s => Iff.rfl, EO.nil _ _ _ _⟩, Chg.refl _ _⟩
 ·have hd : l.toArray.size = l.length := by simp
  have hcell : ∀ (i : Nat) (hi : i < l.length) (j : Nat) (u : Value), (cc l[i])[j]? = some u -> w.cell? ⟨gb, i * 5 + j, none⟩ = some u := by
   intro i hi j u hu; obtain ⟨e, g1, g2, g3⟩ := hes.get hi; have h9 := flat_get hes.wide i e j u g1 (by rw [g3]; exact hu); rw [<- htk] at h9; rw [cell_of_row w gb _ cur _ (0, 0) hh]; rw [List.getElem?_take] at h9
   split at h9
   ·simpa using h9
   ·cases h9
  have hH : HoldsK cc 5 w gb 0 l.toArray := by
   intro t ht; have ht5 : t < l.length * 5 := by simpa using ht
   have hi : t / 5 < l.length := by omega
   have hj : t % 5 < (cc l[t / 5]).length := by rw [hc5]; omega
   refine ⟨?_, by simp [World.frozen?, hh]⟩; rw [get_flatK _ _ _ _ (by simpa using ht5)]; have e1 : l.toArray[t / 5]! = l[t / 5] := by simp [hi]
   rw [e1]; have := hcell (t / 5) hi (t % 5) (cc l[t / 5])[t % 5] (List.getElem?_eq_getElem hj); rw [show t / 5 * 5 + t % 5 = 0 + t by omega] at this; rw [this]
   simp [getElem!_pos, hj]
  have hlt9 : gb < w.heap.size := by
   rcases Nat.lt_or_ge gb w.heap.size with h | h
   ·exact h
   ·rw [Array.getElem?_eq_none h] at hh; cases hh
  have hcmp : CmpLays Tryz.prog g #[] cc 5 cf gb 0 l.toArray.size w := fun m os dk _ x y => (hcl x y _).mono fun e w' ⟨h1, h2⟩ => ⟨h1, h2.grow⟩; have hz := AnyQ.slices_SortFunc_total Tryz.sortCol 5 isAggC sizeOfC cc hc5 hc1 cf (hfun ▸ T.swo) g #[] gb 0 cap l.toArray w eg hcmp hH hlt9 (by rw [hd]; omega) (fun x y h1 h2 => T.tri x y (hfun ▸ h1) (hfun ▸ h2)); rw [hd] at hz; refine hz.mono ?_; rintro e w' ⟨rfl, n, os, rfl⟩; rw [hfun]; obtain ⟨l', hl'⟩ : ∃ l', l' = l.mergeSort fun x y => !lt y x := ⟨_, rfl⟩; have hlen' : l'.length = l.length := by rw [hl', List.length_mergeSort]
  have ha : (l.toArray.toList.mergeSort fun x y => !lt y x).toArray = l'.toArray := by rw [hl']
  rw [ha]; have hH' := holdsK_sortWorldK_c cc 5 w gb 0 l.toArray l'.toArray n os hH hlt9 (by simp [hlen']); refine ⟨rfl, ⟨l', hl' ▸ srt_merge T hn, fun s => by rw [hl']; exact (List.mergeSort_perm l _).mem_iff, l'.map cc, ⟨by simp, ?_, ?_⟩, some ⟨gb, 0, none⟩, cap, by rw [hlen'], by omega, hcm, ?_⟩, (chg_sortWorld cc 5 w gb 0 n l'.toArray os).mono fun k _ e => e ▸ hB⟩
  ·intro e he; obtain ⟨s, -, rfl⟩ := List.mem_map.1 he; exact hc5 s
  ·intro i e x h1 h2; rw [List.getElem?_map, h2] at h1; exact (Option.some.inj h1).symm
  ·intro j u hu; refine ⟨gb, 0, rfl, by omega, ?_⟩; have hw : ∀ e ∈ l'.map cc, e.length = 5 := fun e he => by obtain ⟨s, -, rfl⟩ := List.mem_map.1 he; exact hc5 s
   have hj : j < (l'.map cc).flatten.length := by
    rcases Nat.lt_or_ge j (l'.map cc).flatten.length with h | h
    ·exact h
    ·rw [List.getElem?_eq_none h] at hu; cases hu
   rw [flat_length hw, List.length_map] at hj; have hi : j / 5 < l'.length := by omega
   have hjj : j % 5 < (cc l'[j / 5]).length := by rw [hc5]; omega
   have h8 := (hH' j (by simpa using hj)).1; rw [h8]; have h7 := flat_get hw (j / 5) (cc l'[j / 5]) (j % 5) (cc l'[j / 5])[j % 5] (by rw [List.getElem?_map, List.getElem?_eq_getElem hi]; rfl) (List.getElem?_eq_getElem hjj); rw [show j / 5 * 5 + j % 5 = j by omega, hu] at h7; rw [h7, get_flatK _ _ _ _ (by simpa using hj)]; have e1 : l'.toArray[j / 5]! = l'[j / 5] := by simp [hi]
   rw [e1]
   simp [getElem!_pos, hjj]
end Go.Proofs.YtjimfbmegmnocaaGreatDoor
