/- Parts of the proof: Wa, Wb, Xh, Kp. No condition of its own. -/
import Derived.Test.YtfenjklilocjgaaGreatDoorCb
import Derived.Test.YtfenjklilocjgaaGreatDoorXb
import Derived.Maps.OwnOps
import Derived.Maps.RangeWalk
import Derived.Maps.Views
import Derived.StringKeys
import Derived.Test.YtfenjklilocjgaaGreatDoorXn
import Derived.Test.YtfenjklilocjgaaGreatDoorCc
import Derived.Shelf.SlSortCmp.NoneTotal
import Derived.Lib.Small
set_option linter.unusedSimpArgs false
set_option linter.unusedVariables false
set_option linter.unusedSectionVars false
namespace Go.Proofs.YtfenjklilocjgaaGreatDoor
set_option linter.unusedSimpArgs false
set_option linter.unusedVariables false
set_option linter.unusedSectionVars false
open Go.RowKit

/-- The words of an attribute. -/
def wordsOf (C : Cor) (a : Nat) : List ByteArray := C.toks.map fun r => r[a]?.getD ⟨#[]⟩
theorem wordsOf_length (C : Cor) (a : Nat) : (wordsOf C a).length = C.toks.length := by simp [wordsOf]
theorem wordsOf_get {C : Cor} {a i : Nat} (hi : i < C.toks.length) (ha : a < C.toks[i].length) : (wordsOf C a)[i]? = some (C.toks[i][a]) := by
  simp [wordsOf, List.getElem?_eq_getElem hi, List.getElem?_eq_getElem ha]
set_option linter.unusedSimpArgs false
set_option linter.unusedVariables false
set_option linter.unusedSectionVars false
open Go.RowKit

theorem keyS : Maps.Keyed Tryz.prog 9 := Maps.string_keyed Tryz.underlying9
theorem zeroI (w : World) : (zeroValue 3).run Tryz.prog w = .ok (.int .i64 0) w := by kernel_rfl
/-- A word as a key. -/
def kyS (s : ByteArray) : Lit := .string s.data.toList
theorem kyS_ne {s t : ByteArray} (h : s ≠ t) : kyS s ≠ kyS t := fun e => h (by
  have e : (Lit.string s.data.toList) = .string t.data.toList := e
  injection e with e
  cases s; cases t
  simp only [ByteArray.mk.injEq]
  exact Array.toList_inj.1 e)
theorem kyS_key {s : ByteArray} (hs : s.size ≤ maxLen) : keyOf Tryz.prog 9 (.string s) = some (kyS s) := WideMaps.keyOf_string_mk Tryz.underlying9 hs
/-- How often a word stands. -/
def cn (ws : List ByteArray) (s : ByteArray) : Nat := ws.countP fun x => decide (x = s)
theorem cn_add (ws : List ByteArray) (t s : ByteArray) : cn (ws ++ [t]) s = cn ws s + if t = s then 1 else 0 := by
  unfold cn
  rw [List.countP_append]
  by_cases h : t = s <;> simp [h]
theorem cn_le (ws : List ByteArray) (s : ByteArray) : cn ws s ≤ ws.length := List.countP_le_length
theorem cn_pos {ws : List ByteArray} {s : ByteArray} : 0 < cn ws s ↔ s ∈ ws := by
  unfold cn
  rw [List.countP_pos_iff]
  simp
/-- A datum that holds how often each word stands. -/
structure Cnt (D : DataW Unit) (ws : List ByteArray) : Prop where
  map : Maps.IsMap D
  at_ : ∀ s : ByteArray, D.atKey (kyS s) (.lit (.int .i64 0)) = .lit (.int .i64 ((cn ws s : Nat) : Int))
  has : ∀ s : ByteArray, Maps.has D (kyS s) = true ↔ s ∈ ws
theorem Cnt.start : Cnt (.map []) [] := ⟨Maps.isMap_empty, fun _ => rfl, fun s => by constructor <;> intro h <;> cases h⟩
theorem Cnt.put {D : DataW Unit} {ws : List ByteArray} (h : Cnt D ws) (s : ByteArray) : Cnt (D.put (kyS s) (.lit (.int .i64 ((cn ws s : Int) + 1)))) (ws ++ [s]) := by
  have hk : WideAt.IsKeyLit (kyS s) := by unfold kyS; trivial
  refine ⟨h.map.put _ _, fun t => ?_, fun t => ?_⟩
  · by_cases e : t = s
    · subst e
      rw [Maps.atKey_put_same h.map hk, cn_add, if_pos rfl]; rfl
    · rw [Maps.atKey_put_other (kyS_ne e), h.at_, cn_add, if_neg (fun x => e x.symm), Nat.add_zero]
  · by_cases e : t = s
    · subst e
      rw [Maps.has_put_same h.map hk]
      simp
    · rw [Maps.has_put_other (kyS_ne e), h.has]
      simp [e]
theorem Cnt.val {D : DataW Unit} {ws : List ByteArray} (h : Cnt D ws) {s : ByteArray} {c : Int} (hat : D.atKey (kyS s) (.lit (.int .i64 0)) = .lit (.int .i64 c)) : c = ((cn ws s : Nat) : Int) := by
  have h9 := hat.symm.trans (h.at_ s)
  injection h9 with h9
  injection h9
theorem plain_succ9 {c : Nat} (h : c ≤ 1000000) : plainElem (H := Unit) Tryz.prog 3 (.int .i64 ((c : Int) + 1)) = some (.lit (.int .i64 ((c : Int) + 1)), []) :=
  plainElem_int Tryz.underlying3 (WalkArith.wf_i64 (by omega))
/-- A map in block b that holds how often each word stands. -/
def MapW (w : World) (b n : Nat) (ws : List ByteArray) : Prop := ∃ D : DataW Unit, w.ownsMap Tryz.prog 9 (plainElem Tryz.prog 3) b n D ∧ Cnt D ws
theorem MapW.chg {S : Nat → Prop} {w w' : World} {b n : Nat} {ws : List ByteArray} (h : MapW w b n ws) (hc : Chg S w w') (hb : ¬ S b) : MapW w' b n ws := by
  obtain ⟨D, ⟨es, clock, hh, hF, hs, hD⟩, hC⟩ := h
  have hlt : b < w.heap.size := by
    rcases Nat.lt_or_ge b w.heap.size with hl | hl
    · exact hl
    · rw [Array.getElem?_eq_none hl] at hh; cases hh
  exact ⟨D, ⟨es, clock, (hc.block b hlt hb).trans hh, hF, hs, hD⟩, hC⟩
theorem MapW.below {w w' : World} {b n : Nat} {ws : List ByteArray} (h : MapW w b n ws) (hb : Below w.heap.size w w') : MapW w' b n ws := h.chg (S := fun _ => False) (Chg.of_below hb fun k h1 h2 => by omega) id
/-- The list of marks, boxed: the box in block gb, the marks in block gn. -/
structure Mks (w : World) (gb gn : Nat) (bl : List Bool) : Prop where
  box : Own w gb 141 [.slice (some ⟨gn, 0, none⟩) bl.length bl.length]
  row : Own w gn 4 (bl.map Value.bool)
theorem Mks.chg {S : Nat → Prop} {w w' : World} {gb gn : Nat} {bl : List Bool} (h : Mks w gb gn bl) (hc : Chg S w w') (h1 : ¬ S gb) (h2 : ¬ S gn) : Mks w' gb gn bl := ⟨hc.own h.box h1, hc.own h.row h2⟩
theorem Mks.below {w w' : World} {gb gn : Nat} {bl : List Bool} (h : Mks w gb gn bl) (hb : Below w.heap.size w w') : Mks w' gb gn bl := h.chg (S := fun _ => False) (Chg.grow9 hb) id id
set_option linter.unusedSimpArgs false
set_option linter.unusedVariables false
set_option linter.unusedSectionVars false
open Go.RowKit

def allE (E : List (ByteArray × Nat)) : List ByteArray := E.flatMap fun e => List.replicate e.2 e.1
def strs (L : List ByteArray) : List Value := L.map fun s => Value.string s
theorem str_parts : ∃ i, Tryz.prog.info? 9 = some i ∧ i.zero = some (.string ⟨#[]⟩) ∧ i.size = 1 ∧ i.bytes = 16 := by
  obtain ⟨i0, hi0, hz0, hz1, hz2⟩ := info_parts (show (Tryz.prog.info? 9).map (fun i => (i.zero, i.size, i.bytes)) = some (some (.string ⟨#[]⟩), 1, 16) by kernel_rfl)
  exact ⟨i0, hi0, hz0, hz1, hz2⟩
theorem allE_take (E : List (ByteArray × Nat)) {i : Nat} (hi : i < E.length) : allE (E.take (i + 1)) = allE (E.take i) ++ List.replicate E[i].2 E[i].1 := by
  unfold allE
  rw [List.take_add_one, List.getElem?_eq_getElem hi, List.flatMap_append]
  simp
theorem allE_take_len (E : List (ByteArray × Nat)) (i : Nat) : (allE (E.take i)).length ≤ (allE E).length := by
  have : allE E = allE (E.take i) ++ allE (E.drop i) := by
    unfold allE
    rw [← List.flatMap_append, List.take_append_drop]
  rw [this, List.length_append]
  omega
set_option maxRecDepth 100000 in
set_option maxHeartbeats 4000000 in
theorem all_any (p : Nat) (E : List (ByteArray × Nat)) (hE : E.length ≤ 1000) (hA : (allE E).length ≤ 1000000) (w : World) (h : LexIn w p E) :
    Calls Tryz.prog 17 #[.pointer (some ⟨p, 0, none⟩)] w fun e w' => ∃ v, e = .returned v ∧ w'.ownsRow w.heap.size 9 1 v (allE E).length (strs (allE E)) ∧ Below w.heap.size w w' := by
  obtain ⟨A, c, A2, c2, rv, o_x, hR1, hR2, hc1, hc2, hc3, hc4⟩ := h
  have HR1 := Lib.hid hR1
  have HR2 := Lib.hid hR2
  have HA := Lib.hid hA
  clear hR1 hR2 hA
  obtain ⟨i0, hi0, hz0, hz1, hz2⟩ := str_parts
  have n0 := o_x.cell 0
  obtain ⟨B, hB⟩ : ∃ B, B = w.heap.size := ⟨_, rfl⟩
  have HB := Lib.hid hB
  clear hB
  go_enter Tryz.func17, Tryz.ntmps17
  go_wp2_with fail
  go_loopg [3, 11] (E.length + 1) (fun q v3 v11 wr => ∃ (i : Nat) (L : List ByteArray), q = E.length + 1 - i ∧ i ≤ E.length ∧ v11 = .int .i64 (i : Int) ∧ Hid (L = allE (E.take i)) ∧ Hid (wr.ownsRow B 9 1 v3 L.length (strs L)) ∧ Below B w wr)
  case atStart => exact ⟨0, [], rfl, Nat.zero_le _, rfl, rfl, World.ownsRow_nil _ _ _ _, Below.refl _ _⟩
  case round =>
    obtain ⟨i, L, rfl, hi, rfl, HL, HO, hb⟩ := hrel
    have hbw : Below w.heap.size w wr := by rw [← HB.out]; exact hb
    clear n0
    by_cases hlt : i < E.length
    · have hlen := allE_take_len E (i + 1)
      rw [allE_take E hlt, ← HL.out, List.length_append, List.length_replicate] at hlen
      have hlen2 := HA.out
      have HL2 := Lib.hid (allE_take E hlt)
      rw [← HL.out] at HL2
      obtain ⟨bA, oA, hA, k0⟩ := (HR1.out.below hbw) i (.string E[i].1) (by rw [List.getElem?_map, List.getElem?_eq_getElem hlt]; rfl)
      obtain ⟨bA2, oA2, hA2, k1⟩ := (HR2.out.below hbw) i (.int .i64 (E[i].2 : Int)) (by rw [List.getElem?_map, List.getElem?_eq_getElem hlt]; rfl)
      generalize E[i] = ei at *
      obtain ⟨s, k⟩ := ei
      subst hA hA2
      simp only at k0 k1 hlen
      have n1 := (o_x.below hbw o_x.lt).cell 1
      have hkl : L.length + k ≤ 1000000 := by omega
      clear hlen hlen2 HL
      go_wp2_with fail
      clear k0 k1 n1 hbw
      go_loopg [3, 23] (k + 1) (fun q v3 v23 wx => ∃ (j : Nat) (L' : List ByteArray), q = k + 1 - j ∧ j ≤ k ∧ v23 = .int .i64 (j : Int) ∧ Hid (L' = L ++ List.replicate j s) ∧ L'.length = L.length + j ∧ Hid (wx.ownsRow B 9 1 v3 L'.length (strs L')) ∧ Below B w wx)
      case atStart => exact ⟨0, L, rfl, Nat.zero_le _, rfl, (show L = _ by simp), rfl, HO, hb⟩
      case round =>
        clear hb HO
        obtain ⟨j, L', rfl, hj, rfl, HJ, hJl, HO, hb⟩ := hrel
        have hBs : B ≤ wr.heap.size := by have := hb.size; rw [HB.out]; exact this
        by_cases hjk : j < k
        · have h63 : L'.length + 1 ≤ maxLen := by unfold maxLen; omega
          go_wp2_with (at_builtin; refine wpList_append_own_at _ rfl (.tmp 25) (.tmp 27) 28 rfl B 9 i0 _ 1 16 Tryz.underlying28 hi0 hz0 hz1 hz2 rfl (by decide) _ L'.length (strs L') rfl (HO.out.alloc _) ⟨wr.heap.size, 0, none⟩ 1 1 [.string s] rfl rfl (cells_u8 _ _ _) (by simp [Value.oneCell']) h63 (by omega) (by rw [size1]; omega) ?_)
          intro v' w' hown' hgrow _ _
          have hb3 := (hb.alloc hBs (.cells #[.string s] 9)).grown hgrow (by rw [size1]; omega) (own_lt HO.out)
          have HO2 : Hid (w'.ownsRow B 9 1 v' (L' ++ [s]).length (strs (L' ++ [s]))) := by
            have e : strs (L' ++ [s]) = strs L' ++ [.string s] := by simp [strs]
            show World.ownsRow _ _ _ _ _ _ _
            rw [e, List.length_append, List.length_singleton]
            simpa [hJl] using hown'
          have HJ2 : Hid (L' ++ [s] = L ++ List.replicate (j + 1) s) := by
            show _ = _
            rw [HJ.out, List.append_assoc, ← List.replicate_succ']
          clear hgrow hown' HO
          go_wp2_with fail
          go_roundg (k + 1 - (j + 1))
          case measure => omega
          case rel => exact ⟨j + 1, L' ++ [s], rfl, by omega, by go_num, HJ2, by rw [List.length_append, List.length_singleton]; omega, HO2, hb3⟩
        · obtain rfl : j = k := by omega
          have HJ2 : Hid (L' = allE (E.take (i + 1))) := by show _ = _; rw [HJ.out, HL2.out]
          clear HJ
          go_wp2_with fail
          go_roundg (E.length + 1 - (i + 1))
          case measure => omega
          case rel => exact ⟨i + 1, L', rfl, by omega, by go_num, HJ2, HO, hb⟩
    · have ei : i = E.length := by omega
      subst ei
      rw [List.take_length] at HL
      rw [HL.out] at HO
      go_wp2
      go_ret
      exact ⟨_, rfl, HB.out ▸ HO.out, hbw⟩
set_option linter.unusedSimpArgs false
set_option linter.unusedVariables false
set_option linter.unusedSectionVars false
open Go.RowKit Go.Sort

section
variable {α : Type} {lt : α → α → Bool}
/-- A strict total order. -/
structure Tot (lt : α → α → Bool) : Prop where
  irr : ∀ x, lt x x = false
  trans : ∀ x y z, lt x y = true → lt y z = true → lt x z = true
  tri : ∀ x y, lt x y = false → lt y x = false → x = y
theorem Tot.swo (T : Tot lt) : SWO lt where
  irrefl := T.irr
  trans := T.trans
  ntrans x y z h1 h2 := by
    cases h : lt x z with
    | false => rfl
    | true =>
      cases h3 : lt y x with
      | true => have := T.trans y x z h3 h; rw [h2] at this; cases this
      | false => have := T.tri x y h1 h3; subst this; rw [h] at h2; exact h2
def Srt (lt : α → α → Bool) (l : List α) : Prop := l.Pairwise (fun x y => lt x y = true)
theorem Srt.nodup (T : Tot lt) {l : List α} (h : Srt lt l) : l.Nodup := h.imp fun {a b} h e => by subst e; rw [T.irr] at h; cases h
theorem Srt.uniq (T : Tot lt) {l m : List α} (hl : Srt lt l) (hm : Srt lt m) (h : ∀ x, x ∈ l ↔ x ∈ m) : l = m := by
  refine List.Perm.eq_of_pairwise (le := fun a b => lt a b = true) (fun a b _ _ h1 h2 => ?_) hl hm ((List.perm_ext_iff_of_nodup (hl.nodup T) (hm.nodup T)).2 h)
  have := T.trans a b a h1 h2
  rw [T.irr] at this
  cases this
/-- An element put in at its place. -/
theorem Srt.put (T : Tot lt) {l : List α} (h : Srt lt l) {x : α} {k : Nat} (h1 : ∀ y ∈ l.drop k, lt x y = true) (h2 : ∀ y ∈ l.take k, lt y x = true) : Srt lt (l.take k ++ x :: l.drop k) := by
  have h' : Srt lt (l.take k ++ l.drop k) := by rw [List.take_append_drop]; exact h
  have h3 := List.pairwise_append.1 h'
  refine List.pairwise_append.2 ⟨h3.1, List.pairwise_cons.2 ⟨h1, h3.2.1⟩, fun a ha b hb => ?_⟩
  rcases List.mem_cons.1 hb with rfl | hb
  · exact h2 a ha
  · exact h3.2.2 a ha b hb
/-- What stands ahead of a place whose last element is less. -/
theorem Srt.ahead (T : Tot lt) {l : List α} (h : Srt lt l) {x y : α} {k : Nat} (hy : l[k]? = some y) (hl : lt y x = true) : ∀ z ∈ l.take (k + 1), lt z x = true := by
  intro z hz
  obtain ⟨j, hj, e⟩ := List.mem_take_iff_getElem.1 hz
  have hk : k < l.length := by
    rcases Nat.lt_or_ge k l.length with hk | hk
    · exact hk
    · rw [List.getElem?_eq_none hk] at hy; cases hy
  have hyk : l[k] = y := by rw [List.getElem?_eq_getElem hk] at hy; exact Option.some.inj hy
  by_cases hjk : j = k
  · subst hjk; rw [← e, hyk]; exact hl
  · have := List.pairwise_iff_getElem.1 h j k (by omega) hk (by omega)
    rw [hyk, e] at this
    exact T.trans z y x this hl
end

theorem ltS_tot : Tot ltS := ⟨ltS_irrefl, fun _ _ _ => ltS_trans, fun x y h1 h2 => by
  rcases ltS_total x y with h | h | h
  · rw [h] at h1; cases h1
  · exact h
  · rw [h] at h2; cases h2⟩
end Go.Proofs.YtfenjklilocjgaaGreatDoor
