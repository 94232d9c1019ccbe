/- Parts of the proof: Cd. No condition of its own. -/
import Derived.Test.YtfenjklilocjgaaGreatDoorCc
import Derived.Lib.OthersKept
import Derived.Deep.AppendLies
set_option linter.unusedSimpArgs false
set_option linter.unusedVariables false
set_option linter.unusedSectionVars false
namespace Go.Proofs.YtfenjklilocjgaaGreatDoor
set_option linter.unusedSimpArgs false
set_option linter.unusedVariables false
set_option linter.unusedSectionVars false
open Go.RowKit

/-- Units from place p to place q: rune, place, width. -/
def Chain (s : ByteArray) : Nat → List (Nat × Nat × Nat) → Nat → Prop
  | p, [], q => p = q
  | p, u :: l, q => u.2.1 = p ∧ p < s.size ∧ Utf8.decode s p = (u.1, u.2.2) ∧ Chain s (p + u.2.2) l q
theorem chain_snoc {s : ByteArray} : ∀ {l : List (Nat × Nat × Nat)} {p q : Nat}, Chain s p l q → q < s.size → Chain s p (l ++ [((Utf8.decode s q).1, q, (Utf8.decode s q).2)]) (q + (Utf8.decode s q).2) := by
  intro l
  induction l with
  | nil => intro p q h hq; have h : p = q := h; subst h; exact ⟨rfl, hq, rfl, rfl⟩
  | cons u l ih => intro p q h hq; exact ⟨h.1, h.2.1, h.2.2.1, ih h.2.2.2 hq⟩
theorem chain_unique {s : ByteArray} : ∀ {l l' : List (Nat × Nat × Nat)} {p q q' : Nat}, Chain s p l q → Chain s p l' q' → s.size ≤ q → s.size ≤ q' → l = l' := by
  intro l
  induction l with
  | nil =>
    intro l' p q q' h h' hq hq'
    have h : p = q := h
    cases l' with
    | nil => rfl
    | cons u l' => have := h'.2.1; omega
  | cons u l ih =>
    intro l' p q q' h h' hq hq'
    cases l' with
    | nil => have h' : p = q' := h'; have := h.2.1; omega
    | cons u' l' =>
      have e1 := h.2.2.1.symm.trans h'.2.2.1
      have e : u = u' := by
        obtain ⟨a, b, c⟩ := u
        obtain ⟨a', b', c'⟩ := u'
        have e2 := h.1
        have e3 := h'.1
        simp only [Prod.mk.injEq] at *
        exact ⟨e1.1, e2.trans e3.symm, e1.2⟩
      subst e
      rw [ih h.2.2.2 h'.2.2.2 hq hq']
theorem decode_bnd (s : ByteArray) (p : Nat) : ∀ r n, Utf8.decode s p = (r, n) → 1 ≤ n ∧ n ≤ 4 ∧ r ≤ 1114111 := by
  intro r n h
  unfold Utf8.decode at h
  dsimp only at h
  split at h
  · obtain ⟨rfl, rfl⟩ := Prod.mk.inj h; omega
  split at h
  · split at h <;> (obtain ⟨rfl, rfl⟩ := Prod.mk.inj h; (try unfold Utf8.runeError at *); omega)
  split at h
  · split at h <;> (obtain ⟨rfl, rfl⟩ := Prod.mk.inj h; (try unfold Utf8.runeError at *); omega)
  split at h
  · split at h
    · rename_i h1 h2
      obtain ⟨rfl, rfl⟩ := Prod.mk.inj h
      simp only [Bool.and_eq_true, Utf8.valid, Bool.or_eq_true, decide_eq_true_eq] at h2
      omega
    · obtain ⟨rfl, rfl⟩ := Prod.mk.inj h; (try unfold Utf8.runeError at *); omega
  · obtain ⟨rfl, rfl⟩ := Prod.mk.inj h; (try unfold Utf8.runeError at *); omega
theorem decode_fit (s : ByteArray) (p : Nat) (hp : p < s.size) : ∀ r n, Utf8.decode s p = (r, n) → p + n ≤ s.size := by
  intro r n h
  unfold Utf8.decode at h
  dsimp only at h
  split at h
  · obtain ⟨rfl, rfl⟩ := Prod.mk.inj h; omega
  split at h
  · rename_i h1
    simp only [Bool.and_eq_true, decide_eq_true_eq] at h1
    split at h <;> (obtain ⟨rfl, rfl⟩ := Prod.mk.inj h; omega)
  split at h
  · rename_i h1
    simp only [Bool.and_eq_true, decide_eq_true_eq] at h1
    split at h <;> (obtain ⟨rfl, rfl⟩ := Prod.mk.inj h; omega)
  split at h
  · rename_i h1
    simp only [Bool.and_eq_true, decide_eq_true_eq] at h1
    split at h <;> (obtain ⟨rfl, rfl⟩ := Prod.mk.inj h; omega)
  · obtain ⟨rfl, rfl⟩ := Prod.mk.inj h; omega
theorem decode_pos (s : ByteArray) (p : Nat) : 1 ≤ (Utf8.decode s p).2 ∧ (Utf8.decode s p).2 ≤ 4 ∧ (Utf8.decode s p).1 ≤ 1114111 := decode_bnd s p _ _ rfl
theorem chain_len {s : ByteArray} : ∀ {l : List (Nat × Nat × Nat)} {p q : Nat}, Chain s p l q → p + l.length ≤ q := by
  intro l
  induction l with
  | nil => intro p q h; have h : p = q := h; subst h; simp
  | cons u l ih =>
    intro p q h
    have h1 := ih h.2.2.2
    have h2 := (decode_pos s p).1
    rw [h.2.2.1] at h2
    simp only [List.length_cons]
    simp only at h2
    omega
theorem chain_top {s : ByteArray} : ∀ {l : List (Nat × Nat × Nat)} {p q : Nat}, Chain s p l q → p ≤ s.size → q ≤ s.size := by
  intro l
  induction l with
  | nil => intro p q h hp; have h : p = q := h; omega
  | cons u l ih =>
    intro p q h hp
    exact ih h.2.2.2 (decode_fit s p h.2.1 _ _ h.2.2.1)
/-- The last unit of a chain. -/
theorem chain_last {s : ByteArray} : ∀ {l : List (Nat × Nat × Nat)} {p q : Nat} {u : Nat × Nat × Nat}, Chain s p (l ++ [u]) q → u.2.1 + u.2.2 = q ∧ u.1 ≤ 1114111 ∧ 1 ≤ u.2.2 ∧ u.2.2 ≤ 4 ∧ u.2.1 < s.size := by
  intro l
  induction l with
  | nil =>
    intro p q u h
    have h4 : p + u.2.2 = q := h.2.2.2
    have h2 := decode_pos s p
    rw [h.2.2.1] at h2
    have h1 := h.1
    have h3 := h.2.1
    simp only at h2
    exact ⟨by omega, by omega, by omega, by omega, by omega⟩
  | cons v l ih => intro p q u h; exact ih h.2.2.2
theorem chain_mem {s : ByteArray} : ∀ {l : List (Nat × Nat × Nat)} {p q : Nat}, Chain s p l q → ∀ u ∈ l, u.1 ≤ 1114111 ∧ u.2.2 ≤ 4 := by
  intro l
  induction l with
  | nil => intro p q h u hu; simp at hu
  | cons v l ih =>
    intro p q h u hu
    rcases List.mem_cons.1 hu with rfl | hu
    · have h2 := decode_pos s p
      rw [h.2.2.1] at h2
      exact ⟨h2.2.2, h2.2.1⟩
    · exact ih h.2.2.2 u hu
/-- A unit that is no error. -/
def okU (u : Nat × Nat × Nat) : Bool := u.1 != 65533 || u.2.2 == 3
/-- Valid UTF-8. -/
def VU (s : ByteArray) : Prop := ∀ L q, Chain s 0 L q → s.size ≤ q → ∀ u ∈ L, okU u = true
theorem vu_of {s : ByteArray} {L : List (Nat × Nat × Nat)} {q : Nat} (h : Chain s 0 L q) (hq : s.size ≤ q) : VU s ↔ ∀ u ∈ L, okU u = true := by
  constructor
  · exact fun h9 => h9 L q h hq
  · intro h9 L' q' h' hq'
    rw [← chain_unique h h' hq hq']
    exact h9
theorem wideM {α : Type} {k : Nat} {f : α → List Value} (h : ∀ u, (f u).length = k) {L : List α} : ∀ e ∈ L.map f, e.length = k := by
  intro e he
  obtain ⟨u, -, rfl⟩ := List.mem_map.1 he
  exact h u
/-- A unit's cells; before its width is known; as they are in the end. -/
def cu (u : Nat × Nat × Nat) (b : Bool) : List Value := [.int .i32 (u.1 : Int), .int .i64 (u.2.1 : Int), .int .i64 (u.2.2 : Int), .bool b]
def cuO (u : Nat × Nat × Nat) : List Value := [.int .i32 (u.1 : Int), .int .i64 (u.2.1 : Int), .int .i64 0, .bool false]
def cus (L : List (Nat × Nat × Nat)) : List Value := (L.map fun u => cu u false).flatten
def cus2 (L : List (Nat × Nat × Nat)) (k : Nat) : List Value := ((L.take k).map fun u => cu u (okU u)).flatten ++ ((L.drop k).map fun u => cu u false).flatten
theorem cus_len (L : List (Nat × Nat × Nat)) : (cus L).length = L.length * 4 := by
  unfold cus
  rw [flat_length (wideM (k := 4) fun _ => rfl), List.length_map]
theorem cus_set (L : List (Nat × Nat × Nat)) (u : Nat × Nat × Nat) : (cus L ++ cuO u).set (L.length * 4 + 2) (.int .i64 (u.2.2 : Int)) = cus (L ++ [u]) := by
  have e : L.length * 4 + 2 = (cus L).length + 2 := by rw [cus_len]
  rw [e, List.set_append_right _ _ (by omega), Nat.add_sub_cancel_left]
  unfold cus
  rw [List.map_append, List.flatten_append]
  rfl
theorem cus2_get (L : List (Nat × Nat × Nat)) (k j : Nat) (hk : k < L.length) (u : Value) (hu : (cu L[k] false)[j]? = some u) : (cus2 L k)[k * 4 + j]? = some u := by
  unfold cus2
  have h1 : (((L.take k).map fun u => cu u (okU u)).flatten).length = k * 4 := by
    rw [flat_length (wideM (k := 4) fun _ => rfl), List.length_map, List.length_take, Nat.min_eq_left (by omega)]
  rw [List.getElem?_append_right (by omega), h1, Nat.add_sub_cancel_left, List.drop_eq_getElem_cons hk, List.map_cons, List.flatten_cons, List.getElem?_append_left]
  · exact hu
  · rcases Nat.lt_or_ge j (cu L[k] false).length with hl | hl
    · exact hl
    · rw [List.getElem?_eq_none hl] at hu; cases hu
theorem cus2_set (L : List (Nat × Nat × Nat)) (k : Nat) (hk : k < L.length) : (cus2 L k).set (k * 4 + 3) (.bool (okU L[k])) = cus2 L (k + 1) := by
  unfold cus2
  have h1 : (((L.take k).map fun u => cu u (okU u)).flatten).length = k * 4 := by
    rw [flat_length (wideM (k := 4) fun _ => rfl), List.length_map, List.length_take, Nat.min_eq_left (by omega)]
  rw [List.set_append_right _ _ (by omega), h1, Nat.add_sub_cancel_left, List.drop_eq_getElem_cons hk, List.take_succ_eq_append_getElem hk, List.map_append, List.flatten_append, List.map_cons, List.flatten_cons, List.append_assoc]
  rfl
theorem cus2_zero (L : List (Nat × Nat × Nat)) : cus2 L 0 = cus L := by
  unfold cus2 cus
  simp
theorem unit_info : (Tryz.prog.info? 195).map (fun i => (i.zero, i.size, i.bytes)) = some (some (.agg #[.int .i32 0, .int .i64 0, .int .i64 0, .bool false]), 4, 32) := by kernel_rfl
/-- A slice that holds the units of a string. -/
def UnitsV (w : World) (B : Nat) (s : ByteArray) (v : Value) : Prop := ∃ L q, Chain s 0 L q ∧ s.size ≤ q ∧ w.ownsRow B 195 4 v L.length (cus2 L L.length)
theorem grownIt {w : World} {r : Nat} {s : ByteArray} {p p' : Nat} (h : w.heap[r]? = some (.stringIter s p)) : w.grownBy (w.iterAt r s p') (some r) :=
  ⟨rfl, rfl, rfl, by rw [Lib.iterAt_size]; exact Nat.le_refl _, fun k _ hk => Lib.iterAt_other w r k s p' (fun e => hk (by rw [e]))⟩
theorem own_iter_ne {w : World} {base r : Nat} {e : TypeId} {size n : Nat} {v : Value} {xs : List Value} {s : ByteArray} {p : Nat} (h : w.ownsRow base e size v n xs) (hr : w.heap[r]? = some (.stringIter s p)) : v.ownBlock ≠ some r := by
  rcases h.2 with ⟨rfl, _⟩ | ⟨g', cap, cur, rfl, _, hh, _⟩
  · simp [Value.ownBlock]
  · intro he
    have : g' = r := by simpa [Value.ownBlock] using he
    subst this
    rw [hh] at hr
    cases hr
set_option maxRecDepth 100000 in
set_option maxHeartbeats 4000000 in
theorem units_any (s : ByteArray) (w : World) (hs : s.size ≤ 1000000) :
    Calls Tryz.prog 159 #[.string s] w fun e w' => ∃ v, e = .returned v ∧ UnitsV w' w.heap.size s v ∧ Below w.heap.size w w' := by
  obtain ⟨i0, hi0, hz0, hz1, hz2⟩ := info_parts unit_info
  have hrt : ∀ W : World, (Instr.range 9 (.string s)).run Tryz.prog W = .ok (.pointer (some ⟨W.heap.size, 0, none⟩)) (W.alloc (.stringIter s 0)) := fun W => run_range_string W _ s Tryz.underlying9
  obtain ⟨B, hB⟩ : ∃ B, B = w.heap.size := ⟨_, rfl⟩
  have hit0 : (w.alloc (.stringIter s 0)).heap[B]? = some (.stringIter s 0) := by rw [hB]; exact heap_alloc_new w _
  have hbw : Below B w (w.alloc (.stringIter s 0)) := by rw [hB]; exact (Below.refl _ _).alloc (Nat.le_refl _) _
  have hsz : (w.alloc (.stringIter s 0)).heap.size = B + 1 := by rw [hB]; simp
  go_enter Tryz.func159, Tryz.ntmps159
  go_upto_region 3 with (fail)
  generalize (w.alloc (.stringIter s 0)) = wb at hit0 hbw hsz ⊢
  rw [← hB]
  have HB := Lib.hid hB
  clear hB hrt
  go_loopg [3] (s.size + 5) (fun q v wr => ∃ (L : List (Nat × Nat × Nat)) (p : Nat), q = s.size + 5 - p ∧ Hid (Chain s 0 L p) ∧ wr.heap[B]? = some (.stringIter s p) ∧ Below B w wr ∧ B < wr.heap.size ∧ ((L = [] ∧ v = .slice none 0 0) ∨ ∃ L' u, L = L' ++ [u] ∧ wr.ownsRow B 195 4 v (L'.length + 1) (cus L' ++ cuO u)))
  case atStart => exact ⟨[], 0, rfl, rfl, hit0, hbw, by omega, .inl ⟨rfl, rfl⟩⟩
  case round =>
    obtain ⟨L, p, rfl, HC, hit, hbB, hBr, hrel⟩ := hrel
    have htop := chain_top HC.out (Nat.zero_le _)
    by_cases hlt : p < s.size
    · have hrun := fun ty => Lib.run_next_any_at (P := Tryz.prog) wr B s p ty hit hlt
      have hd := decode_pos s p
      have HC2 := Lib.hid (chain_snoc HC.out hlt)
      have hlen := chain_len HC.out
      have hit2 := Lib.iterAt_heap wr B s p (p + (Utf8.decode s p).2) hit
      have hb2 := Lib.below_iterAt hbB (Nat.le_refl B) s (p + (Utf8.decode s p).2)
      have hg2 := grownIt (p' := p + (Utf8.decode s p).2) hit
      have hsz2 := Lib.iterAt_size wr B s (p + (Utf8.decode s p).2)
      generalize hR : (Utf8.decode s p).1 = R at hrun hd HC2
      generalize hN : (Utf8.decode s p).2 = N at hrun hd HC2 hit2 hb2 hg2 hsz2
      clear hR hN
      have HS2 := Lib.hid hsz2
      clear hsz2
      rcases hrel with ⟨rfl, rfl⟩ | ⟨L', u, rfl, hown⟩
      · go_upto_region 4 with (fail)
        generalize wr.iterAt B s (p + N) = wi at hit2 hb2 hg2 HS2 ⊢
        have hws : B < wi.heap.size := by have := HS2.out; omega
        clear hrun
        have hown : wi.ownsRow B 195 4 (.slice none 0 0) 0 [] := World.ownsRow_nil _ _ _ _
        have HOW := Lib.hid hown
        clear hown
        have h63 : 0 + 1 ≤ maxLen := by unfold maxLen; omega
        have zw : IntKind.i32.wrap (R : Int) = (R : Int) := IntWalk.i32_in _ (by omega)
        go_wp2_with (at_builtin; refine wpList_append_own_at _ rfl (.tmp 31) (.tmp 35) 192 rfl B 195 i0 _ 4 32 Tryz.underlying192 hi0 hz0 hz1 hz2 rfl (by decide) _ 0 [] rfl (HOW.out.alloc _) ⟨wi.heap.size, 0, none⟩ 1 1 [.int .i32 (R : Int), .int .i64 (p : Int), .int .i64 0, .bool false] rfl rfl (new_cells _ _ _ _ rfl) (by simp [Value.oneCell']) h63 (by omega) (by rw [size1]; omega) ?_)
        intro v' wx hown' hgrow' hnil' hat'
        have hbz := (hb2.alloc (by omega) (.cells #[.int .i32 (R : Int), .int .i64 (p : Int), .int .i64 0, .bool false] 195)).grown hgrow' (by rw [size1]; omega) (fun j hj => by simp [Value.ownBlock] at hj)
        have hitz : wx.heap[B]? = some (.stringIter s (p + N)) := by
          rw [hgrow'.block B (by rw [size1]; omega) (by simp [Value.ownBlock]), Below.heap_alloc _ _ _ (by omega)]
          exact hit2
        have hsz3 := hgrow'.size
        rw [size1] at hsz3
        have HO' := Lib.hid hown'
        clear hown' hgrow' hnil' hat' hit2 hb2 hg2 HOW h63
        go_wp2
        go_roundg (s.size + 5 - (p + N))
        case measure => omega
        case rel => exact ⟨[(R, p, N)], p + N, rfl, HC2.out, hitz, hbz, by omega, .inr ⟨[], (R, p, N), rfl, HO'.out⟩⟩
      · have hcl := chain_last HC.out
        obtain ⟨r1, a1, n1⟩ := u
        simp only at hcl
        obtain ⟨gq, cq, rfl, -, hncq⟩ := World.ownsRow.form hown (by omega)
        have hne := own_iter_ne hown hit
        have hgB : B ≤ gq := own_lt hown gq rfl
        have hown2 := hown.kept hg2 (.inr hne)
        have hneg : gq ≠ B := fun e => hne (by simp [Value.ownBlock, e])
        have hlL : L'.length + 1 ≤ s.size := by have := hlen; simp at this; omega
        have hst := hown2.stored (L'.length * 4 + 2) (.int .i64 (n1 : Int))
        rw [show (cus L' ++ cuO (r1, a1, n1)).set (L'.length * 4 + 2) (.int .i64 (n1 : Int)) = cus (L' ++ [(r1, a1, n1)]) from cus_set L' (r1, a1, n1)] at hst
        have ka : (wr.iterAt B s (p + N)).cell? ⟨gq, L'.length * 4 + 1, none⟩ = some (.int .i64 (a1 : Int)) := by
          rw [hown2.cellAt _ (by omega), List.getElem?_append_right (by rw [cus_len]; omega), cus_len]
          rw [Nat.add_sub_cancel_left]
          rfl
        have k2 : (wr.iterAt B s (p + N)).cell? ⟨gq, L'.length * 4 + 2, none⟩ = some (.int .i64 0) := by
          rw [hown2.cellAt _ (by omega), List.getElem?_append_right (by rw [cus_len]; omega), cus_len]
          rw [Nat.add_sub_cancel_left]
          rfl
        have kf := hown2.frozenAt (L'.length * 4 + 2)
        go_upto_region 6 with (fail)
        generalize wr.iterAt B s (p + N) = wi at hit2 hb2 hg2 HS2 hown2 hst ka k2 kf ⊢
        have hws : B < wi.heap.size := by have := HS2.out; omega
        have z1 : IntKind.i64.wrap ((L'.length : Int) + 1 - 1) = (L'.length : Int) := (IntWalk.i64_in ((L'.length : Int) + 1 - 1) (by omega)).trans (by omega)
        have z2 : IntKind.i64.wrap ((p : Int) - (a1 : Int)) = (n1 : Int) := (IntWalk.i64_in ((p : Int) - (a1 : Int)) (by omega)).trans (by omega)
        have HST := Lib.hid hst
        clear hst hown hown2 hrun hne
        go_upto_region 7 with (fail)
        generalize hws9 : wi.setCell ⟨gq, L'.length * 4 + 2, none⟩ (.int .i64 (n1 : Int)) = ws at HST ⊢
        have hb3 : Below B w ws := by
          rw [← hws9]; exact hb2.setCell (p := ⟨gq, L'.length * 4 + 2, none⟩) (by simp only [Value.ownBlock] at *; exact hgB) _
        have hit3 : ws.heap[B]? = some (.stringIter s (p + N)) := by
          rw [← hws9, Below.heap_setCell _ _ _ _ (fun e => hneg (by simpa using e.symm))]
          exact hit2
        have hwz : B < ws.heap.size := by rw [← hws9]; simpa [World.setCell] using hws
        clear hws9 hit2 hb2 ka k2 kf
        have h63 : L'.length + 1 + 1 ≤ maxLen := by unfold maxLen; omega
        have zw : IntKind.i32.wrap (R : Int) = (R : Int) := IntWalk.i32_in _ (by omega)
        go_wp2_with (at_builtin; refine wpList_append_own_at _ rfl (.tmp 31) (.tmp 35) 192 rfl B 195 i0 _ 4 32 Tryz.underlying192 hi0 hz0 hz1 hz2 rfl (by decide) _ (L'.length + 1) (cus (L' ++ [(r1, a1, n1)])) rfl (HST.out.1.alloc _) ⟨ws.heap.size, 0, none⟩ 1 1 [.int .i32 (R : Int), .int .i64 (p : Int), .int .i64 0, .bool false] rfl rfl (new_cells _ _ _ _ rfl) (by simp [Value.oneCell']) h63 (by omega) (by rw [size1]; omega) ?_)
        intro v' wx hown' hgrow' hnil' hat'
        have hbz := (hb3.alloc (by omega) (.cells #[.int .i32 (R : Int), .int .i64 (p : Int), .int .i64 0, .bool false] 195)).grown hgrow' (by rw [size1]; omega) (fun j hj => by simp [Value.ownBlock] at hj; omega)
        have hitz : wx.heap[B]? = some (.stringIter s (p + N)) := by
          rw [hgrow'.block B (by rw [size1]; omega) (by simp [Value.ownBlock]; omega), Below.heap_alloc _ _ _ (by omega)]
          exact hit3
        have hsz3 := hgrow'.size
        rw [size1] at hsz3
        have HO' := Lib.hid hown'
        clear hown' hgrow' hnil' hat' hit3 hb3 HST h63
        go_wp2
        go_roundg (s.size + 5 - (p + N))
        case measure => omega
        case rel => exact ⟨(L' ++ [(r1, a1, n1)]) ++ [(R, p, N)], p + N, rfl, HC2.out, hitz, hbz, by omega, .inr ⟨L' ++ [(r1, a1, n1)], (R, p, N), rfl, by rw [List.length_append]; exact HO'.out⟩⟩
    · have hrun := fun ty => Lib.run_next_end_at (P := Tryz.prog) wr B s p ty hit hlt
      have hpe : p = s.size := by omega
      rcases hrel with ⟨rfl, rfl⟩ | ⟨L', u, rfl, hown⟩
      · go_wp2_with fail
        refine wp_loop_rounds 1 ?_
        rw [rounds_succ]
        go_wp2
        go_ret
        exact ⟨_, rfl, ⟨[], p, HC.out, by omega, World.ownsRow_nil _ _ _ _⟩, HB.out ▸ hbB⟩
      · have hcl := chain_last HC.out
        have hmem := chain_mem HC.out
        obtain ⟨r1, a1, n1⟩ := u
        simp only at hcl
        have hlen := chain_len HC.out
        have hlL : L'.length + 1 ≤ s.size := by simp at hlen; omega
        obtain ⟨gq, cq, rfl, -, hncq⟩ := World.ownsRow.form hown (by omega)
        have hgB : B ≤ gq := own_lt hown gq rfl
        have hst := (hown.stored (L'.length * 4 + 2) (.int .i64 (n1 : Int))).1
        rw [show (cus L' ++ cuO (r1, a1, n1)).set (L'.length * 4 + 2) (.int .i64 (n1 : Int)) = cus (L' ++ [(r1, a1, n1)]) from cus_set L' (r1, a1, n1)] at hst
        have ka : wr.cell? ⟨gq, L'.length * 4 + 1, none⟩ = some (.int .i64 (a1 : Int)) := by
          rw [hown.cellAt _ (by omega), List.getElem?_append_right (by rw [cus_len]; omega), cus_len]
          rw [Nat.add_sub_cancel_left]
          rfl
        have k2 : wr.cell? ⟨gq, L'.length * 4 + 2, none⟩ = some (.int .i64 0) := by
          rw [hown.cellAt _ (by omega), List.getElem?_append_right (by rw [cus_len]; omega), cus_len]
          rw [Nat.add_sub_cancel_left]
          rfl
        have kf := hown.frozenAt (L'.length * 4 + 2)
        have z1 : IntKind.i64.wrap ((L'.length : Int) + 1 - 1) = (L'.length : Int) := (IntWalk.i64_in ((L'.length : Int) + 1 - 1) (by omega)).trans (by omega)
        have z2 : IntKind.i64.wrap ((s.size : Int) - (a1 : Int)) = (n1 : Int) := (IntWalk.i64_in ((s.size : Int) - (a1 : Int)) (by omega)).trans (by omega)
        have HST := Lib.hid hst
        have HPE := Lib.hid hpe
        clear hst hown hpe
        go_upto_region 10 with (fail)
        generalize hws9 : wr.setCell ⟨gq, L'.length * 4 + 2, none⟩ (.int .i64 (n1 : Int)) = ws at HST ⊢
        have hb3 : Below B w ws := by
          rw [← hws9]; exact hbB.setCell (p := ⟨gq, L'.length * 4 + 2, none⟩) hgB _
        clear hws9 ka k2 kf hrun z1 z2 hit
        generalize hLL : L' ++ [(r1, a1, n1)] = LL at HST HC hmem
        have hll : L'.length + 1 = LL.length := by rw [← hLL]; simp
        rw [hll] at HST hlL ⊢
        clear hLL hll hlen
        go_wp2_with fail
        go_loopg [58] (LL.length + 1) (fun q v wr => ∃ k : Nat, q = LL.length + 1 - k ∧ k ≤ LL.length ∧ v = .int .i64 (k : Int) ∧ Hid (wr.ownsRow B 195 4 (.slice (some ⟨gq, 0, none⟩) LL.length cq) LL.length (cus2 LL k)) ∧ Below B w wr)
        case atStart => exact ⟨0, rfl, Nat.zero_le _, rfl, by show _; rw [cus2_zero]; exact HST.out, hb3⟩
        case round =>
          obtain ⟨k, rfl, hk, rfl, HO, hbk⟩ := hrel
          by_cases hkl : k < LL.length
          · obtain ⟨uu, huu⟩ : ∃ uu, uu = LL[k] := ⟨_, rfl⟩
            have hum := hmem LL[k] (List.getElem_mem hkl)
            have k0 : wr.cell? ⟨gq, k * 4, none⟩ = some (.int .i32 (LL[k].1 : Int)) := by
              rw [HO.out.cellAt _ (by omega)]; exact cus2_get LL k 0 hkl _ rfl
            have k2 : wr.cell? ⟨gq, k * 4 + 2, none⟩ = some (.int .i64 (LL[k].2.2 : Int)) := by
              rw [HO.out.cellAt _ (by omega)]; exact cus2_get LL k 2 hkl _ rfl
            have k3 : wr.cell? ⟨gq, k * 4 + 3, none⟩ = some (.bool false) := by
              rw [HO.out.cellAt _ (by omega)]; exact cus2_get LL k 3 hkl _ rfl
            have kf := HO.out.frozenAt (k * 4 + 3)
            have HS3 := Lib.hid ((HO.out.stored (k * 4 + 3) (.bool (okU LL[k]))).1)
            have HE3 := Lib.hid (cus2_set LL k hkl)
            rw [← huu] at k0 k2 hum HS3 HE3
            clear huu
            obtain ⟨r2, a2, n2⟩ := uu
            simp only at k0 k2 hum
            have hbk2 := hbk.setCell (p := ⟨gq, k * 4 + 3, none⟩) hgB (.bool (okU (r2, a2, n2)))
            have zk : IntKind.i64.wrap ((k : Int) + 1) = (k : Int) + 1 := IntWalk.i64_in _ (by omega)
            rcases (show r2 ≠ 65533 ∨ (r2 = 65533 ∧ n2 = 3) ∨ (r2 = 65533 ∧ n2 ≠ 3) by omega) with hc | hc | hc
            · have ho : okU (r2, a2, n2) = true := by simp [okU, hc]
              have d1 : ((r2 : Int) == 65533) = false := beq_eq_false_iff_ne.2 (by omega)
              have d2 : ((r2 : Int) != 65533) = true := by rw [bne_iff_ne]; omega
              rw [ho] at HS3 HE3 hbk2
              clear hc ho
              go_wp2
              go_roundg (LL.length + 1 - (k + 1))
              case measure => omega
              case rel => exact ⟨k + 1, rfl, by omega, by go_num, by show _; rw [← HE3.out]; exact HS3.out, hbk2⟩
            · have ho : okU (r2, a2, n2) = true := by simp [okU, hc]
              have d1 : ((r2 : Int) == 65533) = true := beq_iff_eq.2 (by omega)
              have d2 : ((r2 : Int) != 65533) = false := by rw [bne_eq_false_iff_eq]; omega
              have d3 : ((n2 : Int) == 3) = true := beq_iff_eq.2 (by omega)
              rw [ho] at HS3 HE3 hbk2
              clear hc ho
              go_wp2
              go_roundg (LL.length + 1 - (k + 1))
              case measure => omega
              case rel => exact ⟨k + 1, rfl, by omega, by go_num, by show _; rw [← HE3.out]; exact HS3.out, hbk2⟩
            · have ho : okU (r2, a2, n2) = false := by simp [okU, hc]
              have d1 : ((r2 : Int) == 65533) = true := beq_iff_eq.2 (by omega)
              have d2 : ((r2 : Int) != 65533) = false := by rw [bne_eq_false_iff_eq]; omega
              have d3 : ((n2 : Int) == 3) = false := beq_eq_false_iff_ne.2 (by omega)
              rw [ho] at HS3 HE3 hbk2
              clear hc ho
              go_wp2
              go_roundg (LL.length + 1 - (k + 1))
              case measure => omega
              case rel => exact ⟨k + 1, rfl, by omega, by go_num, by show _; rw [← HE3.out]; exact HS3.out, hbk2⟩
          · obtain rfl : k = LL.length := by omega
            go_wp2
            go_ret
            exact ⟨_, rfl, ⟨LL, p, HC.out, by have := HPE.out; omega, HB.out ▸ HO.out⟩, HB.out ▸ hbk⟩
end Go.Proofs.YtfenjklilocjgaaGreatDoor
