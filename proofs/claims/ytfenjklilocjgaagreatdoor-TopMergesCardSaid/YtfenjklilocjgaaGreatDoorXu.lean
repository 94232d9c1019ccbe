/- Parts of the proof: Xq, Xu. No condition of its own. -/
import Derived.Test.YtfenjklilocjgaaGreatDoorKp
import Derived.Test.YtfenjklilocjgaaGreatDoorXj
import Derived.Maps.RangeWalk
import Derived.Maps.OwnOps
import Derived.Test.YtfenjklilocjgaaGreatDoorXo
import Derived.Test.YtfenjklilocjgaaGreatDoorSlai
set_option linter.unusedSimpArgs false
set_option linter.unusedVariables false
set_option linter.unusedSectionVars false
namespace Go.Proofs.YtfenjklilocjgaaGreatDoor
set_option linter.unusedSimpArgs false
set_option linter.unusedVariables false
set_option linter.unusedSectionVars false
open Go.RowKit

/-- The words that have come. -/
def Come (D : DataW Unit) (left : Lit → Bool) (ss : List ByteArray) : Prop := ss.Nodup ∧ ∀ s, s ∈ ss ↔ (Maps.has D (kyS s) = true ∧ left (kyS s) = false)
theorem Come.start (D : DataW Unit) : Come D (Maps.has D) [] := ⟨List.nodup_nil, fun s => by cases Maps.has D (kyS s) <;> simp⟩
theorem Come.step {D : DataW Unit} {left : Lit → Bool} {ss : List ByteArray} (h : Come D left ss) {s : ByteArray} {y : DataW Unit} (hlk : left (kyS s) = true) (hat : ∀ zd, D.atKey (kyS s) zd = y) : Come D (fun z => left z && !z.sameKey (kyS s)) (ss ++ [s]) := by
  have hhas : Maps.has D (kyS s) = true := Maps.has_true_of_atKey hat
  have hnew : s ∉ ss := fun hx => by have := ((h.2 s).1 hx).2; rw [hlk] at this; cases this
  refine ⟨List.nodup_append.2 ⟨h.1, by simp, fun a ha b hb => by simp at hb; subst hb; exact fun e => hnew (e ▸ ha)⟩, fun y => ?_⟩
  by_cases hy : y = s
  · subst hy
    have h9 : (kyS y).sameKey (kyS y) = true := WideAt.sameKey_self (by unfold kyS; trivial)
    simp [hhas, h9]
  · have hne : (kyS y).sameKey (kyS s) = false := Maps.sameKey_ne (kyS_ne hy)
    simp [h.2 y, hy, hne]
theorem Come.all {D : DataW Unit} {left : Lit → Bool} {ss ws : List ByteArray} (h : Come D left ss) (hl : ∀ z, left z = false) (hC : Cnt D ws) : ∀ s, s ∈ ss ↔ s ∈ ws := fun s => by rw [h.2, hl, ← hC.has]; simp
/-- The next entry of a range over counted words. -/
theorem next_words {w : World} {b r n : Nat} {D : DataW Unit} {left : Lit → Bool} {cnt : Nat} {ws : List ByteArray} (h : w.ranges Tryz.prog 9 (plainElem Tryz.prog 3) b r n D left cnt) (hC : Cnt D ws) (ty : TypeId) :
    (cnt = 0 ∧ (∀ z, left z = false) ∧ (Instr.next (.pointer (some ⟨r, 0, none⟩)) false ty).run Tryz.prog w = .ok (.tuple #[.bool false]) w) ∨
    ∃ (s : ByteArray) (w' : World) (cnt' : Nat), s.size ≤ maxLen ∧ left (kyS s) = true ∧ (∀ zd, D.atKey (kyS s) zd = .lit (.int .i64 ((cn ws s : Nat) : Int))) ∧ (Instr.next (.pointer (some ⟨r, 0, none⟩)) false ty).run Tryz.prog w = .ok (.tuple #[.bool true, .string s, .int .i64 ((cn ws s : Nat) : Int)]) w' ∧
      w'.ranges Tryz.prog 9 (plainElem Tryz.prog 3) b r n D (fun z => left z && !z.sameKey (kyS s)) cnt' ∧ cnt' < cnt ∧ w.grownBy w' (some r) ∧ w'.heap.size = w.heap.size ∧ (Instr.entry (.pointer (some ⟨r, 0, none⟩))).run Tryz.prog w' = .ok (.tuple #[.string s, .int .i64 ((cn ws s : Nat) : Int)]) w' := by
  rcases h.next keyS ty with ⟨h0, hl, hrun⟩ | ⟨key, v, kl, y, w', cnt', hkey, hlk, hv, hat, hrun, hrg, hlt, hgr, hsz, hen⟩
  · exact .inl ⟨h0, hl, hrun⟩
  · obtain ⟨s, rfl, rfl, hs⟩ := WideMaps.string_of_keyOf Tryz.underlying9 hkey
    obtain ⟨c, rfl, rfl, -⟩ := plainElem_int_inv Tryz.underlying3 hv
    have hat' : D.atKey (kyS s) (.lit (.int .i64 0)) = .lit (.int .i64 c) := hat _
    obtain rfl := hC.val hat'
    exact .inr ⟨s, w', cnt', hs, hlk, hat, hrun, hrg, hlt, hgr, hsz, hen⟩
theorem MapW.look {w : World} {b n : Nat} {ws : List ByteArray} (h : MapW w b n ws) {s : ByteArray} (hs : s.size ≤ maxLen) : (Instr.lookup 46 (.map (some b)) (.string s) false).run Tryz.prog w = .ok (.int .i64 ((cn ws s : Nat) : Int)) w := by
  obtain ⟨D, hown, hC⟩ := h
  obtain ⟨c, hlk, hat, -⟩ := hown.lookup_int keyS Tryz.underlying46 Tryz.underlying3 (zeroI _) (kyS_key hs)
  obtain rfl := hC.val hat
  exact hlk
theorem MapW.lt {w : World} {b n : Nat} {ws : List ByteArray} (h : MapW w b n ws) : b < w.heap.size := let ⟨_, hown, _⟩ := h; hown.lt
theorem MapW.under {w w' : World} {b n R : Nat} {ws : List ByteArray} (h : MapW w b n ws) (hb : Below R w w') (hR : b < R) : MapW w' b n ws := h.chg (S := fun k => R ≤ k) (Chg.of_below hb fun k _ e => e) (by omega)
theorem ranges_room {w : World} {P : Program} {k : TypeId} {R : Value → Option (DataW Unit × List MemPlace)} {b n : Nat} {D : DataW Unit} (h : w.ownsMap P k R b n D) : Maps.size D ≤ n := by
  obtain ⟨es, clock, hb, F, hs, rfl⟩ := h
  rw [Maps.size_eq, Go.length_sorted]
  simpa using hs
theorem grown_below9 {w w' : World} {row : Option Nat} {B : Nat} (h : w.grownBy w' row) (hB : B ≤ w.heap.size) (hr : ∀ k, row = some k → B ≤ k) : Below B w w' := ⟨h.os, h.tape, h.output, h.size, fun k hk => h.block k (by omega) fun e => by have := hr k e.symm; omega⟩
open Go in
theorem run_append_none8 {P : Program} (w : World) (base : Nat) (t ty e : TypeId) (i : TypeInfo) (size c : Nat) (ht : P.underlying t = some (.slice e)) (hi : P.info? e = some i)
    (v : Value) (n : Nat) (xs : List Value) (hown : w.ownsRow base e size v n xs) :
    (Builtin.append_ #[t, t] ty #[v, .slice none 0 c]).run P w = .ok v w := by
  rcases hown.2 with ⟨rfl, rfl⟩ | ⟨g, cap, cur, rfl, _, _, hnc, _⟩
  · simp [Builtin.append_, run_underlying ht, sizeOf, typeInfo, hi, Builtin.lenOf, Builtin.firstCells]
  · simp [Builtin.append_, run_underlying ht, sizeOf, typeInfo, hi, Builtin.lenOf, Builtin.firstCells, hnc, storeCells]
open Go in
/-- append(v, s...) where v is the call's own and s whatever. -/
theorem run_append_src8 {P : Program} (w : World) (base : Nat) (t ty e : TypeId) (i : TypeInfo) (z : Value) (size bytes : Nat) (ht : P.underlying t = some (.slice e)) (hi : P.info? e = some i) (hz : i.zero = some z)
    (hsize : i.size = size) (hby : i.bytes = bytes) (hzs : z.cells.size = size) (hsz : 0 < size)
    (v : Value) (n : Nat) (xs : List Value) (hown : w.ownsRow base e size v n xs) (A : Option Addr) (m c : Nat) (news : List Value) (hl : news.length = m * size) (hr : Rd w A news) (h1 : ∀ u ∈ news, u.oneCell' = true)
    (h63 : n + m ≤ maxLen) (hbytes : (n + m) * bytes ≤ 140737488355328) (hbase : base ≤ w.heap.size) :
    ∃ v' w', (Builtin.append_ #[t, t] ty #[v, .slice A m c]).run P w = .ok v' w' ∧ w'.ownsRow base e size v' (n + m) (xs ++ news) ∧ w.grownBy w' v.ownBlock ∧ (v'.ownBlock = v.ownBlock ∨ v'.ownBlock = some w.heap.size) := by
  cases A with
  | none =>
    have hn : news = [] := by
      cases news with
      | nil => rfl
      | cons u r => obtain ⟨b, off, e, -⟩ := hr 0 u rfl; cases e
    subst hn
    have hm : m = 0 := by
      rcases Nat.eq_zero_or_pos m with h | h
      · exact h
      · have := Nat.mul_pos h hsz; simp at hl; omega
    subst hm
    exact ⟨v, w, run_append_none8 w base t ty e i size c ht hi v n xs hown, by simpa using hown, World.grownBy.refl _ _, .inl rfl⟩
  | some ad =>
    obtain ⟨v', w', hr', h2, h3, _, h5⟩ := run_append_own_at (P := P) w base t ty e i z size bytes ht hi hz hsize hby hzs hsz v n xs hown ad m c news hl (fun j u hu => by
      obtain ⟨b, off, e, hc⟩ := hr j u hu
      injection e with e
      subst e
      rw [Addr.add_lit]; exact hc) h1 h63 hbytes hbase
    exact ⟨v', w', hr', h2, h3, h5⟩
open Go in
theorem wp_append_eq8 {P : Program} {w w' : World} {o : Oper} {a : Act} {K : Act → World → Prop} {Q : Exit → Act → World → Prop} (s x : Operand) (t : TypeId)
    (ho : o.op = .call { callee := .builtin .append, args := #[s, x], argTypes := #[t, t] }) (v u v' : Value) (hs : a.eval s = v) (hx : a.eval x = u)
    (hr : (Builtin.append_ #[t, t] o.type #[v, u]).run P w = .ok v' w') (h : K (a.put o.dst v') w') : o.wp P a w K Q := by
  unfold Oper.wp execOp
  simp only [ho, resolve, invoke, builtin, Sem.run_bind, Sem.run_pure, Result.andThen_ok, List.map_toArray, List.map_cons, List.map_nil, hs, hx, hr]
  exact h
open Go in
theorem wpList_append_eq8 {P : Program} {w w' : World} {ops : Array Oper} {rest : List Oper} {o : Oper} {a : Act} {Q : Exit → Act → World → Prop} (hgd : o.guard = none) (s x : Operand) (t : TypeId)
    (ho : o.op = .call { callee := .builtin .append, args := #[s, x], argTypes := #[t, t] }) (v u v' : Value) (hs : a.eval s = v) (hx : a.eval x = u)
    (hr : (Builtin.append_ #[t, t] o.type #[v, u]).run P w = .ok v' w') (h : wpList P ops Q rest (a.put o.dst v') w') : wpList P ops Q (o :: rest) a w :=
  wpList_plain hgd fun _ hK => wp_append_eq8 s x t ho v u v' hs hx hr (hK _ _ h)
/-- What has become of a row of one cell an element that a drawn region makes longer by one and lays into cell idx of block gc: l8: the element is laid; l9: appended; l12: stored. -/
structure AL (B : Nat) (E T : TypeId) (gc : Nat) (cs : List Value) (idx n : Nat) (xs : List Value) (v0 x : Value) (l8 l9 l12 : Bool) (v8 v9 : Value) (w : World) : Prop where
  h98 : l9 = true → l8 = true
  h129 : l12 = true → l9 = true
  r0 : l9 = false → w.ownsRow B E 1 v0 n xs
  r8 : l8 = true → l9 = false → ∃ g, v8 = .slice (some ⟨g, 0, none⟩) 1 1 ∧ Own w g E [x]
  r9 : l9 = true → w.ownsRow B E 1 v9 (n + 1) (xs ++ [x])
  c0 : l12 = false → Own w gc T cs
  c1 : l12 = true → Own w gc T (cs.set idx v9)
  hB : B ≤ w.heap.size
  hg : gc < B
section
variable {B : Nat} {E T : TypeId} {gc : Nat} {cs : List Value} {idx n : Nat} {xs : List Value} {v0 x : Value} {l8 l9 l12 : Bool} {v8 v9 : Value} {w w' : World}
theorem AL.start (h : w.ownsRow B E 1 v0 n xs) (hc : Own w gc T cs) (hB : B ≤ w.heap.size) (hg : gc < B) (v8 v9 : Value) : AL B E T gc cs idx n xs v0 x false false false v8 v9 w :=
  ⟨(fun h => nomatch h), (fun h => nomatch h), fun _ => h, (fun h => nomatch h), (fun h => nomatch h), fun _ => hc, (fun h => nomatch h), hB, hg⟩
theorem grown_own8 {row : Option Nat} {g : Nat} {t : TypeId} {xs : List Value} (hgr : w.grownBy w' row) (ho : Own w g t xs) (hr : row ≠ some g) : Own w' g t xs := (hgr.block g ho.lt (fun e => hr e.symm)).trans ho
theorem AL.a8 (h : AL B E T gc cs idx n xs v0 x l8 l9 l12 v8 v9 w) (hl : l8 = false) : AL B E T gc cs idx n xs v0 x true l9 l12 (.slice (some ⟨w.heap.size, 0, none⟩) 1 1) v9 (w.alloc (.cells #[x] E)) := by
  have h9 : l9 = false := by cases l9 with | false => rfl | true => have := h.h98 rfl; rw [hl] at this; cases this
  have h12 : l12 = false := by cases l12 with | false => rfl | true => have := h.h129 rfl; rw [h9] at this; cases this
  subst h9 h12
  exact ⟨fun _ => rfl, (fun h => nomatch h), fun _ => (h.r0 rfl).alloc _, fun _ _ => ⟨_, rfl, Own.new _ _ [x]⟩, (fun h => nomatch h), fun _ => (h.c0 rfl).alloc _, (fun h => nomatch h), by rw [size1]; have := h.hB; omega, h.hg⟩
theorem AL.a9 (h : AL B E T gc cs idx n xs v0 x l8 l9 l12 v8 v9 w) (hl8 : l8 = true) (hl : l9 = false) {v : Value} (ho : w'.ownsRow B E 1 v (n + 1) (xs ++ [x])) (hgr : w.grownBy w' v0.ownBlock) : AL B E T gc cs idx n xs v0 x l8 true l12 v8 v w' := by
  have h12 : l12 = false := by cases l12 with | false => rfl | true => have := h.h129 rfl; rw [hl] at this; cases this
  subst h12
  exact ⟨fun _ => hl8, (fun h => nomatch h), (fun h => nomatch h), (fun _ h => nomatch h), fun _ => ho, fun _ => grown_own8 hgr (h.c0 rfl) (fun e => by have := own_lt (h.r0 hl) gc e; have := h.hg; omega), (fun h => nomatch h), Nat.le_trans h.hB hgr.size, h.hg⟩
theorem AL.s12 (h : AL B E T gc cs idx n xs v0 x l8 l9 l12 v8 v9 w) (hl9 : l9 = true) (hl : l12 = false) : AL B E T gc cs idx n xs v0 x l8 l9 true v8 v9 (w.setCell ⟨gc, idx, none⟩ v9) := by
  subst hl9
  refine ⟨h.h98, fun _ => rfl, (fun h => nomatch h), (fun _ h => nomatch h), fun _ => (h.r9 rfl).kept (grownBy_setCell w ⟨gc, idx, none⟩ v9) (.inr fun e => by have := own_lt (h.r9 rfl) gc e; have := h.hg; omega), (fun h => nomatch h), fun _ => (h.c0 hl).set_ idx v9, by simp only [World.setCell, Array.size_modify]; exact h.hB, h.hg⟩
end
/-- The library's order of bytes is the program's. -/
theorem srt_le {l : List (List UInt8)} (hp : l.Pairwise fun x y => decide (x ≤ y) = true) (hn : l.Nodup) : Srt ltS (l.map fun b => (⟨b.toArray⟩ : ByteArray)) := by
  show List.Pairwise _ _
  rw [List.pairwise_map]
  refine (hp.and hn).imp fun {x y} ⟨h1, h2⟩ => ?_
  have h1 : x ≤ y := by simpa using h1
  rcases ltS_total ⟨x.toArray⟩ ⟨y.toArray⟩ with h | h | h
  · exact h
  · exact absurd (by simpa using h) h2
  · exact absurd (by simpa using ltS_iff.1 h) (List.not_lt.2 h1)
set_option linter.unusedSimpArgs false
set_option linter.unusedVariables false
set_option linter.unusedSectionVars false
open Go.RowKit Go.Sort Go.Shelf

/-- Grown: blocks of its own and draws besides. -/
def GE (w w' : World) : Prop := Below w.heap.size w w' ∧ w.drawn ≤ w'.drawn
section
variable {w w' w'' : World}
theorem GE.refl (w : World) : GE w w := ⟨Below.refl _ _, Nat.le_refl _⟩
theorem GE.trans (h : GE w w') (h' : GE w' w'') : GE w w'' := ⟨h.1.trans (h'.1.mono h.1.size), Nat.le_trans h.2 h'.2⟩
theorem GE.drew (h : GE w w') : GE w w'.drew := ⟨⟨h.1.os, h.1.tape, h.1.output, h.1.size, h.1.block⟩, Nat.le_trans h.2 (Nat.le_succ _)⟩
theorem GE.alloc (h : GE w w') (o : Obj) : GE w (w'.alloc o) := ⟨h.1.alloc h.1.size o, h.2⟩
theorem GE.chg {S : Nat → Prop} (h : GE w w') : Chg S w w' := Chg.grow9 h.1
theorem GE.grow (h : GE w w') : ∃ q os, w' = Go.Sort.grow (w.drewN q) os := by
  refine ⟨w'.drawn - w.drawn, w'.heap.extract w.heap.size w'.heap.size, ?_⟩
  obtain ⟨⟨h1, h2, h3, h4, h5⟩, h6⟩ := h
  have e1 : w'.heap = w.heap ++ w'.heap.extract w.heap.size w'.heap.size := by
    apply Array.ext
    · simp; omega
    · intro i hi1 hi2
      rw [Array.getElem_append]
      split
      · rename_i hlt
        have := h5 i hlt
        rw [Array.getElem?_eq_getElem hi1, Array.getElem?_eq_getElem hlt] at this
        exact Option.some.inj this
      · rename_i hge
        rw [Array.getElem_extract]
        congr 1
        omega
  have e2 : w'.drawn = w.drawn + (w'.drawn - w.drawn) := by omega
  cases w; cases w'
  simp only at h1 h2 h3
  subst h1 h2 h3
  unfold Go.Sort.grow World.drewN
  simp only at e1 e2 ⊢
  rw [← e1, ← e2]
end
theorem cmpB_neg : ∀ (x y : List UInt8), decide (Lib.compareBytes x y < 0) = Op.bytesLess x y
  | [], [] => rfl
  | [], _ :: _ => rfl
  | _ :: _, [] => rfl
  | a :: xs, b :: ys => by
    unfold Lib.compareBytes Op.bytesLess
    rcases Nat.lt_trichotomy a.toNat b.toNat with h | h | h
    · have h1 : a < b := h
      simp [h1]
    · have h1 : a = b := UInt8.toNat_inj.1 h
      subst h1
      have h2 : ¬ a < a := fun x => Nat.lt_irrefl _ x
      simp [h2, cmpB_neg xs ys]
    · have h1 : b < a := h
      have h2 : ¬ a < b := fun x => Nat.lt_asymm h x
      have h3 : ¬ a = b := fun e => by subst e; exact Nat.lt_irrefl _ h
      simp [h1, h2, h3]
theorem swoB {n : Nat} (r : Fin n → ByteArray) : SWO (ltOf fun x y => Lib.compareBytes (r x).data.toList (r y).data.toList) := by
  have e : (ltOf fun x y => Lib.compareBytes (r x).data.toList (r y).data.toList) = fun x y => ltS (r x) (r y) := by
    funext x y
    show decide (Lib.compareBytes (r x).data.toList (r y).data.toList < 0) = _
    rw [cmpB_neg, bytesLess_iff, Bool.eq_iff_iff, ltS_iff, decide_eq_true_iff]
  rw [e]
  have T := ltS_tot.swo
  exact ⟨fun x => T.irrefl _, fun x y z => T.trans _ _ _, fun x y z => T.ntrans _ _ _⟩
set_option maxRecDepth 100000 in
set_option maxHeartbeats 2000000 in
theorem fin_closure (bx gR n i j : Nat) (si sj : ByteArray) (hi : i < n) (hj : j < n) (hn : n ≤ 1000000) (w : World) (x_0 : w.cell? ⟨bx, 0, none⟩ = some (.slice (some ⟨gR, 0, none⟩) n n)) (x_1 : w.cell? ⟨gR, i, none⟩ = some (.string si)) (x_2 : w.cell? ⟨gR, j, none⟩ = some (.string sj)) :
    Calls Tryz.prog 32 #[.int .i64 (i : Int), .int .i64 (j : Int), .pointer (some ⟨bx, 0, none⟩)] w fun e w' => e = .returned (.int .i64 (Lib.compareBytes si.data.toList sj.data.toList)) ∧ GE w w' := by
  have hz1 : (i : Int) < (n : Int) := by omega
  have hz2 : (j : Int) < (n : Int) := by omega
  go_enter Tryz.func32, Tryz.ntmps32
  go_upto_region 1 with (fail)
  refine wp_reg_t (fun a b => GE a b) ((fun a => GE.refl a)) ((fun _ _ _ h h' => h.trans h')) [some 6, some 7, some 8, some 9, some 10, some 11, some 12, some 13, some 14, some 5] [isV ?v1_0, isV ?v1_1, isV ?v1_2, isV ?v1_3, isV ?v1_4, isV ?v1_5, isV ?v1_6, isV ?v1_7, isV (.int .i64 (Lib.compareBytes si.data.toList sj.data.toList)), isV ?v1_9] rfl (by kernel_rfl) rfl rfl ?k1 ⟨?s1_0, ?s1_1, ?s1_2, ?s1_3, ?s1_4, ?s1_5, ?s1_6, ?s1_7, ?s1_8, ?s1_9, trivial⟩ ?p1
  case s1_0 =>
    intro t9 w9 hT9 hV9 hO9 K9 hK9
    have o9_2 := hO9 2 _ (show List.contains _ _ = false from by kernel_rfl) rfl
    clear hV9 hO9
    have d9_0 := below_cell hT9.1 x_0
    have d9_1 := below_cell hT9.1 x_1
    have d9_2 := below_cell hT9.1 x_2
    go_simp
    (refine hK9 _ _ ((fun a => GE.refl a) w9) ?_; exact rfl)
  case s1_1 =>
    intro t9 w9 hT9 hV9 hO9 K9 hK9
    have o9_0 := hO9 0 _ (show List.contains _ _ = false from by kernel_rfl) rfl
    clear hV9 hO9
    go_simp
    (refine hK9 _ _ ((fun a => GE.refl a) w9) ?_; exact rfl)
  case s1_2 =>
    intro t9 w9 hT9 hV9 hO9 K9 hK9
    obtain ⟨x9_0, p9_0, q9_0⟩ := hV9 0 6 rfl rfl (of_decide_eq_true (by kernel_rfl))
    obtain rfl : x9_0 = ?v1_0 := q9_0
    obtain ⟨x9_1, p9_1, q9_1⟩ := hV9 1 7 rfl rfl (of_decide_eq_true (by kernel_rfl))
    obtain rfl : x9_1 = ?v1_1 := q9_1
    clear hV9 hO9
    go_simp
    (refine hK9 _ _ ((fun a => GE.refl a) w9) ?_; exact rfl)
  case s1_3 =>
    intro t9 w9 hT9 hV9 hO9 K9 hK9
    obtain ⟨x9_2, p9_2, q9_2⟩ := hV9 2 8 rfl rfl (of_decide_eq_true (by kernel_rfl))
    obtain rfl : x9_2 = ?v1_2 := q9_2
    clear hV9 hO9
    have d9_0 := below_cell hT9.1 x_0
    have d9_1 := below_cell hT9.1 x_1
    have d9_2 := below_cell hT9.1 x_2
    go_simp
    (refine hK9 _ _ ((fun a => GE.refl a) w9) ?_; exact rfl)
  case s1_4 =>
    intro t9 w9 hT9 hV9 hO9 K9 hK9
    have o9_2 := hO9 2 _ (show List.contains _ _ = false from by kernel_rfl) rfl
    clear hV9 hO9
    have d9_0 := below_cell hT9.1 x_0
    have d9_1 := below_cell hT9.1 x_1
    have d9_2 := below_cell hT9.1 x_2
    go_simp
    (refine hK9 _ _ ((fun a => GE.refl a) w9) ?_; exact rfl)
  case s1_5 =>
    intro t9 w9 hT9 hV9 hO9 K9 hK9
    have o9_1 := hO9 1 _ (show List.contains _ _ = false from by kernel_rfl) rfl
    clear hV9 hO9
    go_simp
    (refine hK9 _ _ ((fun a => GE.refl a) w9) ?_; exact rfl)
  case s1_6 =>
    intro t9 w9 hT9 hV9 hO9 K9 hK9
    obtain ⟨x9_4, p9_4, q9_4⟩ := hV9 4 10 rfl rfl (of_decide_eq_true (by kernel_rfl))
    obtain rfl : x9_4 = ?v1_4 := q9_4
    obtain ⟨x9_5, p9_5, q9_5⟩ := hV9 5 11 rfl rfl (of_decide_eq_true (by kernel_rfl))
    obtain rfl : x9_5 = ?v1_5 := q9_5
    clear hV9 hO9
    go_simp
    (refine hK9 _ _ ((fun a => GE.refl a) w9) ?_; exact rfl)
  case s1_7 =>
    intro t9 w9 hT9 hV9 hO9 K9 hK9
    obtain ⟨x9_6, p9_6, q9_6⟩ := hV9 6 12 rfl rfl (of_decide_eq_true (by kernel_rfl))
    obtain rfl : x9_6 = ?v1_6 := q9_6
    clear hV9 hO9
    have d9_0 := below_cell hT9.1 x_0
    have d9_1 := below_cell hT9.1 x_1
    have d9_2 := below_cell hT9.1 x_2
    go_simp
    (refine hK9 _ _ ((fun a => GE.refl a) w9) ?_; exact rfl)
  case s1_8 =>
    intro t9 w9 hT9 hV9 hO9 K9 hK9
    obtain ⟨x9_3, p9_3, q9_3⟩ := hV9 3 9 rfl rfl (of_decide_eq_true (by kernel_rfl))
    obtain rfl : x9_3 = ?v1_3 := q9_3
    obtain ⟨x9_7, p9_7, q9_7⟩ := hV9 7 13 rfl rfl (of_decide_eq_true (by kernel_rfl))
    obtain rfl : x9_7 = ?v1_7 := q9_7
    clear hV9 hO9
    have d9_0 := below_cell hT9.1 x_0
    have d9_1 := below_cell hT9.1 x_1
    have d9_2 := below_cell hT9.1 x_2
    go_simp
    refine (Tryz.strings_Compare si sj _).mono ?_
    rintro _ _ ⟨rfl, rfl⟩
    exact hK9 _ _ (GE.refl _) rfl
  case s1_9 =>
    intro t9 w9 hT9 hV9 hO9 K9 hK9
    obtain ⟨x9_8, p9_8, q9_8⟩ := hV9 8 14 rfl rfl (of_decide_eq_true (by kernel_rfl))
    obtain rfl : x9_8 = (.int .i64 (Lib.compareBytes si.data.toList sj.data.toList)) := q9_8
    clear hV9 hO9
    go_simp
    (refine hK9 _ _ ((fun a => GE.refl a) w9) ?_; exact rfl)
  case k1 =>
    intro i9 v9 w9 x9 h9 g9
    match i9, h9 with
    | 0, h9 => exact h9
    | 1, h9 => exact h9
    | 2, h9 => exact h9
    | 3, h9 => exact h9
    | 4, h9 => exact h9
    | 5, h9 => exact h9
    | 6, h9 => exact h9
    | 7, h9 => exact h9
    | 8, h9 => exact h9
    | 9, h9 => exact h9
    | _ + 10, h9 => exact trivial
  intro u9 w9 hE9 hu9
  have r9_0 : u9 0 = ?v1_0 := hu9 0 (by decide)
  have r9_1 : u9 1 = ?v1_1 := hu9 1 (by decide)
  have r9_2 : u9 2 = ?v1_2 := hu9 2 (by decide)
  have r9_3 : u9 3 = ?v1_3 := hu9 3 (by decide)
  have r9_4 : u9 4 = ?v1_4 := hu9 4 (by decide)
  have r9_5 : u9 5 = ?v1_5 := hu9 5 (by decide)
  have r9_6 : u9 6 = ?v1_6 := hu9 6 (by decide)
  have r9_7 : u9 7 = ?v1_7 := hu9 7 (by decide)
  have r9_8 : u9 8 = (.int .i64 (Lib.compareBytes si.data.toList sj.data.toList)) := hu9 8 (by decide)
  have r9_9 : u9 9 = ?v1_9 := hu9 9 (by decide)
  clear hu9
  simp only [putAll, Act.put, List.setIfInBounds_toArray, List.set_cons_succ, List.set_cons_zero, List.getD_cons_succ, List.getD_cons_zero, Nat.reduceAdd, Nat.zero_add]
  simp only [r9_0, r9_1, r9_2, r9_3, r9_4, r9_5, r9_6, r9_7, r9_8, r9_9]
  clear r9_0 r9_1 r9_2 r9_3 r9_4 r9_5 r9_6 r9_7 r9_8 r9_9
  go_wp2
  go_ret
  exact ⟨rfl, (GE.refl w).drew.trans hE9⟩
def emps (n : Nat) : List Value := List.replicate n (.string ⟨#[]⟩)
theorem run_make_strs (n : Nat) (hn : n ≤ 1000000) (w : World) :
    (Instr.makeSlice 28 (.int .i64 (n : Int)) (.int .i64 (n : Int))).run Tryz.prog w = .ok (.slice (some ⟨w.heap.size, 0, none⟩) n n) (w.alloc (.cells (emps n).toArray 9)) := by
  obtain ⟨i0, hi0, hz0, hz1, hz2⟩ := str_parts
  have hr := run_make (P := Tryz.prog) w 28 9 i0 _ Tryz.underlying28 hi0 hz0 .i64 .i64 n n (by omega) (by omega) (by rw [hz2]; omega) (by omega)
  rw [hr, hz1]
  have : madeCells (Value.string ⟨#[]⟩).cells n = (emps n).toArray := by
    show madeCells #[Value.string ⟨#[]⟩] n = _
    rw [madeCells_one]; rfl
  simp only [Int.toNat_natCast, Nat.mul_one, this]
theorem ints_range (n : Nat) : ints (List.range (n + 1)) = ints (List.range n) ++ [.int .i64 (n : Int)] := by unfold ints; rw [List.range_succ, List.map_append]; rfl
theorem strs_set (l : List ByteArray) (i : Nat) (t : ByteArray) : (strs l).set i (.string t) = strs (l.set i t) := by unfold strs; rw [List.map_set]
/-- The words of a lexicon lie in another block than its box. -/
theorem rd_lex {w : World} {p : Nat} {T : TypeId} {A A1 A2 : Option Addr} {n c n1 c1 n2 c2 : Nat} {A9 : Option Addr} (o : Own w p T [.slice A n c, .slice A1 n1 c1, .slice A2 n2 c2]) {D : List ByteArray} (h : Rd w A9 (strs D)) : RdOut (fun k => k = p) w A9 (strs D) := by
  intro j u hu
  obtain ⟨b, off, e, hc⟩ := h j u hu
  refine ⟨b, off, e, ?_, hc⟩
  rintro rfl
  have hm : u ∈ strs D := List.mem_of_getElem? hu
  obtain ⟨s, -, rfl⟩ := List.mem_map.1 hm
  rw [o.cell] at hc
  have := List.mem_of_getElem? hc
  simp at this
theorem holdsFin {w : World} {base g cap n : Nat} (h : w.ownsRow base 3 1 (.slice (some ⟨g, 0, none⟩) (n + 1) cap) (n + 1) (ints (List.range (n + 1)))) : Holds (fun x : Fin (n + 1) => Value.int .i64 ((x.val : Nat) : Int)) w g 0 (Array.ofFn (fun x : Fin (n + 1) => x)) := by
  intro j hj
  have hj' : j < n + 1 := by simpa using hj
  obtain ⟨b, off, e, hc⟩ := Rd.of_own h j (.int .i64 (j : Int)) (by unfold ints; rw [List.getElem?_map, List.getElem?_range hj']; rfl)
  injection e with e
  injection e with e1 e2
  subst e1 e2
  refine ⟨?_, ?_⟩
  · rw [hc]; simp [hj']
  · rcases h.2 with ⟨hv, -⟩ | ⟨g', cap', cur, hv, _, hg, _⟩
    · cases hv
    · injection hv with hv
      injection hv with hv
      injection hv with hv
      subst hv
      simp [World.frozen?, hg]
theorem chg_sortWorld1 {α : Type} [Inhabited α] (enc : α → Value) (w : World) (g off m : Nat) (d : Array α) (os : Array Obj) : Chg (fun x => x = g) w (sortWorld enc w g off m d os) := by
  unfold sortWorld
  refine ⟨rfl, rfl, rfl, ?_, fun x hx hn => ?_⟩
  · rw [size_grow]
    show w.heap.size ≤ (w.heap.modify g _).size + _
    rw [Array.size_modify]; omega
  · rw [heap_grow_old _ _ (show x < (w.heap.modify g _).size by rw [Array.size_modify]; exact hx)]
    show (w.heap.modify g _)[x]? = _
    rw [Array.getElem?_modify, if_neg (fun e => hn e.symm)]
set_option maxRecDepth 100000 in
set_option maxHeartbeats 2000000 in
/-- The sort by reverses: it changes only its row. -/
theorem sort_rev (base bx gR : Nat) (l : List ByteArray) (v : Value) (n : Nat) (hl : l.length = n) (hn : n ≤ 1000000) (w : World) (hrow : w.ownsRow base 3 1 v n (ints (List.range n))) (hbx : bx < base) (hgR : gR < base)
    (x_0 : w.cell? ⟨bx, 0, none⟩ = some (.slice (some ⟨gR, 0, none⟩) n n)) (x_1 : Own w gR 9 (strs l)) :
    Calls Tryz.prog 31 #[v, .func (.func 32) #[] #[.pointer (some ⟨bx, 0, none⟩)]] w fun e w' => e = .returned (.tuple #[]) ∧ Chg (fun k => base ≤ k) w w' := by
  rcases hrow.2 with ⟨rfl, rfl⟩ | ⟨g, cap, cur, rfl, hB, hh, hnc, hcm, hcs, htk⟩
  · refine (AnyF.slices_SortFunc_none { Tryz.sortInts with } none 0 _ w).mono ?_
    rintro e w' ⟨rfl, rfl⟩
    exact ⟨rfl, Chg.refl _ _⟩
  · cases n with
    | zero =>
      refine (AnyF.slices_SortFunc_none { Tryz.sortInts with } (some ⟨g, 0, none⟩) cap _ w).mono ?_
      rintro e w' ⟨rfl, rfl⟩
      exact ⟨rfl, Chg.refl _ _⟩
    | succ n =>
      have hlt : g < w.heap.size := (Array.getElem?_eq_some_iff.1 hh).1
      have hz := Any.slices_SortFunc (P := Tryz.prog) Tryz.sortInts (fun x : Fin (n + 1) => Value.int .i64 ((x.val : Nat) : Int)) (fun _ => rfl) (fun x y => Lib.compareBytes (l[x.val]'(by omega)).data.toList (l[y.val]'(by omega)).data.toList) (swoB fun x : Fin (n + 1) => l[x.val]'(by omega)) 32 #[.pointer (some ⟨bx, 0, none⟩)] g 0 cap (Array.ofFn (fun x : Fin (n + 1) => x)) w
        (enters_of Tryz.func32 (by kernel_rfl) rfl) (fun m os dk _ x y => by
          have hc := chg_sortWorld1 (fun x : Fin (n + 1) => Value.int .i64 ((x.val : Nat) : Int)) w g 0 m dk os
          have o2 := hc.own x_1 (show ¬ gR = g by omega)
          refine (fin_closure bx gR (n + 1) x.val y.val (l[x.val]'(by omega)) (l[y.val]'(by omega)) x.isLt y.isLt hn _ (hc.cell x_0 (show ¬ bx = g by omega)) ?_ ?_).mono ?_
          · rw [o2.cell]; simp [strs, hl]
          · rw [o2.cell]; simp [strs, hl]
          · rintro e w' ⟨rfl, hg⟩
            exact ⟨rfl, hg.grow⟩) (holdsFin hrow) hlt (by simp; omega)
      have es : (Array.ofFn (fun x : Fin (n + 1) => x)).size = n + 1 := by simp
      rw [es] at hz
      refine hz.mono ?_
      rintro e w' ⟨rfl, d', m, os, -, -, rfl⟩
      exact ⟨rfl, (chg_sortWorld1 _ w g 0 m d' os).mono fun k _ e => e ▸ hB⟩
end Go.Proofs.YtfenjklilocjgaaGreatDoor
