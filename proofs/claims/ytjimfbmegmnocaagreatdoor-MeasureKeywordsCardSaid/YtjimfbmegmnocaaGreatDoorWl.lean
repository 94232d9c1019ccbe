/- Parts of the proof: Wr, Wt, Wd, Wf, Wu, Wg, Wl. No condition of its own. -/
import Derived.Test.YtjimfbmegmnocaaGreatDoorWs
import Derived.Test.YtjimfbmegmnocaaGreatDoorRgn
set_option linter.unusedSimpArgs false
set_option linter.unusedVariables false
set_option maxRecDepth 100000
set_option maxHeartbeats 16000000
namespace Go.Proofs.YtjimfbmegmnocaaGreatDoor
open Go.RowKit

def Come (D : DataW Unit) (left : Lit -> Bool) (ss : List ByteArray) : Prop := ss.Nodup /\ ∀ s, s ∈ ss ↔ (Maps.has D (kyS s) = true /\ left (kyS s) = false)
theorem Come.start (D : DataW Unit) : Come D (Maps.has D) [] := ⟨List.nodup_nil, fun s => by cases Maps.has D (kyS s) <;> simp⟩
theorem Come.step {D : DataW Unit} {left : Lit -> Bool} {ss : List ByteArray} (h : Come D left ss) {s : ByteArray} {y : DataW Unit} (hlk : left (kyS s) = true) (hat : ∀ zd, D.atKey (kyS s) zd = y) : Come D (fun z => left z && !z.sameKey (kyS s)) (ss ++ [s]) := by
 have hhas : Maps.has D (kyS s) = true := Maps.has_true_of_atKey hat; have hnew : s ∉ ss := fun hx => by have := ((h.2 s).1 hx).2; rw [hlk] at this; cases this
 refine ⟨List.nodup_append.2 ⟨h.1, by simp, fun a ha b hb => by simp at hb; subst hb; exact fun e => hnew (e ▸ ha)⟩, fun y => ?_⟩
 by_cases hy : y = s
 ·subst hy; have h9 : (kyS y).sameKey (kyS y) = true := WideAt.sameKey_self (by unfold kyS; trivial)
  simp [hhas, h9]
 ·have hne : (kyS y).sameKey (kyS s) = false := Maps.sameKey_ne (kyS_ne hy)
  simp [h.2 y, hy, hne]
theorem Come.all {D : DataW Unit} {left : Lit -> Bool} {ss ws : List ByteArray} (h : Come D left ss) (hl : ∀ z, left z = false) (hC : Cnt D ws) : ∀ s, s ∈ ss ↔ s ∈ ws := fun s => by rw [h.2, hl, <- hC.has]; simp
theorem next_words {w : World} {b r n : Nat} {D : DataW Unit} {left : Lit -> Bool} {cnt : Nat} {ws : List ByteArray} (h : w.ranges Tryz.prog 9 (plainElem Tryz.prog 3) b r n D left cnt) (hC : Cnt D ws) (ty : TypeId) :
  (cnt = 0 /\ (∀ z, left z = false) /\ (Instr.next (.pointer (some ⟨r, 0, none⟩)) false ty).run Tryz.prog w = .ok (.tuple #[.bool false]) w) \/
  ∃ (s : ByteArray) (w' : World) (cnt' : Nat), s.size <= maxLen /\ left (kyS s) = true /\ (∀ zd, D.atKey (kyS s) zd = .lit (.int .i64 ((cn ws s : Nat) : Int))) /\ (Instr.next (.pointer (some ⟨r, 0, none⟩)) false ty).run Tryz.prog w = .ok (.tuple #[.bool true, .string s, .int .i64 ((cn ws s : Nat) : Int)]) w' /\
   w'.ranges Tryz.prog 9 (plainElem Tryz.prog 3) b r n D (fun z => left z && !z.sameKey (kyS s)) cnt' /\ cnt' < cnt /\ w.grownBy w' (some r) /\ w'.heap.size = w.heap.size /\ (Instr.entry (.pointer (some ⟨r, 0, none⟩))).run Tryz.prog w' = .ok (.tuple #[.string s, .int .i64 ((cn ws s : Nat) : Int)]) w' := by
 rcases h.next keyS ty with ⟨h0, hl, hrun⟩ | ⟨key, v, kl, y, w', cnt', hkey, hlk, hv, hat, hrun, hrg, hlt, hgr, hsz, hen⟩
 ·exact .inl ⟨h0, hl, hrun⟩
 ·obtain ⟨s, rfl, rfl, hs⟩ := WideMaps.string_of_keyOf Tryz.underlying9 hkey; obtain ⟨c, rfl, rfl, -⟩ := plainElem_int_inv Tryz.underlying3 hv; have hat' : D.atKey (kyS s) (.lit (.int .i64 0)) = .lit (.int .i64 c) := hat _; obtain rfl := hC.val hat'; exact .inr ⟨s, w', cnt', hs, hlk, hat, hrun, hrg, hlt, hgr, hsz, hen⟩
theorem MapW.look {w : World} {b n : Nat} {ws : List ByteArray} (h : MapW w b n ws) {s : ByteArray} (hs : s.size <= maxLen) : (Instr.lookup 64 (.map (some b)) (.string s) false).run Tryz.prog w = .ok (.int .i64 ((cn ws s : Nat) : Int)) w := by
 obtain ⟨D, hown, hC⟩ := h; obtain ⟨c, hlk, hat, -⟩ := hown.lookup_int keyS Tryz.underlying64 Tryz.underlying3 (zeroI _) (kyS_key hs); obtain rfl := hC.val hat; exact hlk
theorem MapW.lt {w : World} {b n : Nat} {ws : List ByteArray} (h : MapW w b n ws) : b < w.heap.size := let ⟨_, hown, _⟩ := h; hown.lt
theorem MapW.under {w w' : World} {b n R : Nat} {ws : List ByteArray} (h : MapW w b n ws) (hb : Below R w w') (hR : b < R) : MapW w' b n ws := h.chg (S := fun k => R <= k) (Chg.of_below hb fun k _ e => e) (by omega)
theorem col_info9 : (Tryz.prog.info? 49).map (fun i => (i.zero, i.size, i.bytes)) = some (some (.agg #[.string ⟨#[]⟩, .int .i64 0, .int .i64 0, .int .i64 0, .int .i64 0]), 5, 48) := by kernel_rfl
theorem Mks.cells {w : World} {gb gn : Nat} {bl : List Bool} (h : Mks w gb gn bl) {i : Nat} (hi : i < bl.length) : w.cell? ⟨gb, 0, none⟩ = some (.slice (some ⟨gn, 0, none⟩) bl.length bl.length) /\ w.cell? ⟨gn, i, none⟩ = some (.bool bl[i]) /\ w.frozen? ⟨gn, i, none⟩ = false :=
 ⟨h.box.cell 0, by rw [h.row.cell]; simp [hi], h.row.frozen i⟩
theorem ranges_room {w : World} {P : Program} {k : TypeId} {R : Value -> Option (DataW Unit × List MemPlace)} {b n : Nat} {D : DataW Unit} (h : w.ownsMap P k R b n D) : Maps.size D <= n := by
 obtain ⟨es, clock, hb, F, hs, rfl⟩ := h; rw [Maps.size_eq, Go.length_sorted]
 simpa using hs
theorem grown_below9 {w w' : World} {row : Option Nat} {B : Nat} (h : w.grownBy w' row) (hB : B <= w.heap.size) (hr : ∀ k, row = some k -> B <= k) : Below B w w' := ⟨h.os, h.tape, h.output, h.size, fun k hk => h.block k (by omega) fun e => by have := hr k e.symm; omega⟩
open Go.RowKit

theorem kwC_one (A D : Cor) (j : Nat) (s : ByteArray) : ∀ v ∈ kwC A D j s, v.oneCell' = true := by
 intro v hv
 simp only [kwC, List.mem_cons, List.not_mem_nil, or_false] at hv
 rcases hv with rfl | rfl | rfl | rfl | rfl <;> rfl
theorem sort_kws (A D : Cor) (j : Nat) (hA : A.toks.length <= 1000) (hD : D.toks.length <= 1000) (w : World) (B : Nat) (v : Value) (l : List ByteArray) (es : List (List Value)) (hrow : w.ownsRow B 49 5 v l.length es.flatten) (hes : Els 5 (fun s e => e = kwC A D j s) es l) (hn : l.Nodup) (hl : l.length <= 1000000) :
  Calls Tryz.prog 25 #[v, .func (.func 26) #[] #[]] w fun e w' => e = .returned (.tuple #[]) /\
   (∃ l', Srt (ltK (cn (wordsOf A j)) (cn (wordsOf D j))) l' /\ (∀ s, s ∈ l' ↔ s ∈ l) /\ EO (fun k => k < B) w' 5 (fun s e => e = kwC A D j s) v l') /\ Chg (fun k => B <= k) w w' := by
 have h1 : ∀ s, cn (wordsOf A j) s <= 1000000 := fun s => by have := cn_le (wordsOf A j) s; rw [wordsOf_length] at this; omega
 have h2 : ∀ s, cn (wordsOf D j) s <= 1000000 := fun s => by have := cn_le (wordsOf D j) s; rw [wordsOf_length] at this; omega
 exact sort_any (kwC A D j) (fun _ => rfl) (kwC_one A D j) (cfK (cn (wordsOf A j)) (cn (wordsOf D j))) (ltK (cn (wordsOf A j)) (cn (wordsOf D j))) (cfK_lt _ _) (ltK_tot _ _) 26 (enters_of Tryz.func26 (by kernel_rfl) rfl)
  (fun x y w => cmpK_any x y (cn (wordsOf A j) x) (cn (wordsOf D j) x) _ (cn (wordsOf A j) y) (cn (wordsOf D j) y) _ _ _ _ _ rfl rfl (h1 x) (h2 x) (h1 y) (h2 y) w) w B v l es hrow hes hn hl
open Go.RowKit

open Go.RowKit

theorem cn_step {ws : List ByteArray} {bl : List Bool} {i : Nat} {b : Bool} {t : ByteArray} (hb : bl[i]? = some b) (ht : ws[i]? = some t) (s : ByteArray) : cn (selN ws bl (i + 1)) s = cn (selN ws bl i) s + (if b = true /\ t = s then 1 else 0) := by
 rw [selN, hb, ht]
 cases b with
 | false => simp
 | true =>
  show cn (selN ws bl i ++ [t]) s = _
  rw [cn_add]
  simp
theorem count_nil {S : Nat -> Prop} (w : World) {a t x r n h s : Value} {C : Cor} (q : CorC S w a t x r n h s C) (j : Nat) (HJ : Hid (∀ row ∈ C.toks, j < row.length)) (hN : C.toks.length <= 1000) (z : ByteArray) :
  Calls Tryz.prog 30 #[.agg #[a, t, x, r, n, h, s], .int .i64 (j : Int), .string z, .slice none 0 0] w fun e w' => e = .returned (.int .i64 ((cn (wordsOf C j) z : Nat) : Int)) /\ Below w.heap.size w w' := by
 obtain ⟨At, ct, rfl, u1, u2, -⟩ := EO.form q.t; unfold maxLen at u2; obtain ⟨o_c, hbw⟩ := new1 w [a, .slice At C.toks.length ct, x, r, n, h, s] 30; have HQ := Lib.hid (q.below hbw); have hsz : (w.alloc (.cells #[a, .slice At C.toks.length ct, x, r, n, h, s] 30)).heap.size = w.heap.size + 1 := by simp
 go_enter Tryz.func30, Tryz.ntmps30
 go_upto_region 1 with (fail)
 generalize (w.alloc (.cells #[a, .slice At C.toks.length ct, x, r, n, h, s] 30)) = wb at o_c hbw hsz HQ |-; obtain ⟨B, hB⟩ : ∃ B, B = w.heap.size := ⟨_, rfl⟩; rw [<- hB] at o_c hsz hbw |-; have HB := Lib.hid hB; clear hB q; have qc := o_c.c1
 go_wp2_with fail
 clear qc
 go_loopg [9, 15] (C.toks.length + 1) (fun q9 v8 v9 wr => ∃ i c : Nat, q9 = C.toks.length + 1 - i /\ i <= C.toks.length /\ v9 = .int .i64 (i : Int) /\ v8 = .int .i64 (c : Int) /\ Hid (c = cn (selN (wordsOf C j) (List.replicate (wordsOf C j).length true) i) z) /\ c <= i /\ wr = wb)
 case atStart => exact ⟨0, 0, rfl, Nat.zero_le _, rfl, rfl, rfl, Nat.le_refl _, rfl⟩
 case round =>
  obtain ⟨i, c, rfl, hi, rfl, rfl, HC, hci, hw9⟩ := hrel; subst hw9
  by_cases hlt : i < C.toks.length
  ·skip
   have hji := HJ.out _ (List.getElem_mem hlt); have HW := Lib.hid (wordsOf_get hlt hji); obtain ⟨b, off, v, rfl, -, k0, hv⟩ := RowsO.get HQ.out.t hlt; obtain ⟨Av, cv, rfl, u3, u4, hv2⟩ := EO.form hv; obtain ⟨b2, off2, rfl, -, k1, -⟩ := StrsO.get hv2 hji; unfold maxLen at u4; clear hv hv2; generalize C.toks[i][j] = sj at k1 HW; generalize C.toks[i].length = nr at *; have hi9 : i < (wordsOf C j).length := by rw [wordsOf_length]; exact hlt
   have hnil : ∀ w, (binOp BinOp.eql 86 (.slice none 0 0) (.slice none 0 0)).run Tryz.prog w = .ok (.bool true) w := fun _ => by first | rfl | kernel_rfl
   have HS := Lib.hid (cn_step (bl := (List.replicate (wordsOf C j).length true)) (i := i) (b := true) (by rw [List.getElem?_replicate, if_pos hi9]) HW.out z); clear hi9
   by_cases hs : sj = z
   ·skip
    subst hs; have d1 : (sj.toList == sj.toList) = true := by rw [str_beq]; exact decide_eq_true rfl
    have HC2 : Hid (c + 1 = cn (selN (wordsOf C j) (List.replicate (wordsOf C j).length true) (i + 1)) sj) := by show _ = _; rw [HS.out, HC.out]; simp
    clear HS HC
    go_wp2
    clear d1 k0 k1 hnil
    go_roundg (C.toks.length + 1 - (i + 1))
    case measure => omega
    case rel => exact ⟨i + 1, c + 1, rfl, by omega, by go_num, by go_num, HC2, by omega, rfl⟩
   ·skip
    have d1 : (sj.toList == z.toList) = false := by rw [str_beq]; exact decide_eq_false hs
    have HC2 : Hid (c = cn (selN (wordsOf C j) (List.replicate (wordsOf C j).length true) (i + 1)) z) := by show _ = _; rw [HS.out, HC.out]; simp [hs]
    clear HS HC hs
    go_wp2
    clear d1 k0 k1 hnil
    go_roundg (C.toks.length + 1 - (i + 1))
    case measure => omega
    case rel => exact ⟨i + 1, c, rfl, by omega, by go_num, rfl, HC2, by omega, rfl⟩
  ·skip
   have ei : i = C.toks.length := by omega
   subst ei; have hres : c = cn (wordsOf C j) z := by rw [HC.out, selN_all _ (by rw [wordsOf_length]; exact Nat.le_refl _), List.take_of_length_le (by rw [wordsOf_length]; exact Nat.le_refl _)]
   have HRS := Lib.hid hres; clear hres HC
   go_wp2
   go_ret
   exact ⟨by rw [<- HRS.out]; rfl, HB.out ▸ hbw⟩
theorem same38_any {S T : Nat -> Prop} (w : World) {v z : Value} {l : List ByteArray} (cc : ByteArray -> List Value) (hcc : ∀ s, ∃ z x1 x2 x3 x4, cc s = [.string z, .int .i64 x1, .int .i64 x2, .int .i64 x3, .int .i64 x4]) (ha : EO S w 5 (fun s e => e = cc s) v l) (hb : EO T w 5 (fun s e => e = cc s) z l) :
  Calls Tryz.prog 12 #[v, z] w fun e w' => e = .returned (.bool true) /\ Below w.heap.size w w' := by
 obtain ⟨A, c, rfl, h1, h2, ha⟩ := EO.form ha; obtain ⟨A2, c2, rfl, h3, h4, hb⟩ := EO.form hb; unfold maxLen at h2 h4; have ue : ((l.length : Int) == (l.length : Int)) = true := by simp
 have ud : ((l.length : Int) != (l.length : Int)) = false := by simp
 have une : (l.length == l.length) = true := by simp
 have und : (l.length != l.length) = false := by simp
 go_enter Tryz.func12, Tryz.ntmps12
 go_wp2_with fail
 clear ue ud une und
 go_loopg [13] (l.length + 1) (fun q v wr => ∃ j : Nat, q = l.length + 1 - j /\ j <= l.length /\ v = .int .i64 (j : Int) /\ Below w.heap.size w wr)
 case atStart => exact ⟨0, rfl, Nat.zero_le _, rfl, Below.refl _ _⟩
 case round =>
  obtain ⟨j, rfl, hj, rfl, hbr⟩ := hrel; have hwr := hbr.size
  by_cases hlt : j < l.length
  ·obtain ⟨b, off, e, rfl, -, -, he, k⟩ := EO.get (EO.below ha hbr) (by decide) hlt; obtain ⟨b2, off2, e2, rfl, -, -, he2, k2⟩ := EO.get (EO.below hb hbr) (by decide) hlt; obtain ⟨z, x1, x2, x3, x4, hz⟩ := hcc l[j]; rw [he, hz] at k; rw [he2, hz] at k2; clear he he2 hz; have k0 : wr.cell? ⟨b, off + j * 5, none⟩ = some (.string z) := k 0 _ rfl; have k1 : wr.cell? ⟨b, off + j * 5 + 1, none⟩ = some (.int .i64 x1) := k 1 _ rfl; have k2' : wr.cell? ⟨b, off + j * 5 + 2, none⟩ = some (.int .i64 x2) := k 2 _ rfl; have k3 : wr.cell? ⟨b, off + j * 5 + 3, none⟩ = some (.int .i64 x3) := k 3 _ rfl; have k4 : wr.cell? ⟨b, off + j * 5 + 4, none⟩ = some (.int .i64 x4) := k 4 _ rfl; have m0 : wr.cell? ⟨b2, off2 + j * 5, none⟩ = some (.string z) := k2 0 _ rfl; have m1 : wr.cell? ⟨b2, off2 + j * 5 + 1, none⟩ = some (.int .i64 x1) := k2 1 _ rfl; have m2 : wr.cell? ⟨b2, off2 + j * 5 + 2, none⟩ = some (.int .i64 x2) := k2 2 _ rfl
   have m3 : wr.cell? ⟨b2, off2 + j * 5 + 3, none⟩ = some (.int .i64 x3) := k2 3 _ rfl; have m4 : wr.cell? ⟨b2, off2 + j * 5 + 4, none⟩ = some (.int .i64 x4) := k2 4 _ rfl; clear k k2
   go_upto_region 6 with (fail)
   have d1 : (z.toList == z.toList) = true := by rw [str_beq]; exact decide_eq_true rfl
   refine wp_reg_abs [some 16, some 17, some 18, some 19, some 20, some 21, some 22, some 23, some 24] [?v1_0, ?v1_1, ?v1_2, ?v1_3, ?v1_4, ?v1_5, ?v1_6, ?v1_7, ?v1_8] rfl (by kernel_rfl) rfl rfl ⟨?s1_0, ?s1_1, ?s1_2, ?s1_3, ?s1_4, ?s1_5, ?s1_6, ?s1_7, ?s1_8, trivial⟩ ?p1
   case s1_0 =>
    intro t w T V O K k; have o0 := O 0 _ (by kernel_rfl) rfl; clear V O; go_simp; exact k _ (Grow.refl _)
   case s1_1 | s1_5 =>
    intro t w T V O K k; have o5 := O 5 _ (by kernel_rfl) rfl; clear V O; go_simp; exact k _ (Grow.refl _)
   case s1_2 =>
    intro t w T V O K k; have p0 : t[16]? = some ?v1_0 := V.g 0 16 rfl rfl (by kernel_rfl); have p1 : t[17]? = some ?v1_1 := V.g 1 17 rfl rfl (by kernel_rfl); clear V O; go_simp; exact k _ (Grow.refl _)
   case s1_3 =>
    intro t w T V O K k; have p2 : t[18]? = some ?v1_2 := V.g 2 18 rfl rfl (by kernel_rfl); clear V O; have d0 := grow_cell T k0; have d1 := grow_cell T k1; have d2 := grow_cell T k2'; have d3 := grow_cell T k3; have d4 := grow_cell T k4; have d5 := grow_cell T m0; have d6 := grow_cell T m1; have d7 := grow_cell T m2; have d8 := grow_cell T m3; have d9 := grow_cell T m4; go_simp; exact k _ (Grow.refl _)
   case s1_4 =>
    intro t w T V O K k; have o1 := O 1 _ (by kernel_rfl) rfl; clear V O; go_simp; exact k _ (Grow.refl _)
   case s1_6 =>
    intro t w T V O K k; have p4 : t[20]? = some ?v1_4 := V.g 4 20 rfl rfl (by kernel_rfl); have p5 : t[21]? = some ?v1_5 := V.g 5 21 rfl rfl (by kernel_rfl); clear V O; go_simp; exact k _ (Grow.refl _)
   case s1_7 =>
    intro t w T V O K k; have p6 : t[22]? = some ?v1_6 := V.g 6 22 rfl rfl (by kernel_rfl); clear V O; have d0 := grow_cell T k0; have d1 := grow_cell T k1; have d2 := grow_cell T k2'; have d3 := grow_cell T k3; have d4 := grow_cell T k4; have d5 := grow_cell T m0; have d6 := grow_cell T m1; have d7 := grow_cell T m2; have d8 := grow_cell T m3; have d9 := grow_cell T m4; go_simp; exact k _ (Grow.refl _)
   case s1_8 =>
    intro t w T V O K k; have p3 : t[19]? = some ?v1_3 := V.g 3 19 rfl rfl (by kernel_rfl); have p7 : t[23]? = some ?v1_7 := V.g 7 23 rfl rfl (by kernel_rfl); clear V O; go_simp; exact k _ (Grow.refl _)
   intro w9 hb9
   simp only [putAll, Act.put, List.setIfInBounds_toArray, List.set_cons_succ, List.set_cons_zero, List.getD_cons_succ, List.getD_cons_zero, Nat.reduceAdd, Nat.zero_add]
   go_wp2
   go_roundg (l.length + 1 - (j + 1))
   case measure => omega
   case rel => exact ⟨j + 1, rfl, by omega, by go_num, belowB hbr hwr hb9⟩
  ·go_wp2
   go_ret
   exact ⟨rfl, hbr⟩
open Go.RowKit

def flat5 (cc : ByteArray -> List Value) (l : List ByteArray) : List Value := (l.map cc).flatten
section
variable {cc : ByteArray -> List Value} {l m : List ByteArray}
theorem flat5_app : flat5 cc (l ++ m) = flat5 cc l ++ flat5 cc m := by simp [flat5]
theorem flat5_one (s : ByteArray) : flat5 cc [s] = cc s := by simp [flat5]
theorem flat5_len (h5 : ∀ s, (cc s).length = 5) : (flat5 cc l).length = l.length * 5 := by
 induction l with
 | nil => rfl
 | cons s r ih => show ((s :: r).map cc).flatten.length = _; rw [List.map_cons, List.flatten_cons, List.length_append, h5]; have : (r.map cc).flatten.length = r.length * 5 := ih; rw [this, List.length_cons, Nat.add_mul]; omega
theorem flat5_split (h5 : ∀ s, (cc s).length = 5) (k : Nat) (hk : k <= l.length) : (flat5 cc l).take (k * 5) = flat5 cc (l.take k) /\ (flat5 cc l).drop (k * 5) = flat5 cc (l.drop k) := by
 have e : flat5 cc l = flat5 cc (l.take k) ++ flat5 cc (l.drop k) := by rw [<- flat5_app, List.take_append_drop]
 have hl : (flat5 cc (l.take k)).length = k * 5 := by rw [flat5_len h5, List.length_take, Nat.min_eq_left hk]
 rw [e]; exact ⟨List.take_left' hl, List.drop_left' hl⟩
theorem flat5_els (h5 : ∀ s, (cc s).length = 5) : Els 5 (fun s e => e = cc s) (l.map cc) l := ⟨by simp, fun e he => by obtain ⟨s, -, rfl⟩ := List.mem_map.1 he; exact h5 s, fun i e x h1 h2 => by rw [List.getElem?_map, h2] at h1; exact (Option.some.inj h1).symm⟩
theorem flat5_one9 (h1 : ∀ s, ∀ v ∈ cc s, v.oneCell' = true) : ∀ v ∈ flat5 cc l, v.oneCell' = true := by
 intro v hv; obtain ⟨e, he, hv⟩ := List.mem_flatten.1 hv; obtain ⟨s, -, rfl⟩ := List.mem_map.1 he; exact h1 s v hv
theorem flat5_cell {w : World} {B : Nat} {A : Option Addr} {c : Nat} (h5 : ∀ s, (cc s).length = 5) (h : w.ownsRow B 49 5 (.slice A l.length c) l.length (flat5 cc l)) {i : Nat} (hi : i < l.length) :
  ∃ g, A = some ⟨g, 0, none⟩ /\ ∀ j u, (cc l[i])[j]? = some u -> w.cell? ⟨g, i * 5 + j, none⟩ = some u := by
 have hr := Rd.of_own h; have he := flat5_els (l := l) h5; have hg : ∀ j u, (cc l[i])[j]? = some u -> (flat5 cc l)[i * 5 + j]? = some u := fun j u hu => flat_get he.wide i (cc l[i]) j u (by rw [List.getElem?_map, List.getElem?_eq_getElem hi]; rfl) hu; obtain ⟨u0, hu0⟩ : ∃ u, (cc l[i])[0]? = some u := ⟨(cc l[i])[0]'(by rw [h5]; decide), List.getElem?_eq_getElem (by rw [h5]; decide)⟩
 rcases h.2 with ⟨h0, h00⟩ | ⟨g, cap, cur, hv, -⟩
 ·omega
 ·injection hv with e1
  subst e1; refine ⟨g, rfl, fun j u hu => ?_⟩; obtain ⟨b, off, e, hc⟩ := hr _ u (hg j u hu)
  injection e with e
  injection e with e1 e2
  subst e1 e2; rw [Nat.zero_add] at hc; exact hc
end
structure XK (B9 : Nat) (cells : List Value) (la lb : Bool) (u : Value) (w : World) : Prop where
 h : lb = true -> la = true
 a : la = true -> ∃ g, u = .pointer (some ⟨g, 0, none⟩) /\ B9 <= g /\ (lb = false -> Own w g 49 [.string ⟨#[]⟩, .int .i64 0, .int .i64 0, .int .i64 0, .int .i64 0]) /\ (lb = true -> Own w g 49 cells)
 hs : B9 <= w.heap.size
section
variable {B9 : Nat} {cells : List Value} {la lb : Bool} {u : Value} {w w' : World}
theorem XK.next (h : XK B9 cells la lb u w) (hb : Below w.heap.size w w') : XK B9 cells la lb u w' := by
 refine ⟨h.h, fun a => ?_, Nat.le_trans h.hs hb.size⟩; obtain ⟨g, e1, e2, e3, e4⟩ := h.a a; exact ⟨g, e1, e2, fun b => (e3 b).below hb (e3 b).lt, fun b => (e4 b).below hb (e4 b).lt⟩
end
theorem Srt.insert9 {lt : ByteArray -> ByteArray -> Bool} (T : Tot lt) {l : List ByteArray} (h : Srt lt l) {s : ByteArray} {k : Nat} (hk : k <= l.length) (h1 : ∀ y ∈ l.drop k, lt s y = true) (h2 : ∀ y, 0 < k -> l[k - 1]? = some y -> lt s y = false /\ y ≠ s) :
  Srt lt (l.take k ++ [s] ++ l.drop k) /\ ∀ x, x ∈ l.take k ++ [s] ++ l.drop k ↔ (x ∈ l \/ x = s) := by
 refine ⟨?_, fun x => ?_⟩
 ·rw [List.append_assoc]; refine h.put T h1 ?_
  rcases Nat.eq_zero_or_pos k with h0 | h0
  ·subst h0; intro y hy; simp at hy
  ·obtain ⟨k, rfl⟩ : ∃ q, k = q + 1 := ⟨k - 1, by omega⟩; have hlt : k < l.length := by omega
   obtain ⟨a, b⟩ := h2 l[k] (by omega) (List.getElem?_eq_getElem hlt); have hl : lt l[k] s = true := by
    cases hc : lt l[k] s with
    | true => rfl
    | false => exact absurd (T.tri _ _ hc a) b
   exact h.ahead T (List.getElem?_eq_getElem hlt) hl
 ·have e : l = l.take k ++ l.drop k := (List.take_append_drop k l).symm; rw [show (x ∈ l) = (x ∈ l.take k ++ l.drop k) from by rw [<- e]]
  simp only [List.mem_append, List.mem_singleton]
  constructor
  ·rintro ((h | h) | h)
   ·exact .inl (.inl h)
   ·exact .inr h
   ·exact .inl (.inr h)
  ·rintro ((h | h) | h)
   ·exact .inl (.inl h)
   ·exact .inr h
   ·exact .inl (.inr h)
theorem drop_step {α : Type} {l : List α} {k : Nat} (hk : 0 < k) (hl : k <= l.length) {P : α -> Prop} (h : ∀ y ∈ l.drop k, P y) (h1 : ∀ y, l[k - 1]? = some y -> P y) : ∀ y ∈ l.drop (k - 1), P y := by
 obtain ⟨k, rfl⟩ : ∃ q, k = q + 1 := ⟨k - 1, by omega⟩; have hlt : k < l.length := by omega
 intro y hy; rw [Nat.add_sub_cancel, List.drop_eq_getElem_cons hlt] at hy
 rcases List.mem_cons.1 hy with rfl | hy
 ·exact h1 _ (List.getElem?_eq_getElem hlt)
 ·exact h y hy
open Go.RowKit

open Go.RowKit

theorem ResC.form {C : Cor} {L : List (Int × Int)} {W a : Int} {B : Nat} {w : World} {e : Ending} (h : ResC C L W a B w e) : ∃ v k, e = .returned (.tuple #[v, .int .i64 k]) := by
 cases h with
 | arg => exact ⟨_, _, rfl⟩
 | range => exact ⟨_, _, rfl⟩
 | ok h h2 v l hv hs hm => exact ⟨v, 0, rfl⟩
theorem ResC.pair {C : Cor} {L : List (Int × Int)} {W a : Int} {B B' : Nat} {w w' : World} {v v' : Value} {k k' : Int} (h : ResC C L W a B w (.returned (.tuple #[v, .int .i64 k]))) (h' : ResC C L W a B' w' (.returned (.tuple #[v', .int .i64 k']))) (hb : Below w.heap.size w w') :
  k = k' /\ ∃ l, EO (fun _ => False) w' 5 (fun s e => e = colC C a.toNat (nearL C W L) s) v l /\ EO (fun _ => False) w' 5 (fun s e => e = colC C a.toNat (nearL C W L) s) v' l := by
 cases h with
 | arg h =>
  cases h' with
  | arg h' => exact ⟨rfl, [], EO.nil _ _ _ _, EO.nil _ _ _ _⟩
  | range h' => exact absurd h h'
  | ok h' => exact absurd h h'
 | range h h2 =>
  cases h' with
  | arg h' => exact absurd h' h
  | range h' => exact ⟨rfl, [], EO.nil _ _ _ _, EO.nil _ _ _ _⟩
  | ok h' h3 => obtain ⟨q, hq, hn⟩ := h2; exact absurd hn (h3 q hq)
 | ok h h2 _ l hv hs hm =>
  cases h' with
  | arg h' => exact absurd h' h
  | range h' h3 => obtain ⟨q, hq, hn⟩ := h3; exact absurd hn (h2 q hq)
  | ok h' h3 _ l' hv' hs' hm' =>
   obtain rfl : l = l' := hs.uniq (ltC_tot _) hs' (fun x => (hm x).trans (hm' x).symm); exact ⟨rfl, l, (EO.below hv hb).weak' (fun _ h => h.elim), hv'.weak' (fun _ h => h.elim)⟩
theorem mod_lit9 (x : Int) (i : Int) (n : Nat) (hi : i = (n : Int)) (h1 : -9223372036854775808 <= x) (h2 : x <= 9223372036854775807) (hn : 0 < n) (hn2 : n <= 1000000) : ∃ k : Nat, k < n /\ ∀ w, Calls Tryz.prog 9 #[.int .i64 x, .int .i64 i] w fun e w' => e = .returned (.int .i64 (k : Int)) /\ w = w' := by
 subst hi; obtain ⟨k, hk⟩ : ∃ k : Nat, x % (n : Int) = (k : Int) := ⟨(x % (n : Int)).toNat, by have := Int.emod_nonneg x (show (n : Int) ≠ 0 by omega); omega⟩; have hlt := Int.emod_lt_of_pos x (show (0 : Int) < n by omega); exact ⟨k, by omega, fun w => (mod_any x n w hn hn2 h1 h2).mono fun e w' ⟨h3, h4⟩ => ⟨by rw [h3, hk], h4⟩⟩
theorem corpus_lit9 {T : Option Addr × List Int × Nat} {B p : Nat} (w : World) (tp : TP T B w p) (i : Int) (most : Nat) (hi : i = (most : Int)) (hm0 : 0 < most) (hm : most <= 100) :
  Calls Tryz.prog 8 #[.pointer (some ⟨p, 0, none⟩), .int .i64 i] w fun e w' => (∃ v C, e = .returned v /\ CorV (fun k => k < w.heap.size) w' v C /\ MadeC (4 * most) C) /\ TP T B w' p /\ Chg (fun k => k = p) w w' := hi ▸ corpus_made w tp most hm0 hm
end Go.Proofs.YtjimfbmegmnocaaGreatDoor
