/- Parts of the proof: Wb, Kp. No condition of its own. -/
import Derived.Test.YtjimfbmegmnocaaGreatDoorWa
import Derived.Test.YtjimfbmegmnocaaGreatDoorCc
import Derived.Shelf.SlSortCmp.NoneTotal
import Derived.Lib.Small
set_option linter.unusedSimpArgs false
set_option linter.unusedVariables false
set_option maxRecDepth 100000
set_option maxHeartbeats 4000000
namespace Go.Proofs.YtjimfbmegmnocaaGreatDoor
open Go.RowKit

theorem keyS : Maps.Keyed Tryz.prog 9 := Maps.string_keyed Tryz.underlying9
theorem zeroI (w : World) : (zeroValue 3).run Tryz.prog w = .ok (.int .i64 0) w := by kernel_rfl
def kyS (s : ByteArray) : Lit := .string s.data.toList
theorem kyS_ne {s t : ByteArray} (h : s ≠ t) : kyS s ≠ kyS t := fun e => h (by
 have e : (Lit.string s.data.toList) = .string t.data.toList := e
 injection e with e
 cases s; cases t
 simp only [ByteArray.mk.injEq]
 exact Array.toList_inj.1 e)
theorem kyS_key {s : ByteArray} (hs : s.size <= maxLen) : keyOf Tryz.prog 9 (.string s) = some (kyS s) := WideMaps.keyOf_string_mk Tryz.underlying9 hs
def cn (ws : List ByteArray) (s : ByteArray) : Nat := ws.countP fun x => decide (x = s)
theorem cn_add (ws : List ByteArray) (t s : ByteArray) : cn (ws ++ [t]) s = cn ws s + if t = s then 1 else 0 := by
 unfold cn; rw [List.countP_append]
 by_cases h : t = s <;> simp [h]
theorem cn_le (ws : List ByteArray) (s : ByteArray) : cn ws s <= ws.length := List.countP_le_length
structure Cnt (D : DataW Unit) (ws : List ByteArray) : Prop where
 map : Maps.IsMap D
 at_ : ∀ s : ByteArray, D.atKey (kyS s) (.lit (.int .i64 0)) = .lit (.int .i64 ((cn ws s : Nat) : Int))
 has : ∀ s : ByteArray, Maps.has D (kyS s) = true ↔ s ∈ ws
theorem Cnt.start : Cnt (.map []) [] := ⟨Maps.isMap_empty, fun _ => rfl, fun s => by constructor <;> intro h <;> cases h⟩
theorem Cnt.put {D : DataW Unit} {ws : List ByteArray} (h : Cnt D ws) (s : ByteArray) : Cnt (D.put (kyS s) (.lit (.int .i64 ((cn ws s : Int) + 1)))) (ws ++ [s]) := by
 have hk : WideAt.IsKeyLit (kyS s) := by unfold kyS; trivial
 refine ⟨h.map.put _ _, fun t => ?_, fun t => ?_⟩
 ·by_cases e : t = s
  ·subst e; rw [Maps.atKey_put_same h.map hk, cn_add, if_pos rfl]; rfl
  ·rw [Maps.atKey_put_other (kyS_ne e), h.at_, cn_add, if_neg (fun x => e x.symm), Nat.add_zero]
 ·by_cases e : t = s
  ·subst e; rw [Maps.has_put_same h.map hk]
   simp
  ·rw [Maps.has_put_other (kyS_ne e), h.has]
   simp [e]
theorem Cnt.val {D : DataW Unit} {ws : List ByteArray} (h : Cnt D ws) {s : ByteArray} {c : Int} (hat : D.atKey (kyS s) (.lit (.int .i64 0)) = .lit (.int .i64 c)) : c = ((cn ws s : Nat) : Int) := by
 have h9 := hat.symm.trans (h.at_ s)
 injection h9 with h9
 injection h9
theorem plain_succ9 {c : Nat} (h : c <= 1000000) : plainElem (H := Unit) Tryz.prog 3 (.int .i64 ((c : Int) + 1)) = some (.lit (.int .i64 ((c : Int) + 1)), []) :=
 plainElem_int Tryz.underlying3 (WalkArith.wf_i64 (by omega))
def MapW (w : World) (b n : Nat) (ws : List ByteArray) : Prop := ∃ D : DataW Unit, w.ownsMap Tryz.prog 9 (plainElem Tryz.prog 3) b n D /\ Cnt D ws
theorem MapW.chg {S : Nat -> Prop} {w w' : World} {b n : Nat} {ws : List ByteArray} (h : MapW w b n ws) (hc : Chg S w w') (hb : ¬ S b) : MapW w' b n ws := by
 obtain ⟨D, ⟨es, clock, hh, hF, hs, hD⟩, hC⟩ := h; have hlt : b < w.heap.size := by
  rcases Nat.lt_or_ge b w.heap.size with hl | hl
  ·exact hl
  ·rw [Array.getElem?_eq_none hl] at hh; cases hh
 exact ⟨D, ⟨es, clock, (hc.block b hlt hb).trans hh, hF, hs, hD⟩, hC⟩
theorem MapW.below {w w' : World} {b n : Nat} {ws : List ByteArray} (h : MapW w b n ws) (hb : Below w.heap.size w w') : MapW w' b n ws := h.chg (S := fun _ => False) (Chg.of_below hb fun k h1 h2 => by omega) id
theorem every_Kw (i : Int) (w : World) : Calls Tryz.prog 23 #[.int .i64 i] w fun e w' => e = .returned (.bool true) /\ w = w' := by
 go_enter Tryz.func23, Tryz.ntmps23
 go_wp2
 go_ret
 exact ⟨rfl, rfl⟩
theorem every_Co (i : Int) (w : World) : Calls Tryz.prog 37 #[.int .i64 i] w fun e w' => e = .returned (.bool true) /\ w = w' := by
 go_enter Tryz.func37, Tryz.ntmps37
 go_wp2
 go_ret
 exact ⟨rfl, rfl⟩
theorem counts_Kw {S : Nat -> Prop} (w : World) {a t x r n h s : Value} {C : Cor} (q : CorC S w a t x r n h s C) (j : Nat) (hj : ∀ row ∈ C.toks, j < row.length) (hN : C.toks.length <= 1000000) :
  Calls Tryz.prog 24 #[.agg #[a, t, x, r, n, h, s], .int .i64 (j : Int), .func (.func 23) #[] #[]] w fun e w' => (∃ b, e = .returned (.map (some b)) /\ w.heap.size <= b /\ MapW w' b C.toks.length (wordsOf C j)) /\ Below w.heap.size w w' := by
 obtain ⟨At, ct, rfl, u1, u2, -⟩ := EO.form q.t; unfold maxLen at u2; obtain ⟨o_c, hbw⟩ := new1 w [a, .slice At C.toks.length ct, x, r, n, h, s] 30; have hsz : (w.alloc (.cells #[a, .slice At C.toks.length ct, x, r, n, h, s] 30)).heap.size = w.heap.size + 1 := by simp
 have hmm := @run_makeMap Tryz.prog
 go_enter Tryz.func24, Tryz.ntmps24
 go_upto_region 1 with (fail)
 generalize (w.alloc (.cells #[a, .slice At C.toks.length ct, x, r, n, h, s] 30)) = wb at o_c hbw hsz |-; obtain ⟨B, hB⟩ : ∃ B, B = w.heap.size := ⟨_, rfl⟩; rw [<- hB] at o_c hsz hbw |-; have HB := Z' hB; clear hB; have qc := o_c.c1; have HM0 : Hid (MapW (wb.alloc (.map #[] 0)) wb.heap.size 0 (selN (wordsOf C j) (List.replicate (wordsOf C j).length true) 0)) := ⟨.map [], World.ownsMap_made wb _ _ _, Cnt.start⟩; have hbm : Below (B + 1) wb (wb.alloc (.map #[] 0)) := (Below.refl _ _).alloc (by omega) _; have hsm : (wb.alloc (.map #[] 0)).heap.size = wb.heap.size + 1 := by simp
 go_wp2_with fail
 generalize (wb.alloc (.map #[] 0)) = wm at HM0 hbm hsm |-; rw [hsz] at HM0 hsm; clear qc hmm
 go_loopg [13] (C.toks.length + 1) (fun q9 v wr => ∃ i : Nat, q9 = C.toks.length + 1 - i /\ i <= C.toks.length /\ v = .int .i64 (i : Int) /\ Hid (MapW wr (B + 1) i (selN (wordsOf C j) (List.replicate (wordsOf C j).length true) i)) /\ Below (B + 1) wb wr /\ B + 2 <= wr.heap.size)
 case atStart => exact ⟨0, rfl, Nat.zero_le _, rfl, HM0, hbm, by omega⟩
 case round =>
  clear HM0 hbm; obtain ⟨i, rfl, hi, rfl, HM, hbr, hwr⟩ := hrel; have hbB : Below B w wr := hbw.trans (hbr.mono (by omega)); have o_r := o_c.below hbr (by omega)
  by_cases hlt : i < C.toks.length
  ·skip
   obtain ⟨W0, hW0⟩ : ∃ W0, W0 = selN (wordsOf C j) (List.replicate (wordsOf C j).length true) i := ⟨_, rfl⟩; rw [<- hW0] at HM; obtain ⟨D, hown, hC⟩ := HM.out; have hji := hj _ (List.getElem_mem hlt); have hsi : C.toks[i][j].size <= maxLen := by
    obtain ⟨_, _, _, _, _, _, hv⟩ := RowsO.get q.t hlt; obtain ⟨_, _, rfl, _, _, hv⟩ := EO.form hv; obtain ⟨_, _, _, _, _, hz⟩ := StrsO.get hv hji; exact hz
   have HW : Hid ((wordsOf C j)[i]? = some C.toks[i][j]) := wordsOf_get hlt hji; have hvv := value_any wr (q.below (HB.out ▸ hbB)) i j hlt hji; generalize C.toks[i][j] = sj at hsi HW hvv; have hky := kyS_key hsi; clear hsi; have hput : Hid (selN (wordsOf C j) (List.replicate (wordsOf C j).length true) (i + 1) = W0 ++ [sj]) := by
    show _ = _
    rw [selN, HW.out, <- hW0]; have hlt2 : i < (wordsOf C j).length := by rw [wordsOf_length]; exact hlt
    rw [List.getElem?_replicate, if_pos hlt2]
    rfl
   have hcl : cn W0 sj <= i := Nat.le_trans (cn_le W0 sj) (hW0 ▸ selN_le _ _ i); have hv9 : ∀ c : Int, D.atKey (kyS sj) (.lit (.int .i64 0)) = .lit (.int .i64 c) -> c = ((cn W0 sj : Nat) : Int) := fun c h => hC.val h; have hC2 := hC.put sj; clear hW0 hC HM; generalize cn W0 sj = c0 at hcl hv9 hC2; have hi9 : c0 <= 1000000 := Nat.le_trans hcl (Nat.le_trans hi hN); have hpl := plain_succ9 hi9
   go_wp2_with fail
   refine (every_Kw _ _).mono ?_; rintro e w' ⟨rfl, rfl⟩; obtain ⟨b0, b1, b2, b3, b4, b5, b6⟩ := o_r.cells7
   go_wp2_with fail
   clear b0 b1 b2 b3 b4 b5 b6; refine hvv.mono ?_; rintro e w2 ⟨rfl, hb2⟩; have hown2 := hown.kept (w' := w2) (row := none) ⟨hb2.os, hb2.tape, hb2.output, hb2.size, fun k hk _ => hb2.block k hk⟩ (by simp); have hbr2 := hbr.trans (hb2.mono (by omega)); have hw2 := hb2.size; clear hown hvv hb2 o_r hbB hbr; obtain ⟨c, hlk, hat, -⟩ := hown2.lookup_int keyS Tryz.underlying64 Tryz.underlying3 (zeroI _) hky; obtain rfl := hv9 c hat; obtain ⟨w3, hup, hown3, hgr3⟩ := hown2.update keyS Tryz.underlying64 (by unfold maxLen; omega) hky hpl; have HM3 : Hid (MapW w3 (B + 1) (i + 1) (selN (wordsOf C j) (List.replicate (wordsOf C j).length true) (i + 1))) := hput.out ▸ ⟨_, hown3, hC2⟩; have hbr3 : Below (B + 1) wb w3 := hbr2.trans ⟨hgr3.os, hgr3.tape, hgr3.output, hgr3.size, fun k hk => hgr3.block k (by omega) (by simp; omega)⟩; have hw3 := hgr3.size; clear hown3 hC2 hgr3 hown2 hat hv9 hput hpl
   go_wp2
   clear hlk hup hky
   go_roundg (C.toks.length + 1 - (i + 1))
   case measure => omega
   case rel => exact ⟨i + 1, rfl, by omega, by go_num, HM3, hbr3, by omega⟩
  ·skip
   go_wp2
   go_ret
   have ei : i = C.toks.length := by omega
   subst ei; exact ⟨⟨B + 1, rfl, by have := HB.out; omega, by have := HM.out; rwa [selN_all _ (by rw [wordsOf_length]; exact Nat.le_refl _), List.take_of_length_le (by rw [wordsOf_length]; exact Nat.le_refl _)] at this⟩, HB.out ▸ hbB⟩
theorem counts_Co {S : Nat -> Prop} (w : World) {a t x r n h s : Value} {C : Cor} (q : CorC S w a t x r n h s C) (j : Nat) (hj : ∀ row ∈ C.toks, j < row.length) (hN : C.toks.length <= 1000000) :
  Calls Tryz.prog 24 #[.agg #[a, t, x, r, n, h, s], .int .i64 (j : Int), .func (.func 37) #[] #[]] w fun e w' => (∃ b, e = .returned (.map (some b)) /\ w.heap.size <= b /\ MapW w' b C.toks.length (wordsOf C j)) /\ Below w.heap.size w w' := by
 obtain ⟨At, ct, rfl, u1, u2, -⟩ := EO.form q.t; unfold maxLen at u2; obtain ⟨o_c, hbw⟩ := new1 w [a, .slice At C.toks.length ct, x, r, n, h, s] 30; have hsz : (w.alloc (.cells #[a, .slice At C.toks.length ct, x, r, n, h, s] 30)).heap.size = w.heap.size + 1 := by simp
 have hmm := @run_makeMap Tryz.prog
 go_enter Tryz.func24, Tryz.ntmps24
 go_upto_region 1 with (fail)
 generalize (w.alloc (.cells #[a, .slice At C.toks.length ct, x, r, n, h, s] 30)) = wb at o_c hbw hsz |-; obtain ⟨B, hB⟩ : ∃ B, B = w.heap.size := ⟨_, rfl⟩; rw [<- hB] at o_c hsz hbw |-; have HB := Z' hB; clear hB; have qc := o_c.c1; have HM0 : Hid (MapW (wb.alloc (.map #[] 0)) wb.heap.size 0 (selN (wordsOf C j) (List.replicate (wordsOf C j).length true) 0)) := ⟨.map [], World.ownsMap_made wb _ _ _, Cnt.start⟩; have hbm : Below (B + 1) wb (wb.alloc (.map #[] 0)) := (Below.refl _ _).alloc (by omega) _; have hsm : (wb.alloc (.map #[] 0)).heap.size = wb.heap.size + 1 := by simp
 go_wp2_with fail
 generalize (wb.alloc (.map #[] 0)) = wm at HM0 hbm hsm |-; rw [hsz] at HM0 hsm; clear qc hmm
 go_loopg [13] (C.toks.length + 1) (fun q9 v wr => ∃ i : Nat, q9 = C.toks.length + 1 - i /\ i <= C.toks.length /\ v = .int .i64 (i : Int) /\ Hid (MapW wr (B + 1) i (selN (wordsOf C j) (List.replicate (wordsOf C j).length true) i)) /\ Below (B + 1) wb wr /\ B + 2 <= wr.heap.size)
 case atStart => exact ⟨0, rfl, Nat.zero_le _, rfl, HM0, hbm, by omega⟩
 case round =>
  clear HM0 hbm; obtain ⟨i, rfl, hi, rfl, HM, hbr, hwr⟩ := hrel; have hbB : Below B w wr := hbw.trans (hbr.mono (by omega)); have o_r := o_c.below hbr (by omega)
  by_cases hlt : i < C.toks.length
  ·skip
   obtain ⟨W0, hW0⟩ : ∃ W0, W0 = selN (wordsOf C j) (List.replicate (wordsOf C j).length true) i := ⟨_, rfl⟩; rw [<- hW0] at HM; obtain ⟨D, hown, hC⟩ := HM.out; have hji := hj _ (List.getElem_mem hlt); have hsi : C.toks[i][j].size <= maxLen := by
    obtain ⟨_, _, _, _, _, _, hv⟩ := RowsO.get q.t hlt; obtain ⟨_, _, rfl, _, _, hv⟩ := EO.form hv; obtain ⟨_, _, _, _, _, hz⟩ := StrsO.get hv hji; exact hz
   have HW : Hid ((wordsOf C j)[i]? = some C.toks[i][j]) := wordsOf_get hlt hji; have hvv := value_any wr (q.below (HB.out ▸ hbB)) i j hlt hji; generalize C.toks[i][j] = sj at hsi HW hvv; have hky := kyS_key hsi; clear hsi; have hput : Hid (selN (wordsOf C j) (List.replicate (wordsOf C j).length true) (i + 1) = W0 ++ [sj]) := by
    show _ = _
    rw [selN, HW.out, <- hW0]; have hlt2 : i < (wordsOf C j).length := by rw [wordsOf_length]; exact hlt
    rw [List.getElem?_replicate, if_pos hlt2]
    rfl
   have hcl : cn W0 sj <= i := Nat.le_trans (cn_le W0 sj) (hW0 ▸ selN_le _ _ i); have hv9 : ∀ c : Int, D.atKey (kyS sj) (.lit (.int .i64 0)) = .lit (.int .i64 c) -> c = ((cn W0 sj : Nat) : Int) := fun c h => hC.val h; have hC2 := hC.put sj; clear hW0 hC HM; generalize cn W0 sj = c0 at hcl hv9 hC2; have hi9 : c0 <= 1000000 := Nat.le_trans hcl (Nat.le_trans hi hN); have hpl := plain_succ9 hi9
   go_wp2_with fail
   refine (every_Co _ _).mono ?_; rintro e w' ⟨rfl, rfl⟩; obtain ⟨b0, b1, b2, b3, b4, b5, b6⟩ := o_r.cells7
   go_wp2_with fail
   clear b0 b1 b2 b3 b4 b5 b6; refine hvv.mono ?_; rintro e w2 ⟨rfl, hb2⟩; have hown2 := hown.kept (w' := w2) (row := none) ⟨hb2.os, hb2.tape, hb2.output, hb2.size, fun k hk _ => hb2.block k hk⟩ (by simp); have hbr2 := hbr.trans (hb2.mono (by omega)); have hw2 := hb2.size; clear hown hvv hb2 o_r hbB hbr; obtain ⟨c, hlk, hat, -⟩ := hown2.lookup_int keyS Tryz.underlying64 Tryz.underlying3 (zeroI _) hky; obtain rfl := hv9 c hat; obtain ⟨w3, hup, hown3, hgr3⟩ := hown2.update keyS Tryz.underlying64 (by unfold maxLen; omega) hky hpl; have HM3 : Hid (MapW w3 (B + 1) (i + 1) (selN (wordsOf C j) (List.replicate (wordsOf C j).length true) (i + 1))) := hput.out ▸ ⟨_, hown3, hC2⟩; have hbr3 : Below (B + 1) wb w3 := hbr2.trans ⟨hgr3.os, hgr3.tape, hgr3.output, hgr3.size, fun k hk => hgr3.block k (by omega) (by simp; omega)⟩; have hw3 := hgr3.size; clear hown3 hC2 hgr3 hown2 hat hv9 hput hpl
   go_wp2
   clear hlk hup hky
   go_roundg (C.toks.length + 1 - (i + 1))
   case measure => omega
   case rel => exact ⟨i + 1, rfl, by omega, by go_num, HM3, hbr3, by omega⟩
  ·skip
   go_wp2
   go_ret
   have ei : i = C.toks.length := by omega
   subst ei; exact ⟨⟨B + 1, rfl, by have := HB.out; omega, by have := HM.out; rwa [selN_all _ (by rw [wordsOf_length]; exact Nat.le_refl _), List.take_of_length_le (by rw [wordsOf_length]; exact Nat.le_refl _)] at this⟩, HB.out ▸ hbB⟩
structure Mks (w : World) (gb gn : Nat) (bl : List Bool) : Prop where
 box : Own w gb 86 [.slice (some ⟨gn, 0, none⟩) bl.length bl.length]
 row : Own w gn 4 (bl.map Value.bool)
theorem Mks.chg {S : Nat -> Prop} {w w' : World} {gb gn : Nat} {bl : List Bool} (h : Mks w gb gn bl) (hc : Chg S w w') (h1 : ¬ S gb) (h2 : ¬ S gn) : Mks w' gb gn bl := ⟨hc.own h.box h1, hc.own h.row h2⟩
theorem Mks.below {w w' : World} {gb gn : Nat} {bl : List Bool} (h : Mks w gb gn bl) (hb : Below w.heap.size w w') : Mks w' gb gn bl := h.chg (S := fun _ => False) (Chg.grow9 hb) id id
theorem near_any {gb gn : Nat} {bl : List Bool} (i : Nat) (b : Bool) (hi : bl[i]? = some b) (hN : bl.length <= 1000000) (w : World) (h : Mks w gb gn bl) : Calls Tryz.prog 38 #[.int .i64 (i : Int), .pointer (some ⟨gb, 0, none⟩)] w fun e w' => e = .returned (.bool b) /\ w = w' := by
 have hlt : i < bl.length := by
  rcases Nat.lt_or_ge i bl.length with hl | hl
  ·exact hl
  ·rw [List.getElem?_eq_none hl] at hi; cases hi
 have k0 : w.cell? ⟨gb, 0, none⟩ = some (.slice (some ⟨gn, 0, none⟩) bl.length bl.length) := h.box.cell 0; have k1 : w.cell? ⟨gn, i, none⟩ = some (.bool b) := by rw [h.row.cell]; simp [hi]
 clear h hi; generalize bl.length = N at *
 go_enter Tryz.func38, Tryz.ntmps38
 go_wp2
 go_ret
 exact ⟨rfl, rfl⟩
theorem counts_near {S : Nat -> Prop} (w : World) {a t x r n h s : Value} {C : Cor} (q : CorC S w a t x r n h s C) (j : Nat) (hj : ∀ row ∈ C.toks, j < row.length) (hN : C.toks.length <= 1000000) {gb gn : Nat} {bl : List Bool} (hM : Mks w gb gn bl) (hbl : bl.length = C.toks.length) :
  Calls Tryz.prog 24 #[.agg #[a, t, x, r, n, h, s], .int .i64 (j : Int), .func (.func 38) #[] #[.pointer (some ⟨gb, 0, none⟩)]] w fun e w' => (∃ b, e = .returned (.map (some b)) /\ w.heap.size <= b /\ MapW w' b C.toks.length (selN (wordsOf C j) bl C.toks.length)) /\ Below w.heap.size w w' := by
 obtain ⟨At, ct, rfl, u1, u2, -⟩ := EO.form q.t; unfold maxLen at u2; obtain ⟨o_c, hbw⟩ := new1 w [a, .slice At C.toks.length ct, x, r, n, h, s] 30; have hsz : (w.alloc (.cells #[a, .slice At C.toks.length ct, x, r, n, h, s] 30)).heap.size = w.heap.size + 1 := by simp
 have hmm := @run_makeMap Tryz.prog
 go_enter Tryz.func24, Tryz.ntmps24
 go_upto_region 1 with (fail)
 generalize (w.alloc (.cells #[a, .slice At C.toks.length ct, x, r, n, h, s] 30)) = wb at o_c hbw hsz |-; obtain ⟨B, hB⟩ : ∃ B, B = w.heap.size := ⟨_, rfl⟩; rw [<- hB] at o_c hsz hbw |-; have HB := Z' hB; clear hB; have qc := o_c.c1; have HM0 : Hid (MapW (wb.alloc (.map #[] 0)) wb.heap.size 0 (selN (wordsOf C j) bl 0)) := ⟨.map [], World.ownsMap_made wb _ _ _, Cnt.start⟩; have hbm : Below (B + 1) wb (wb.alloc (.map #[] 0)) := (Below.refl _ _).alloc (by omega) _; have hsm : (wb.alloc (.map #[] 0)).heap.size = wb.heap.size + 1 := by simp
 go_wp2_with fail
 generalize (wb.alloc (.map #[] 0)) = wm at HM0 hbm hsm |-; rw [hsz] at HM0 hsm; clear qc hmm
 go_loopg [13] (C.toks.length + 1) (fun q9 v wr => ∃ i : Nat, q9 = C.toks.length + 1 - i /\ i <= C.toks.length /\ v = .int .i64 (i : Int) /\ Hid (MapW wr (B + 1) i (selN (wordsOf C j) bl i)) /\ Below (B + 1) wb wr /\ B + 2 <= wr.heap.size)
 case atStart => exact ⟨0, rfl, Nat.zero_le _, rfl, HM0, hbm, by omega⟩
 case round =>
  clear HM0 hbm; obtain ⟨i, rfl, hi, rfl, HM, hbr, hwr⟩ := hrel; have hbB : Below B w wr := hbw.trans (hbr.mono (by omega)); have o_r := o_c.below hbr (by omega)
  by_cases hlt : i < C.toks.length
  ·skip
   have hM9 := hM.below (HB.out ▸ hbB); have hib : bl[i]? = some bl[i] := List.getElem?_eq_getElem (hbl ▸ hlt); have hnv := near_any i bl[i] hib (hbl ▸ hN) wr hM9
   rcases hb9 : bl[i]'(hbl ▸ hlt) with _ | _
   ·skip
    rw [hb9] at hnv; have HM3 : Hid (MapW wr (B + 1) (i + 1) (selN (wordsOf C j) bl (i + 1))) := by
     have e : selN (wordsOf C j) bl (i + 1) = selN (wordsOf C j) bl i := by rw [selN, hib, hb9]; simp
     rw [e]; obtain ⟨D, h1, h2⟩ := HM.out; exact ⟨D, h1.mono (by omega), h2⟩
    clear HM
    go_wp2_with fail
    refine hnv.mono ?_; rintro e w' ⟨rfl, rfl⟩; clear hnv
    go_wp2
    go_roundg (C.toks.length + 1 - (i + 1))
    case measure => omega
    case rel => exact ⟨i + 1, rfl, by omega, by go_num, HM3, hbr, by omega⟩
   ·skip
    rw [hb9] at hnv; obtain ⟨W0, hW0⟩ : ∃ W0, W0 = selN (wordsOf C j) bl i := ⟨_, rfl⟩; rw [<- hW0] at HM; obtain ⟨D, hown, hC⟩ := HM.out; have hji := hj _ (List.getElem_mem hlt); have hsi : C.toks[i][j].size <= maxLen := by
     obtain ⟨_, _, _, _, _, _, hv⟩ := RowsO.get q.t hlt; obtain ⟨_, _, rfl, _, _, hv⟩ := EO.form hv; obtain ⟨_, _, _, _, _, hz⟩ := StrsO.get hv hji; exact hz
    have HW : Hid ((wordsOf C j)[i]? = some C.toks[i][j]) := wordsOf_get hlt hji; have hvv := value_any wr (q.below (HB.out ▸ hbB)) i j hlt hji; generalize C.toks[i][j] = sj at hsi HW hvv; have hky := kyS_key hsi; clear hsi; have hput : Hid (selN (wordsOf C j) bl (i + 1) = W0 ++ [sj]) := by
     show _ = _
     rw [selN, HW.out, <- hW0]; rw [hib, hb9]
     rfl
    have hcl : cn W0 sj <= i := Nat.le_trans (cn_le W0 sj) (hW0 ▸ selN_le _ _ i); have hv9 : ∀ c : Int, D.atKey (kyS sj) (.lit (.int .i64 0)) = .lit (.int .i64 c) -> c = ((cn W0 sj : Nat) : Int) := fun c h => hC.val h; have hC2 := hC.put sj; clear hW0 hC HM; generalize cn W0 sj = c0 at hcl hv9 hC2; have hi9 : c0 <= 1000000 := Nat.le_trans hcl (Nat.le_trans hi hN); have hpl := plain_succ9 hi9
    go_wp2_with fail
    refine hnv.mono ?_; rintro e w' ⟨rfl, rfl⟩; clear hnv; obtain ⟨b0, b1, b2, b3, b4, b5, b6⟩ := o_r.cells7
    go_wp2_with fail
    clear b0 b1 b2 b3 b4 b5 b6; refine hvv.mono ?_; rintro e w2 ⟨rfl, hb2⟩; have hown2 := hown.kept (w' := w2) (row := none) ⟨hb2.os, hb2.tape, hb2.output, hb2.size, fun k hk _ => hb2.block k hk⟩ (by simp); have hbr2 := hbr.trans (hb2.mono (by omega)); have hw2 := hb2.size; clear hown hvv hb2 o_r hbB hbr; obtain ⟨c, hlk, hat, -⟩ := hown2.lookup_int keyS Tryz.underlying64 Tryz.underlying3 (zeroI _) hky; obtain rfl := hv9 c hat; obtain ⟨w3, hup, hown3, hgr3⟩ := hown2.update keyS Tryz.underlying64 (by unfold maxLen; omega) hky hpl; have HM3 : Hid (MapW w3 (B + 1) (i + 1) (selN (wordsOf C j) bl (i + 1))) := hput.out ▸ ⟨_, hown3, hC2⟩; have hbr3 : Below (B + 1) wb w3 := hbr2.trans ⟨hgr3.os, hgr3.tape, hgr3.output, hgr3.size, fun k hk => hgr3.block k (by omega) (by simp; omega)⟩; have hw3 := hgr3.size; clear hown3 hC2 hgr3 hown2 hat hv9 hput hpl
    go_wp2
    clear hlk hup hky
    go_roundg (C.toks.length + 1 - (i + 1))
    case measure => omega
    case rel => exact ⟨i + 1, rfl, by omega, by go_num, HM3, hbr3, by omega⟩
  ·skip
   go_wp2
   go_ret
   have ei : i = C.toks.length := by omega
   subst ei; exact ⟨⟨B + 1, rfl, by have := HB.out; omega, HM.out⟩, HB.out ▸ hbB⟩
open Go.RowKit Go.Sort

section
variable {α : Type} {lt : α -> α -> Bool}
structure Tot (lt : α -> α -> Bool) : Prop where
 irr : ∀ x, lt x x = false
 trans : ∀ x y z, lt x y = true -> lt y z = true -> lt x z = true
 tri : ∀ x y, lt x y = false -> lt y x = false -> x = y
theorem Tot.swo (T : Tot lt) : SWO lt where
 irrefl := T.irr
 trans := T.trans
 ntrans x y z h1 h2 := by
  cases h : lt x z with
  | false => rfl
  | true =>
   cases h3 : lt y x with
   | true => have := T.trans y x z h3 h; rw [h2] at this; cases this
   | false => have := T.tri x y h1 h3; subst this; rw [h] at h2; exact h2
def Srt (lt : α -> α -> Bool) (l : List α) : Prop := l.Pairwise (fun x y => lt x y = true)
theorem Srt.nodup (T : Tot lt) {l : List α} (h : Srt lt l) : l.Nodup := h.imp fun {a b} h e => by subst e; rw [T.irr] at h; cases h
theorem Srt.uniq (T : Tot lt) {l m : List α} (hl : Srt lt l) (hm : Srt lt m) (h : ∀ x, x ∈ l ↔ x ∈ m) : l = m := by
 refine List.Perm.eq_of_pairwise (le := fun a b => lt a b = true) (fun a b _ _ h1 h2 => ?_) hl hm ((List.perm_ext_iff_of_nodup (hl.nodup T) (hm.nodup T)).2 h); have := T.trans a b a h1 h2; rw [T.irr] at this
 cases this
theorem Srt.put (T : Tot lt) {l : List α} (h : Srt lt l) {x : α} {k : Nat} (h1 : ∀ y ∈ l.drop k, lt x y = true) (h2 : ∀ y ∈ l.take k, lt y x = true) : Srt lt (l.take k ++ x :: l.drop k) := by
 have h' : Srt lt (l.take k ++ l.drop k) := by rw [List.take_append_drop]; exact h
 have h3 := List.pairwise_append.1 h'; refine List.pairwise_append.2 ⟨h3.1, List.pairwise_cons.2 ⟨h1, h3.2.1⟩, fun a ha b hb => ?_⟩
 rcases List.mem_cons.1 hb with rfl | hb
 ·exact h2 a ha
 ·exact h3.2.2 a ha b hb
theorem Srt.ahead (T : Tot lt) {l : List α} (h : Srt lt l) {x y : α} {k : Nat} (hy : l[k]? = some y) (hl : lt y x = true) : ∀ z ∈ l.take (k + 1), lt z x = true := by
 intro z hz; obtain ⟨j, hj, e⟩ := List.mem_take_iff_getElem.1 hz; have hk : k < l.length := by
  rcases Nat.lt_or_ge k l.length with hk | hk
  ·exact hk
  ·rw [List.getElem?_eq_none hk] at hy; cases hy
 have hyk : l[k] = y := by rw [List.getElem?_eq_getElem hk] at hy; exact Option.some.inj hy
 by_cases hjk : j = k
 ·subst hjk; rw [<- e, hyk]; exact hl
 ·have := List.pairwise_iff_getElem.1 h j k (by omega) hk (by omega); rw [hyk, e] at this; exact T.trans z y x this hl
end

def ltC (f : ByteArray -> Nat) (x y : ByteArray) : Bool := decide (f y < f x) || (decide (f x = f y) && ltS x y)
theorem ltS_tot : Tot ltS := ⟨ltS_irrefl, fun _ _ _ => ltS_trans, fun x y h1 h2 => by
 rcases ltS_total x y with h | h | h
 ·rw [h] at h1; cases h1
 ·exact h
 ·rw [h] at h2; cases h2⟩
theorem ltC_tot (f : ByteArray -> Nat) : Tot (ltC f) where
 irr x := by simp [ltC, ltS_irrefl]
 trans x y z h1 h2 := by
  simp only [ltC, Bool.or_eq_true, Bool.and_eq_true, decide_eq_true_eq] at *
  rcases h1 with h1 | ⟨h1, h3⟩
  ·rcases h2 with h2 | ⟨h2, -⟩ <;> exact .inl (by omega)
  ·rcases h2 with h2 | ⟨h2, h4⟩
   ·exact .inl (by omega)
   ·exact .inr ⟨by omega, ltS_trans h3 h4⟩
 tri x y h1 h2 := by
  simp only [ltC, Bool.or_eq_false_iff, Bool.and_eq_false_iff, decide_eq_false_iff_not] at h1 h2
  have e : f x = f y := by omega
  refine ltS_tot.tri x y ?_ ?_
  ·exact h1.2.elim (fun h => absurd e h) id
  ·exact h2.2.elim (fun h => absurd e.symm h) id
def ltK (n m : ByteArray -> Nat) (x y : ByteArray) : Bool :=
 if decide (m x = 0) = decide (m y = 0) then
  (if m x = 0 then ltS x y else decide (n y * m x < n x * m y) || (decide (n y * m x = n x * m y) && ltS x y))
 else decide (m x = 0)
theorem mul_chain {a b c d e f : Nat} (hd : 0 < d) (h1 : c * b <= a * d) (h2 : e * d <= c * f) : e * b <= a * f /\ (c * b < a * d \/ e * d < c * f -> 0 < b -> 0 < f -> e * b < a * f) := by
 have k1 : e * d * b <= c * f * b := Nat.mul_le_mul_right _ h2; have k2 : c * b * f <= a * d * f := Nat.mul_le_mul_right _ h1; have e1 : e * d * b = e * b * d := by rw [Nat.mul_assoc, Nat.mul_assoc, Nat.mul_comm d b]
 have e2 : c * f * b = c * b * f := by rw [Nat.mul_assoc, Nat.mul_assoc, Nat.mul_comm f b]
 have e3 : a * d * f = a * f * d := by rw [Nat.mul_assoc, Nat.mul_assoc, Nat.mul_comm d f]
 refine ⟨Nat.le_of_mul_le_mul_right (by omega : e * b * d <= a * f * d) hd, fun h hb hf => Nat.lt_of_mul_lt_mul_right (a := d) ?_⟩
 rcases h with h | h
 ·have k3 : c * b * f < a * d * f := Nat.mul_lt_mul_of_pos_right h hf
  omega
 ·have k3 : e * d * b < c * f * b := Nat.mul_lt_mul_of_pos_right h hb
  omega
theorem ltK_tot (n m : ByteArray -> Nat) : Tot (ltK n m) where
 irr x := by simp [ltK, ltS_irrefl]
 trans x y z h1 h2 := by
  unfold ltK at *
  by_cases hx : m x = 0 <;> by_cases hy : m y = 0 <;> by_cases hz : m z = 0 <;> simp [hx, hy, hz] at h1 h2 |-
  ·exact ltS_trans h1 h2
  ·obtain ⟨k1, k2⟩ := mul_chain (a := n x) (b := m x) (c := n y) (d := m y) (e := n z) (f := m z) (by omega) (by omega) (by omega)
   rcases h1 with h1 | ⟨h1, h3⟩
   ·exact .inl (k2 (.inl h1) (by omega) (by omega))
   ·rcases h2 with h2 | ⟨h2, h4⟩
    ·exact .inl (k2 (.inr h2) (by omega) (by omega))
    ·rcases Nat.lt_or_ge (n z * m x) (n x * m z) with h | h
     ·exact .inl h
     ·exact .inr ⟨by omega, ltS_trans h3 h4⟩
 tri x y h1 h2 := by
  unfold ltK at h1 h2
  by_cases hx : m x = 0 <;> by_cases hy : m y = 0 <;> simp [hx, hy] at h1 h2
  ·exact ltS_tot.tri x y h1 h2
  ·have e : n y * m x = n x * m y := by omega
   exact ltS_tot.tri x y (h1.2 e) (h2.2 e.symm)
def cmpW (x y : ByteArray) : Int := if ltS x y = true then -1 else if ltS y x = true then 1 else 0
theorem cmpW_neg (x y : ByteArray) : decide (cmpW x y < 0) = ltS x y := by
 unfold cmpW
 cases h : ltS x y <;> cases h2 : ltS y x <;> simp
def cfC (f : ByteArray -> Nat) (x y : ByteArray) : Int := if Lib.compareInt (f y : Int) (f x : Int) = 0 then cmpW x y else Lib.compareInt (f y : Int) (f x : Int)
theorem cfC_lt (f : ByteArray -> Nat) (x y : ByteArray) : decide (cfC f x y < 0) = ltC f x y := by
 unfold cfC ltC Lib.compareInt
 rcases Nat.lt_trichotomy (f y) (f x) with h | h | h
 ·simp [h, show (f y : Int) < (f x : Int) by omega]
 ·simp [h, cmpW_neg]
 ·simp [show ¬ (f y : Int) < (f x : Int) by omega, show (f x : Int) < (f y : Int) by omega, show ¬ (f y < f x) by omega, show ¬ f x = f y by omega]
def quK (n m : ByteArray -> Nat) (x y : ByteArray) : Int := if m x = 0 \/ m y = 0 then Lib.compareInt (min (m x : Int) 1) (min (m y : Int) 1) else Lib.compareInt ((n y : Int) * (m x : Int)) ((n x : Int) * (m y : Int))
def cfK (n m : ByteArray -> Nat) (x y : ByteArray) : Int := if quK n m x y = 0 then cmpW x y else quK n m x y
theorem cfK_lt (n m : ByteArray -> Nat) (x y : ByteArray) : decide (cfK n m x y < 0) = ltK n m x y := by
 unfold cfK quK ltK Lib.compareInt
 by_cases hx : m x = 0 <;> by_cases hy : m y = 0
 ·simp [hx, hy, cmpW_neg]
 ·have e : min (m y : Int) 1 = 1 := by omega
  have e0 : min (0 : Int) 1 = 0 := by decide
  simp [hx, hy, e, e0]
 ·have e : min (m x : Int) 1 = 1 := by omega
  have e0 : min (0 : Int) 1 = 0 := by decide
  simp [hx, hy, e, e0]
 ·have k1 : ((n y : Int) * (m x : Int)) = ((n y * m x : Nat) : Int) := by simp
  have k2 : ((n x : Int) * (m y : Int)) = ((n x * m y : Nat) : Int) := by simp
  rw [k1, k2]; generalize n y * m x = a; generalize n x * m y = b
  rcases Nat.lt_trichotomy a b with h | h | h
  ·simp [hx, hy, h, show (a : Int) < (b : Int) by omega]
  ·simp [hx, hy, h, cmpW_neg]
  ·simp [hx, hy, show ¬ (a : Int) < (b : Int) by omega, show (b : Int) < (a : Int) by omega, show ¬ a < b by omega, show ¬ a = b by omega]
end Go.Proofs.YtjimfbmegmnocaaGreatDoor
