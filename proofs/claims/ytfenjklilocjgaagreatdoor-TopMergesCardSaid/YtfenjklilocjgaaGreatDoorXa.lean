/- Parts of the proof: Xl, Xm, Xa. No condition of its own. -/
import Derived.Test.YtfenjklilocjgaaGreatDoorXk
import Derived.Test.YtfenjklilocjgaaGreatDoorProg
import Derived.Test.YtfenjklilocjgaaGreatDoorReg
import Derived.IntWalk
import Derived.Deep.LoopGhost
import Derived.Deep.DeepCutAuto
import Derived.Deep.CutBlock
import Derived.Deep.QuietTactic
import Derived.Laws.BitsAllLaws
import Derived.Laws.ShiftsVarLaws
import Derived.Maps.AppendAt
import Derived.Deep.AppendLies
set_option linter.unusedSimpArgs false
set_option linter.unusedVariables false
set_option linter.unusedSectionVars false
namespace Go.Proofs.YtfenjklilocjgaaGreatDoor
set_option linter.unusedSimpArgs false
set_option linter.unusedVariables false
set_option linter.unusedSectionVars false
open Go.RowKit

theorem units_fn (s : ByteArray) (w : World) :
    Calls Tryz.prog 26 #[.string s] w fun e w' => e = .returned (.func (.func 55) #[] #[.pointer (some ⟨w.heap.size, 0, none⟩)]) ∧ Own w' w.heap.size 9 [.string s] ∧ Below w.heap.size w w' := by
  obtain ⟨o_s, hb⟩ := new1 w [.string s] 9
  go_enter Tryz.func26, Tryz.ntmps26
  go_wp2
  go_ret
  exact ⟨rfl, o_s, hb⟩
theorem uvalid_any (r a n : Nat) (w : World) :
    Calls Tryz.prog 27 #[.agg #[.int .i32 (r : Int), .int .i64 (a : Int), .int .i64 (n : Int)]] w fun e w' => e = .returned (.bool (okU (r, a, n))) ∧ Below w.heap.size w w' := by
  obtain ⟨o_u, hb⟩ := new1 w [.int .i32 (r : Int), .int .i64 (a : Int), .int .i64 (n : Int)] 78
  have q0 : (w.alloc (.cells #[.int .i32 (r : Int), .int .i64 (a : Int), .int .i64 (n : Int)] 78)).cell? ⟨w.heap.size, 0, none⟩ = some (.int .i32 (r : Int)) := o_u.cell 0
  have q2 : (w.alloc (.cells #[.int .i32 (r : Int), .int .i64 (a : Int), .int .i64 (n : Int)] 78)).cell? ⟨w.heap.size, 2, none⟩ = some (.int .i64 (n : Int)) := o_u.cell 2
  by_cases h1 : r = 65533
  · subst h1
    by_cases h2 : n = 3
    · subst h2
      go_enter Tryz.func27, Tryz.ntmps27
      go_wp2
      go_ret
      exact ⟨rfl, hb⟩
    · have t3 : ((n : Int) == 3) = false := beq_eq_false_iff_ne.2 (by omega)
      go_enter Tryz.func27, Tryz.ntmps27
      go_wp2
      go_ret
      exact ⟨by simp [okU, h2], hb⟩
  · have t1 : ((r : Int) == 65533) = false := beq_eq_false_iff_ne.2 (by omega)
    have t2 : ((r : Int) != 65533) = true := by rw [bne, t1]; rfl
    go_enter Tryz.func27, Tryz.ntmps27
    go_wp2
    go_ret
    exact ⟨by simp [okU, h1], hb⟩
set_option linter.unusedSimpArgs false
set_option linter.unusedVariables false
set_option linter.unusedSectionVars false
open Go.RowKit

attribute [local go_sem] Oper.semAt_some

def VI (w : World) (s : ByteArray) (pre : List (Nat × Nat × Nat)) (W : World) : Prop :=
  Own W w.heap.size 4 [.bool false] ∧ Own W (w.heap.size + 1) 9 [.string s] ∧ Below w.heap.size w W ∧ ∀ u ∈ pre, okU u = true
def VX (w : World) (c : Code) (pre : List (Nat × Nat × Nat)) (W : World) : Prop :=
  c = .ret ∧ Own W w.heap.size 4 [.bool false] ∧ Below w.heap.size w W ∧ ∃ u ∈ pre, okU u = false
theorem below_chg {B n m : Nat} {w A B' : World} (h : Below B w A) (hc : Chg (ItS n m) A B') (hB : B ≤ n) (hs : B ≤ w.heap.size) : Below B w B' :=
  ⟨hc.os.trans h.os, hc.tape.trans h.tape, hc.output.trans h.output, Nat.le_trans h.size hc.size, fun k hk => (hc.block k (by have := h.size; omega) (fun e => by have := e.1; omega)).trans (h.block k hk)⟩
theorem own_its {n m g : Nat} {t : TypeId} {xs : List Value} {A B : World} (h : Own A g t xs) (hc : Chg (ItS n m) A B) (hg : g < n) : Own B g t xs := (hc.block g h.lt (fun e => by have := e.1; omega)).trans h
/-- A chain that has begun goes to the end. -/
theorem chain_all (s : ByteArray) : ∀ (k : Nat) (pre : List (Nat × Nat × Nat)) (q : Nat), Chain s 0 pre q → s.size - q ≤ k → ∃ L q', Chain s 0 (pre ++ L) q' ∧ s.size ≤ q' := by
  intro k
  induction k with
  | zero => intro pre q h hk; exact ⟨[], q, by rw [List.append_nil]; exact h, by omega⟩
  | succ k ih =>
    intro pre q h hk
    by_cases hlt : q < s.size
    · have hd := decode_pos s q
      obtain ⟨L, q', h1, h2⟩ := ih _ _ (chain_snoc h hlt) (by omega)
      exact ⟨_, q', by rw [List.append_assoc] at h1; exact h1, h2⟩
    · exact ⟨[], q, by rw [List.append_nil]; exact h, by omega⟩
set_option maxRecDepth 100000 in
set_option maxHeartbeats 4000000 in
theorem cpvalid_any (s : ByteArray) (hs : s.size ≤ 1000000) (w : World) :
    Calls Tryz.prog 13 #[.string s] w fun e w' => ((VU s ∧ e = .returned (.bool true)) ∨ (¬ VU s ∧ e = .returned (.bool false))) ∧ Below w.heap.size w w' := by
  refine (callsIn_wide (n := 9)).1 ?_
  refine callsIn_of_wp_marks Tryz.func13 rfl trivial ?_ rfl
  simp only [Tryz.ntmps13, List.size_toArray, List.length_cons, List.length_nil, Nat.reduceAdd, Nat.reduceSub, Array.replicate_succ, Array.replicate_zero, List.push_toArray, List.append_toArray, List.nil_append, List.cons_append]
  obtain ⟨o_r, hbr⟩ := new1 w [.bool false] 4
  gi_wp2_with fail
  refine ⟨trivial, ?_⟩
  have hw1 : (w.alloc (.cells #[.bool false] 4)).heap.size = w.heap.size + 1 := size1 _ _
  refine (callsIn_wide.2 (units_fn s _)).mono ?_
  rintro e V ⟨rfl, o_s, hbs⟩
  rw [hw1] at o_s hbs ⊢
  have o_r2 := o_r.below hbs (by show w.heap.size < w.heap.size + 1; omega)
  have hbw : Below w.heap.size w V := hbr.trans (hbs.mono (by omega))
  have hVs : w.heap.size + 2 ≤ V.heap.size := by have := o_s.lt; omega
  clear o_r hbr hbs
  gi_wp2_with fail
  refine range_all (F := Fence.wide) rfl (by decide) (gf := 55) (lb := #[.pointer (some ⟨w.heap.size + 1, 0, none⟩)]) rfl trivial (enters_of Tryz.func55 (by kernel_rfl) rfl) (encs := uenc) (fun _ => rfl)
    (seq_units Fence.wide 8 trivial rfl (by decide) (w.heap.size + 1) s hs) (VI w s) (VX w) ?hIH ?hI ?hIx ⟨o_r2, o_s, hbw, fun _ h => by simp at h⟩ ?round ?done ?stop
  case hIH => exact fun pre A h => h.2.1.cell 0
  case hI => exact fun pre A B h hc => ⟨own_its h.1 hc (by omega), own_its h.2.1 hc (by omega), below_chg h.2.2.1 hc (by omega) (Nat.le_refl _), h.2.2.2⟩
  case hIx => exact fun c pre A B h hc => ⟨h.1, own_its h.2.1 hc (by omega), below_chg h.2.2.1 hc (by omega) (Nat.le_refl _), h.2.2.2⟩
  case round =>
    rintro l pre ⟨r, a, n⟩ W K hl1 hl2 ⟨g1, g2, g3, g4⟩ - hk
    simp only [uenc]
    gi_wp2
    have hA := (Below.refl W.heap.size W).alloc (Nat.le_refl _) (.cells #[.int .i32 (r : Int), .int .i64 (a : Int), .int .i64 (n : Int)] 78)
    refine hk _ _ hA ?_
    intro W2 hc2 hz2
    have hs1 := size1 W (.cells #[.int .i32 (r : Int), .int .i64 (a : Int), .int .i64 (n : Int)] 78)
    have g1a := g1.below hA g1.lt
    have g2a := g2.below hA g2.lt
    have ou := Own.new W 78 [.int .i32 (r : Int), .int .i64 (a : Int), .int .i64 (n : Int)]
    have g3a := g3.trans (hA.mono g3.size)
    have hlB : w.heap.size + 2 ≤ l := Nat.le_trans hVs hl1.1
    have hlW : l < W.heap.size := by have := hl1.2; omega
    have g1b : Own W2 w.heap.size 4 [.bool false] := (hc2.block _ g1a.lt (by omega)).trans g1a
    have g2b : Own W2 (w.heap.size + 1) 9 [.string s] := (hc2.block _ g2a.lt (by omega)).trans g2a
    have o_u : Own W2 W.heap.size 78 [.int .i32 (r : Int), .int .i64 (a : Int), .int .i64 (n : Int)] := (hc2.block _ (by rw [hs1]; omega) (by omega)).trans ou
    have g3b : Below w.heap.size w W2 := ⟨hc2.os.trans g3a.os, hc2.tape.trans g3a.tape, hc2.output.trans g3a.output, Nat.le_trans g3a.size hc2.size, fun k hk => (hc2.block k (by have := g3a.size; omega) (by omega)).trans (g3a.block k hk)⟩
    have q0 : W2.cell? ⟨W.heap.size, 0, none⟩ = some (.int .i32 (r : Int)) := o_u.cell 0
    have q1 : W2.cell? ⟨W.heap.size, 1, none⟩ = some (.int .i64 (a : Int)) := o_u.cell 1
    have q2 : W2.cell? ⟨W.heap.size, 2, none⟩ = some (.int .i64 (n : Int)) := o_u.cell 2
    clear hk hA g1 g2 g3 g1a g2a g3a ou
    gi_wp2_with fail
    refine ⟨trivial, ?_⟩
    refine (CallsIn.inRound l (callsIn_wide.2 (uvalid_any r a n _))).mono ?_
    rintro e W3 ⟨rfl, hb3⟩
    have g1c := g1b.below hb3 g1b.lt
    have g2c := g2b.below hb3 g2b.lt
    have g3c := g3b.trans (hb3.mono g3b.size)
    have kp : KeepS (ItS V.heap.size (2 + 2)) W2 W3 := ⟨hb3.size, fun k hk => hb3.block k (by have := hk.2; have := hc2.size; omega)⟩
    cases hu : okU (r, a, n) with
    | true =>
      gi_wp2
      refine ⟨g1c, g2c, g3c, fun u hu' => ?_⟩
      rcases List.mem_append.1 hu' with h | h
      · exact g4 u h
      · obtain rfl : u = (r, a, n) := by simpa using h
        exact hu
    | false =>
      have y0 := g1c.frozen 0
      have z0 : W3.cell? ⟨w.heap.size, 0, none⟩ = some (.bool false) := g1c.cell 0
      gi_wp2
      exact ⟨⟨Nat.le_trans kp.size (by simp), fun k hk => (Below.heap_setCell _ _ _ _ (by show k ≠ w.heap.size; have := hk.1; omega)).trans (kp.keep k hk)⟩, rfl, g1c.set_ 0 (.bool false), g3c.setCell (p := ⟨w.heap.size, 0, none⟩) (Nat.le_refl _) (.bool false), (r, a, n), by simp, hu⟩
  case done =>
    rintro D xs W hD ⟨q, hch, hq⟩ ⟨g1, g2, g3, g4⟩ hK
    have hDB : w.heap.size + 2 ≤ D := Nat.le_trans hVs hD.1
    have hVU : VU s := (vu_of hch hq).2 g4
    have q0 : W.cell? ⟨w.heap.size, 0, none⟩ = some (.bool false) := g1.cell 0
    have f0 := g1.frozen 0
    have g9 := g1.set_ 0 (.bool true)
    have hK9 : (W.setCell ⟨w.heap.size, 0, none⟩ (.bool true)).heap[D]? = some (.deferred (some [])) := (Below.heap_setCell _ _ _ _ (by show D ≠ w.heap.size; omega)).trans hK
    have g3' := g3.setCell (p := ⟨w.heap.size, 0, none⟩) (Nat.le_refl _) (.bool true)
    gi_wp2
    generalize W.setCell ⟨w.heap.size, 0, none⟩ (.bool true) = W9 at g9 hK9 g3' ⊢
    refine ⟨by simp, .inl ⟨_, _, rfl, run_takeDeferred hK9, ?_⟩⟩
    have g8 : Own (W9.putObj D (.deferred none)) w.heap.size 4 [.bool true] := (World.putObj_heap_other (by omega)).trans g9
    have q8 : (W9.putObj D (.deferred none)).cell? ⟨w.heap.size, 0, none⟩ = some (.bool true) := g8.cell 0
    have g7 : Below w.heap.size w (W9.putObj D (.deferred none)) := g3'.trans ((Below.refl w.heap.size W9).grown (grownBy_putObj' W9 D _) (by have := g3'.size; omega) (fun k e => by cases e; omega))
    exact ⟨.bool true, by simp [results, Tryz.results13, go_sem, q8], .inl ⟨hVU, rfl⟩, g7⟩
  case stop =>
    rintro D c pre W hD ⟨q, hch⟩ ⟨rfl, g1, g3, u, hu1, hu2⟩ hK
    have hDB : w.heap.size + 2 ≤ D := Nat.le_trans hVs hD.1
    have hVU : ¬ VU s := fun hv => by
      obtain ⟨L, q', h1, h2⟩ := chain_all s s.size pre q hch (Nat.sub_le _ _)
      have := hv (pre ++ L) q' h1 h2 u (List.mem_append_left _ hu1)
      rw [hu2] at this; cases this
    gi_wp2
    refine ⟨by simp, .inl ⟨_, _, rfl, run_takeDeferred hK, ?_⟩⟩
    have g8 : Own (W.putObj D (.deferred none)) w.heap.size 4 [.bool false] := (World.putObj_heap_other (by omega)).trans g1
    have q8 : (W.putObj D (.deferred none)).cell? ⟨w.heap.size, 0, none⟩ = some (.bool false) := g8.cell 0
    have g7 : Below w.heap.size w (W.putObj D (.deferred none)) := g3.trans ((Below.refl w.heap.size W).grown (grownBy_putObj' W D _) (by have := g3.size; omega) (fun k e => by cases e; omega))
    exact ⟨.bool false, by simp [results, Tryz.results13, go_sem, q8], .inr ⟨hVU, rfl⟩, g7⟩
set_option linter.unusedSimpArgs false
set_option linter.unusedVariables false
set_option linter.unusedSectionVars false
open Go.RowKit

def U32 (x : Int) : Prop := 0 ≤ x ∧ x ≤ 4294967295
theorem xor_u32 {a b : Int} (ha : U32 a) (hb : U32 b) : U32 (bits .xor .u32 a b) := by
  rw [u32_xor a b ha.1 (by have := ha.2; omega) hb.1 (by have := hb.2; omega)]
  have h : a.toNat ^^^ b.toNat < 2 ^ 32 := Nat.xor_lt_two_pow (by have := ha.1; have := ha.2; omega) (by have := hb.1; have := hb.2; omega)
  exact ⟨by omega, by omega⟩
theorem and_15 {a : Int} (ha : U32 a) : ∃ k : Nat, k < 16 ∧ bits .and .u32 a 15 = (k : Int) := by
  refine ⟨a.toNat &&& 15, ?_, u32_and a 15 ha.1 (by have := ha.2; omega) (by decide) (by decide)⟩
  exact Nat.and_lt_two_pow (n := 4) _ (by decide)
theorem half_u32 {a : Int} (ha : U32 a) (k : Int) (hk : k = 2 ∨ k = 16) : U32 (a / k) := by
  obtain ⟨h1, h2⟩ := ha
  unfold U32
  rcases hk with rfl | rfl <;> exact ⟨by omega, by omega⟩
/-- One bit of the checksum's register; several. -/
def stp (x : Int) : Int := if (bits .and .u32 x 1 == 1) = true then bits .xor .u32 (x / 2) 2197175160 else x / 2
def stpN : Nat → Int → Int
  | 0, v => v
  | n + 1, v => stp (stpN n v)
theorem stpN_u32 {v : Int} (hv : U32 v) : ∀ n, U32 (stpN n v) := by
  intro n
  induction n with
  | zero => exact hv
  | succ n ih =>
    show U32 (stp (stpN n v))
    unfold stp
    split
    · exact xor_u32 (half_u32 ih 2 (.inl rfl)) ⟨by decide, by decide⟩
    · exact half_u32 ih 2 (.inl rfl)
set_option maxRecDepth 100000 in
set_option maxHeartbeats 1000000 in
theorem step_any (v : Int) (n : Nat) (hn : n ≤ 64) (hv : U32 v) (w : World) :
    Calls Tryz.prog 70 #[.int .u32 v, .int .i64 (n : Int)] w fun e w' => e = .returned (.int .u32 (stpN n v)) ∧ w' = w := by
  have HV := Lib.hid hv
  clear hv
  go_enter Tryz.func70, Tryz.ntmps70
  go_wp2_with fail
  go_loopg [0, 6] (n + 1) (fun q v0 v6 wr => ∃ (i : Nat) (x : Int), q = n + 1 - i ∧ i ≤ n ∧ v6 = .int .i64 (i : Int) ∧ v0 = .int .u32 x ∧ Hid (x = stpN i v) ∧ wr = w)
  case atStart => exact ⟨0, v, rfl, Nat.zero_le _, rfl, rfl, rfl, rfl⟩
  case round =>
    obtain ⟨i, x, rfl, hi, rfl, rfl, HX, hw⟩ := hrel
    subst hw
    obtain ⟨hx0, hx1⟩ : U32 x := by rw [HX.out]; exact stpN_u32 HV.out i
    by_cases hlt : i < n
    · have HS : Hid (stpN (i + 1) v = if (bits .and .u32 x 1 == 1) = true then bits .xor .u32 (x / 2) 2197175160 else x / 2) := by
        show stp (stpN i v) = _
        rw [← HX.out]
        rfl
      clear HX
      rcases hb : (bits .and .u32 x 1 == 1) with _ | _
      · have HX2 : Hid (x / 2 = stpN (i + 1) v) := by show _ = _; rw [HS.out, hb]; rfl
        clear HS
        go_wp2
        go_roundg (n + 1 - (i + 1))
        case measure => omega
        case rel => exact ⟨i + 1, _, rfl, by omega, by go_num, rfl, HX2, rfl⟩
      · have HX2 : Hid (bits .xor .u32 (x / 2) 2197175160 = stpN (i + 1) v) := by show _ = _; rw [HS.out, hb]; rfl
        clear HS
        go_wp2
        go_roundg (n + 1 - (i + 1))
        case measure => omega
        case rel => exact ⟨i + 1, _, rfl, by omega, by go_num, rfl, HX2, rfl⟩
    · obtain rfl : i = n := by omega
      go_wp2
      go_ret
      exact ⟨by rw [HX.out]; rfl, rfl⟩
/-- A row of bytes, of words. -/
def u8c (l : List UInt8) : List Value := l.map fun b => .int .u8 (b.toNat : Int)
def tab16 (k : Nat) : List Value := ((List.range k).map fun (i : Nat) => Value.int .u32 (stpN 4 (i : Int))) ++ List.replicate (16 - k) (.int .u32 0)
theorem tab16_set (k : Nat) (hk : k < 16) : (tab16 k).set k (.int .u32 (stpN 4 (k : Int))) = tab16 (k + 1) := by
  unfold tab16
  rw [List.set_append_right _ _ (by simp), List.length_map, List.length_range, Nat.sub_self, List.range_succ, List.map_append, List.append_assoc]
  congr 1
  obtain ⟨q, hq⟩ : ∃ q, 16 - k = q + 1 := ⟨15 - k, by omega⟩
  have h2 : 16 - (k + 1) = q := by omega
  rw [hq, h2]
  rfl
theorem tab16_get (k : Nat) (hk : k < 16) : (tab16 16)[k]? = some (.int .u32 (stpN 4 (k : Int))) := by
  unfold tab16
  simp [hk]
def half4 (v : Int) : Int := bits .xor .u32 (v / 16) (stpN 4 (bits .and .u32 v 15))
def rnd8 (v : Int) (c : UInt8) : Int := half4 (half4 (bits .xor .u32 v (c.toNat : Int)))
theorem half4_u32 {v : Int} (hv : U32 v) : U32 (half4 v) := by
  obtain ⟨k, hk, e⟩ := and_15 hv
  unfold half4
  rw [e]
  exact xor_u32 (half_u32 hv 16 (.inr rfl)) (stpN_u32 ⟨by omega, by omega⟩ 4)
theorem rnd8_u32 {v : Int} (hv : U32 v) (c : UInt8) : U32 (rnd8 v c) := half4_u32 (half4_u32 (xor_u32 hv ⟨by omega, by have := c.toNat_lt; omega⟩))
def sumV (l : List UInt8) : Int := l.foldl rnd8 4294967295
theorem sumV_u32 (l : List UInt8) : U32 (sumV l) := by
  have : ∀ (l : List UInt8) (v : Int), U32 v → U32 (l.foldl rnd8 v) := by
    intro l
    induction l with
    | nil => intro v h; exact h
    | cons c r ih => intro v h; exact ih _ (rnd8_u32 h c)
  exact this l _ ⟨by decide, by decide⟩
theorem sumV_step {l : List UInt8} {i : Nat} (hi : i < l.length) : sumV (l.take (i + 1)) = rnd8 (sumV (l.take i)) l[i] := by
  unfold sumV
  rw [List.take_add_one, List.getElem?_eq_getElem hi, List.foldl_append]
  rfl
set_option maxRecDepth 100000 in
set_option maxHeartbeats 2000000 in
theorem sum_any (A : Option Addr) (l : List UInt8) (c : Nat) (hc : l.length ≤ c) (hm : c ≤ maxLen) (w : World) (h : Rd w A (u8c l)) :
    Calls Tryz.prog 37 #[.slice A l.length c] w fun e w' => e = .returned (.int .u32 (bits .xor .u32 4294967295 (sumV l))) ∧ Below w.heap.size w w' := by
  unfold maxLen at hm
  have HR := Lib.hid h
  clear h
  obtain ⟨o_t, hbw⟩ := new1 w (tab16 0) 122
  go_enter Tryz.func37, Tryz.ntmps37
  go_upto_region 2 with (fail)
  have hsz : (w.alloc (.cells (tab16 0).toArray 122)).heap.size = w.heap.size + 1 := by simp
  generalize hWE : (w.alloc (.cells (tab16 0).toArray 122)) = wb at o_t hbw hsz
  have hWE2 : (w.alloc (.cells #[.int .u32 0, .int .u32 0, .int .u32 0, .int .u32 0, .int .u32 0, .int .u32 0, .int .u32 0, .int .u32 0, .int .u32 0, .int .u32 0, .int .u32 0, .int .u32 0, .int .u32 0, .int .u32 0, .int .u32 0, .int .u32 0] 122)) = wb := hWE
  rw [hWE2]
  clear hWE hWE2
  obtain ⟨B, hB⟩ : ∃ B, B = w.heap.size := ⟨_, rfl⟩
  rw [← hB] at o_t hsz hbw ⊢
  have HB := Lib.hid hB
  clear hB
  go_wp2_with fail
  go_loopg [8] 17 (fun q v8 wr => ∃ i : Nat, q = 17 - i ∧ i ≤ 16 ∧ v8 = .int .i64 (i : Int) ∧ Hid (Own wr B 122 (tab16 i)) ∧ Below B w wr ∧ Chg (fun k => k = B) wb wr)
  case atStart => exact ⟨0, rfl, by decide, rfl, o_t, hbw, Chg.refl _ _⟩
  case round =>
    clear o_t hbw
    obtain ⟨i, rfl, hi, rfl, HT, hb, hch⟩ := hrel
    by_cases hlt : i < 16
    · have zw : IntKind.u32.wrap (i : Int) = (i : Int) := IntWalk.u32_in _ (by omega)
      have hl : i < (tab16 i).length := by simp [tab16]; omega
      have n1 : wr.cell? ⟨B, i, none⟩ = some (tab16 i)[i] := by rw [HT.out.cell]; exact List.getElem?_eq_getElem hl
      have nf := HT.out.frozen i
      have HT2 : Hid (Own (wr.setCell ⟨B, i, none⟩ (.int .u32 (stpN 4 (i : Int)))) B 122 (tab16 (i + 1))) := by
        rw [← tab16_set i hlt]
        exact HT.out.set_ i _
      have hb2 : Below B w (wr.setCell ⟨B, i, none⟩ (.int .u32 (stpN 4 (i : Int)))) := hb.setCell (p := ⟨B, i, none⟩) (Nat.le_refl _) _
      have hch2 : Chg (fun k => k = B) wb (wr.setCell ⟨B, i, none⟩ (.int .u32 (stpN 4 (i : Int)))) := hch.setCell (p := ⟨B, i, none⟩) rfl _
      generalize (tab16 i)[i] = old at n1
      clear HT hl
      go_wp2_with fail
      refine (step_any (i : Int) 4 (by decide) ⟨by omega, by omega⟩ wr).mono ?_
      rintro e w1 ⟨rfl, rfl⟩
      go_wp2
      go_roundg (17 - (i + 1))
      case measure => omega
      case rel => exact ⟨i + 1, rfl, by omega, by go_num, HT2, hb2, hch2⟩
    · obtain rfl : i = 16 := by omega
      have HR2 := Lib.hid (HR.out.below (HB.out ▸ hb))
      obtain ⟨w1, hw1⟩ : ∃ x, x = wr := ⟨_, rfl⟩
      rw [← hw1] at HT hb HR2 ⊢
      clear hw1 hch HR
      go_wp2_with fail
      go_loopg [5, 19] (l.length + 1) (fun q v5 v19 wr => ∃ (i : Nat) (x : Int), q = l.length + 1 - i ∧ i ≤ l.length ∧ v19 = .int .i64 (i : Int) ∧ v5 = .int .u32 x ∧ Hid (x = sumV (l.take i)) ∧ wr = w1)
      case atStart => exact ⟨0, _, rfl, Nat.zero_le _, rfl, rfl, rfl, rfl⟩
      case round =>
        obtain ⟨i, x, rfl, hi, rfl, rfl, HX, hw⟩ := hrel
        subst hw
        by_cases hlt : i < l.length
        · obtain ⟨b, off, rfl, k0⟩ := HR2.out i (.int .u8 (l[i].toNat : Int)) (by unfold u8c; rw [List.getElem?_map, List.getElem?_eq_getElem hlt]; rfl)
          have HS := Lib.hid (sumV_step hlt)
          generalize l[i] = ci at k0 HS
          have hci := ci.toNat_lt
          have zc : IntKind.u32.wrap (ci.toNat : Int) = (ci.toNat : Int) := IntWalk.u32_in _ (by omega)
          have hx : U32 x := by rw [HX.out]; exact sumV_u32 _
          obtain ⟨y, hy⟩ : ∃ y, y = bits .xor .u32 x (ci.toNat : Int) := ⟨_, rfl⟩
          have hyu : U32 y := by rw [hy]; exact xor_u32 hx ⟨by omega, by omega⟩
          obtain ⟨k1, hk1, e1⟩ := and_15 hyu
          obtain ⟨z, hz⟩ : ∃ z, z = bits .xor .u32 (y / 16) (stpN 4 (k1 : Int)) := ⟨_, rfl⟩
          have hzu : U32 z := by rw [hz]; exact xor_u32 (half_u32 hyu 16 (.inr rfl)) (stpN_u32 ⟨by omega, by omega⟩ 4)
          obtain ⟨k2, hk2, e2⟩ := and_15 hzu
          have HX2 : Hid (bits .xor .u32 (z / 16) (stpN 4 (k2 : Int)) = sumV (l.take (i + 1))) := by
            show _ = _
            rw [HS.out, ← HX.out]
            unfold rnd8
            rw [← hy]
            have h1 : half4 y = z := by unfold half4; rw [e1, hz]
            rw [h1]
            unfold half4
            rw [e2]
          have t1 : wr.cell? ⟨B, k1, none⟩ = some (.int .u32 (stpN 4 (k1 : Int))) := by rw [HT.out.cell]; exact tab16_get k1 hk1
          have t2 : wr.cell? ⟨B, k2, none⟩ = some (.int .u32 (stpN 4 (k2 : Int))) := by rw [HT.out.cell]; exact tab16_get k2 hk2
          obtain ⟨hy0, hy1⟩ := hyu
          obtain ⟨hz0, hz1⟩ := hzu
          have q1 := hy.symm
          have q2 := hz.symm
          clear HS HX hx hy hz
          go_wp2
          clear k0 t1 t2 q1 q2 e1 e2 zc
          go_roundg (l.length + 1 - (i + 1))
          case measure => omega
          case rel => exact ⟨i + 1, _, rfl, by omega, by go_num, rfl, HX2, rfl⟩
        · have ei : i = l.length := by omega
          subst ei
          have HF : Hid (x = sumV l) := by show _ = _; rw [HX.out, List.take_length]
          clear HX
          go_wp2
          go_ret
          exact ⟨by rw [HF.out]; rfl, HB.out ▸ hb⟩
end Go.Proofs.YtfenjklilocjgaaGreatDoor
