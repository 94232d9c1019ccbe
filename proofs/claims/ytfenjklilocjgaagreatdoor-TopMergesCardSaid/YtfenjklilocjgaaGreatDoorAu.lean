/- Parts of the proof: Au. No condition of its own. -/
import Derived.Test.YtfenjklilocjgaaGreatDoorAv
import Derived.RangeFuncKeeps
import Derived.RangeFuncLeaves
import Derived.RangeFuncCalls
import Derived.Shelf.Abstract
import Derived.WalkKit
import Derived.OwnWalkIn
import Derived.TacticsInMore
import Derived.LoopNIn
import Derived.LoopIn
set_option linter.unusedSimpArgs false
set_option linter.unusedVariables false
set_option linter.unusedSectionVars false
namespace Go.Proofs.YtfenjklilocjgaaGreatDoor
set_option linter.unusedSimpArgs false
set_option linter.unusedVariables false
set_option linter.unusedSectionVars false
open Go.RowKit Dg

attribute [local go_sem] Oper.semAt_some

open Go in
/-- A range over a function that hands one element on, whose body goes on: the law. -/
theorem range_one {F : Fence} {n : Nat} {P : Program} {g : Operand} {ps : Array Tmp} {assign body : Code} {Q : Exit → Act → World → Prop} {a : Act} {w : World}
    (hro : F.round = none) (h1 : 1 ≤ n) {gf : Nat} {lb : Array Value} (hg : a.eval g = .func (.func gf) #[] lb) (hFg : F.fn gf) (eg : ∀ args w, (callFunc gf args).run P w = .ok (.enter gf args) w)
    {enc : Array Value} (hps : enc.size = ps.size)
    (hseq : ∀ (l : Nat) (J0 J1 : World → Prop) (W : World), Below w.heap.size w W → (∀ A B, J0 A → Below W.heap.size A B → J0 B) → (∀ W1, J0 W1 → YieldAt F (n - 1 - 1) P l enc W1 fun e W' => e = .returned (.bool true) ∧ J1 W') → J0 W →
      CallsIn F (n - 1) P gf (#[.func (.yield l) #[] #[]] ++ lb) W fun e W' => (∃ v, e = .returned v) ∧ J1 W')
    (I I1 : World → Prop) (hI : ∀ A B, I A → Below w.heap.size A B → I B) (hI1 : ∀ A l o o', w.heap.size ≤ l → I1 A → A.heap[l]? = some o → I1 (A.putObj l o')) (h0 : I w)
    (hround : ∀ (l : Nat) (W : World) (K : Act → World → Prop), w.heap.size < l → l < W.heap.size → I W →
      (∀ a' W', Below W.heap.size W W' → (∀ W2, W2.heap.size = W'.heap.size → (∀ k, k ≠ l → W2.heap[k]? = W'.heap[k]?) → W2.os = W'.os → W2.tape = W'.tape → W2.output = W'.output → body.wpIn (F.inRound l) (n - 1 - 1) P (fun e _ W3 => e = .normal ∧ (∀ k, w.heap.size ≤ k → k ≤ l → W3.heap[k]? = W2.heap[k]?) ∧ I1 W3) a' W2) → K a' W') →
      assign.wpIn (F.inRound l) (n - 1 - 1) P (Exit.then K (fun _ _ _ => False)) { tmps := (ps.zip enc).foldl (fun t (p, v) => t.setIfInBounds p v) a.tmps, defers := [] } W)
    (hdone : ∀ (D : Nat) (W : World), w.heap.size ≤ D → I1 W → W.heap[D]? = some (.deferred (some [])) → Q .normal { a with defers := { target := .collected D, args := #[] } :: a.defers } W) :
    (Code.rangeFunc g ps assign body).wpIn F n P Q a w := by
  refine wpIn_rangeFunc ?_
  intro fn hfn
  rw [hro]
  obtain ⟨rec, hrec⟩ : ∃ rec : LoopState → Option Code → Loop, rec = fun st pe => { state := st, pending := pe, fn, tmps := a.tmps, params := ps, assign, body, defers := w.heap.size } := ⟨_, rfl⟩
  obtain ⟨W1, hW1⟩ : ∃ W1, (w.alloc (.deferred (some []))).alloc (.loop (rec .ready none)) = W1 := ⟨_, rfl⟩
  have hL1 : W1.heap[w.heap.size + 1]? = some (.loop (rec .ready none)) := by
    rw [← hW1]; have := heap_alloc_new (w.alloc (.deferred (some []))) (.loop (rec .ready none)); rwa [World.size_alloc] at this
  have hK1 : W1.heap[w.heap.size]? = some (.deferred (some [])) := by
    rw [← hW1]; exact (Below.heap_alloc _ _ _ (by simp)).trans (heap_alloc_new w _)
  have hb1 : Below w.heap.size w W1 := by
    rw [← hW1]; exact ((Below.refl _ w).alloc (Nat.le_refl _) _).alloc (by simp) _
  have hs1 : W1.heap.size = w.heap.size + 1 + 1 := by rw [← hW1]; simp
  have hI0 : I W1 := hI _ _ h0 hb1
  refine ⟨w.heap.size + 1, [{ target := .collected w.heap.size, args := #[] }], W1, { target := .fn (.func gf) lb, args := #[.func (.yield (w.heap.size + 1)) #[] #[]] }, W1, gf,
    #[.func (.yield (w.heap.size + 1)) #[] #[]] ++ lb, W1, ?_, ?_, ?_, ?_, fun _ => h1, ?_⟩
  · rw [← hW1, hrec]; exact run_enterLoop_outer _ _ _ _ _
  · simp only [resolve, hg]
    simp [go_sem]
  · intro f' hf'; simp [Target.leads] at hf'; subst hf'; exact hFg
  · simp [invoke, go_sem, eg]
  · refine (hseq (w.heap.size + 1)
      (fun W => I W ∧ W.heap[w.heap.size + 1]? = some (.loop (rec .ready none)) ∧ W.heap[w.heap.size]? = some (.deferred (some [])))
      (fun W => I1 W ∧ W.heap[w.heap.size + 1]? = some (.loop (rec .ready none)) ∧ W.heap[w.heap.size]? = some (.deferred (some [])))
      W1 hb1
      (fun A B hs hb => ⟨hI _ _ hs.1 (hb.mono (by omega)), (hb.block _ (by omega)).trans hs.2.1, (hb.block _ (by omega)).trans hs.2.2⟩)
      ?_ ⟨hI0, hL1, hK1⟩).mono ?_
    · rintro W ⟨hi, hl, hk⟩
      have hlt : w.heap.size + 1 < W.heap.size := (Array.getElem?_eq_some_iff.1 hl).1
      have hy := run_yield (P := P) (args := enc) hl (by rw [hrec]; exact hps)
      rw [hrec] at hy
      refine ⟨fn, _, assign, body, hy, roundIn_of_wpIn hfn (hround _ W _ (by omega) hlt hi ?_)⟩
      intro a' W' hb' hbody
      have hl' : W'.heap[w.heap.size + 1]? = some (.loop (rec .ready none)) := (hb'.block _ hlt).trans hl
      have hlt' : w.heap.size + 1 < W'.heap.size := (Array.getElem?_eq_some_iff.1 hl').1
      have hk' : W'.heap[w.heap.size]? = some (.deferred (some [])) := (hb'.block _ (by omega)).trans hk
      refine ⟨_, run_beginRound hl' (by rw [hrec]), ?_⟩
      have hl2 : (W'.putObj (w.heap.size + 1) (.loop { rec .ready none with state := .busy })).heap[w.heap.size + 1]? = some (.loop { rec .ready none with state := .busy }) := World.putObj_heap_same hlt'
      have hk2 : (W'.putObj (w.heap.size + 1) (.loop { rec .ready none with state := .busy })).heap[w.heap.size]? = some (.deferred (some [])) := (World.putObj_heap_other (by omega)).trans hk'
      refine wpIn_mono (hbody _ (by simp [World.putObj]) (fun k hk => World.putObj_heap_other hk) rfl rfl rfl) ?_
      rintro e a3 W3 ⟨rfl, hkeep, hi3⟩
      have hl3 := (hkeep (w.heap.size + 1) (by omega) (Nat.le_refl _)).trans hl2
      have hk3 := (hkeep w.heap.size (Nat.le_refl _) (by omega)).trans hk2
      have hr := run_endRound (P := P) none hl3
      rw [hrec] at hr hl3
      exact ⟨_, _, hr, rfl, hI1 _ _ _ _ (by omega) hi3 hl3, by rw [hrec]; exact World.putObj_heap_same (Array.getElem?_eq_some_iff.1 hl3).1, (World.putObj_heap_other (by omega)).trans hk3⟩
    · rintro e W2 ⟨⟨v, rfl⟩, hi, hl, hk⟩
      exact ⟨none, _, by have := run_endLoop (P := P) hl (by rw [hrec]; simp); rw [hrec] at this; exact this, hdone _ _ (Nat.le_refl _) (hI1 _ _ _ _ (by omega) hi hl) ((World.putObj_heap_other (by omega)).trans hk)⟩
set_option maxRecDepth 100000 in
set_option maxHeartbeats 4000000 in
theorem units_one (F : Fence) (n : Nat) (hF : F.fn 55) (hro : F.round = none) (hn : 1 ≤ n) (l Bn : Nat) (s : ByteArray) (hs : s.size = 1) (h2 : (s[0]'(by omega)).toNat < 128) (J0 J1 : World → Prop) (W : World)
    (hJ : ∀ A B, J0 A → Below W.heap.size A B → J0 B)
    (hY : ∀ W1, J0 W1 → YieldAt F (n - 1) Tryz.prog l #[.agg #[.int .i32 ((s[0]'(by omega)).toNat : Int), .int .i64 0, .int .i64 1]] W1 fun e W' => e = .returned (.bool true) ∧ J1 W')
    (hBn : W.cell? ⟨Bn, 0, none⟩ = some (.string s)) (h0 : J0 W) :
    CallsIn F n Tryz.prog 55 #[.func (.yield l) #[] #[], .pointer (some ⟨Bn, 0, none⟩)] W fun e W' => (∃ v, e = .returned v) ∧ J1 W' := by
  have HY := Lib.hid hY
  have HJ := Lib.hid hJ
  have HA : Hid ((s[0]'(by omega)).toNat < 128) := h2
  clear hY hJ h2
  refine callsIn_of_wp Tryz.func55 rfl hF ?_ hro
  simp only [Tryz.ntmps55, List.size_toArray, List.length_cons, List.length_nil, Nat.reduceAdd, Nat.reduceSub, Array.replicate_succ, Array.replicate_zero, List.push_toArray, List.append_toArray, List.nil_append, List.cons_append]
  obtain ⟨o_u, hbu⟩ := new1 W [.int .i32 0, .int .i64 (-1), .int .i64 0] 78
  have hB1 : (W.alloc (.cells #[.int .i32 0, .int .i64 (-1), .int .i64 0] 78)).cell? ⟨Bn, 0, none⟩ = some (.string s) := below_cell hbu hBn
  gi_wp2_with fail
  have d5 : 0 < s.size := by omega
  have hsz : (W.alloc (.cells #[.int .i32 0, .int .i64 (-1), .int .i64 0] 78)).heap.size = W.heap.size + 1 := size1 _ _
  generalize (W.alloc (.cells #[.int .i32 0, .int .i64 (-1), .int .i64 0] 78)) = Wa at o_u hbu hB1 hsz ⊢
  have hit : (Wa.iter s 0).heap[W.heap.size + 1]? = some (.stringIter s 0) := by rw [← hsz]; exact World.iter_heap Wa s 0
  replace o_u : Own (Wa.iter s 0) W.heap.size 78 [.int .i32 0, .int .i64 (-1), .int .i64 0] := o_u.alloc _
  have hbb : Below W.heap.size W (Wa.iter s 0) := below6 hbu ((Below.refl _ Wa).alloc (Nat.le_refl _) _)
  generalize Wa.iter s 0 = Wb at hit o_u hbb ⊢
  have hnx : ∀ ty, (Instr.next (.pointer (some ⟨W.heap.size + 1, 0, none⟩)) true ty).run Tryz.prog Wb = _ := fun ty => Lib.run_next_ascii_at Wb (W.heap.size + 1) s 0 ty hit d5 HA.out
  have hit2 := Lib.iterAt_heap Wb (W.heap.size + 1) s 0 (0 + 1) hit
  have hbc := Lib.below_iterAt hbb (k := W.heap.size + 1) (by omega) s (0 + 1)
  have o_c : Own (Wb.iterAt (W.heap.size + 1) s (0 + 1)) W.heap.size 78 [.int .i32 0, .int .i64 (-1), .int .i64 0] := (Lib.iterAt_other Wb (W.heap.size + 1) W.heap.size s (0 + 1) (by omega)).trans o_u
  obtain ⟨Wc, hWc⟩ : ∃ Wc, Wc = Wb.iterAt (W.heap.size + 1) s (0 + 1) := ⟨_, rfl⟩
  rw [← hWc] at hnx hit2 hbc o_c
  clear hWc
  have qc1 : Wc.cell? ⟨W.heap.size, 1, none⟩ = some (.int .i64 (-1)) := o_c.cell 1
  have fc2 := o_c.frozen 2
  have qc2 : Wc.cell? ⟨W.heap.size, 2, none⟩ = some (.int .i64 0) := o_c.cell 2
  have o_d := o_c.set_ 2 (.int .i64 1)
  have qd1 : (Wc.setCell ⟨W.heap.size, 2, none⟩ (.int .i64 1)).cell? ⟨W.heap.size, 1, none⟩ = some (.int .i64 (-1)) := o_d.cell 1
  have qd0 : (Wc.setCell ⟨W.heap.size, 2, none⟩ (.int .i64 1)).cell? ⟨W.heap.size, 0, none⟩ = some (.int .i32 0) := o_d.cell 0
  have qd2 : (Wc.setCell ⟨W.heap.size, 2, none⟩ (.int .i64 1)).cell? ⟨W.heap.size, 2, none⟩ = some (.int .i64 1) := o_d.cell 2
  have fd0 := o_d.frozen 0
  have fd1 := o_d.frozen 1
  have fd2 := o_d.frozen 2
  refine wpIn_loop_rounds 2 ?_
  rw [roundsIn_succ]
  gi_wp2_with fail
  refine ⟨fun _ h => (by cases h), ?_⟩
  gi_wp2_with fail
  rename_i hq _ _ _
  clear hq
  obtain ⟨r, hr⟩ : ∃ r : Value, r = .int .i32 ((s[0]'d5).toNat : Int) := ⟨_, rfl⟩
  have hit3 : ((((Wc.setCell ⟨W.heap.size, 2, none⟩ (.int .i64 1)).setCell ⟨W.heap.size, 0, none⟩ (.int .i32 ((s[0]'d5).toNat : Int))).setCell ⟨W.heap.size, 1, none⟩ (.int .i64 0)).setCell ⟨W.heap.size, 2, none⟩ (.int .i64 0)).heap[W.heap.size + 1]? = some (.stringIter s (0 + 1)) := by
    rw [Below.heap_setCell _ _ _ _ (by simp), Below.heap_setCell _ _ _ _ (by simp), Below.heap_setCell _ _ _ _ (by simp), Below.heap_setCell _ _ _ _ (by simp)]
    exact hit2
  have o_e := ((o_d.set_ 0 (.int .i32 ((s[0]'d5).toNat : Int))).set_ 1 (.int .i64 0)).set_ 2 (.int .i64 0)
  have hbe : Below W.heap.size W ((((Wc.setCell ⟨W.heap.size, 2, none⟩ (.int .i64 1)).setCell ⟨W.heap.size, 0, none⟩ (.int .i32 ((s[0]'d5).toNat : Int))).setCell ⟨W.heap.size, 1, none⟩ (.int .i64 0)).setCell ⟨W.heap.size, 2, none⟩ (.int .i64 0)) :=
    (((hbc.setCell (p := ⟨W.heap.size, 2, none⟩) (Nat.le_refl _) _).setCell (p := ⟨W.heap.size, 0, none⟩) (Nat.le_refl _) _).setCell (p := ⟨W.heap.size, 1, none⟩) (Nat.le_refl _) _).setCell (p := ⟨W.heap.size, 2, none⟩) (Nat.le_refl _) _
  clear hr r qd0 qd1 qd2 fd0 fd1 fd2 qc1 qc2 fc2 hnx
  generalize ((((Wc.setCell ⟨W.heap.size, 2, none⟩ (.int .i64 1)).setCell ⟨W.heap.size, 0, none⟩ (.int .i32 ((s[0]'d5).toNat : Int))).setCell ⟨W.heap.size, 1, none⟩ (.int .i64 0)).setCell ⟨W.heap.size, 2, none⟩ (.int .i64 0)) = We at hit3 o_e hbe ⊢
  have hBe := below_cell hbe hBn
  have qe1 : We.cell? ⟨W.heap.size, 1, none⟩ = some (.int .i64 0) := o_e.cell 1
  have qe2 : We.cell? ⟨W.heap.size, 2, none⟩ = some (.int .i64 0) := o_e.cell 2
  have fe2 := o_e.frozen 2
  have o_f := o_e.set_ 2 (.int .i64 1)
  have hbf := hbe.setCell (p := ⟨W.heap.size, 2, none⟩) (Nat.le_refl _) (.int .i64 1)
  have qf0 : (We.setCell ⟨W.heap.size, 2, none⟩ (.int .i64 1)).cell? ⟨W.heap.size, 0, none⟩ = some (.int .i32 ((s[0]'d5).toNat : Int)) := o_f.cell 0
  have qf1 : (We.setCell ⟨W.heap.size, 2, none⟩ (.int .i64 1)).cell? ⟨W.heap.size, 1, none⟩ = some (.int .i64 0) := o_f.cell 1
  have qf2 : (We.setCell ⟨W.heap.size, 2, none⟩ (.int .i64 1)).cell? ⟨W.heap.size, 2, none⟩ = some (.int .i64 1) := o_f.cell 2
  have hnx2 : ∀ ty, (Instr.next (.pointer (some ⟨W.heap.size + 1, 0, none⟩)) true ty).run Tryz.prog We = _ := fun ty => Lib.run_next_end_at We (W.heap.size + 1) s (0 + 1) ty hit3 (by omega)
  obtain ⟨fy, ty, ay, by_, hy, hR⟩ := HY.out _ (HJ.out _ _ h0 hbf)
  rw [roundsIn_succ]
  gi_wp2_with fail
  refine hR.mono ?_
  rintro e W2 ⟨rfl, hJ1⟩
  gi_wp2
  go_end0
  exact ⟨⟨_, rfl⟩, hJ1⟩
theorem unitValid (r : Int) (h : r < 128) : RetV 27 #[.agg #[.int .i32 r, .int .i64 0, .int .i64 1]] (.bool true) := by
  intro w
  obtain ⟨o_u, hb⟩ := new1 w [.int .i32 r, .int .i64 0, .int .i64 1] 78
  have q0 : (w.alloc (.cells #[.int .i32 r, .int .i64 0, .int .i64 1] 78)).cell? ⟨w.heap.size, 0, none⟩ = some (.int .i32 r) := o_u.cell 0
  have t1 : (r == 65533) = false := beq_eq_false_iff_ne.2 (by omega)
  have t2 : (r != 65533) = true := by rw [bne, t1]; rfl
  go_enter Tryz.func27, Tryz.ntmps27
  go_wp2
  go_ret
  exact ⟨rfl, hb⟩
theorem units_call (s : ByteArray) (w : World) : Calls Tryz.prog 26 #[.string s] w fun e w' => e = .returned (.func (.func 55) #[] #[.pointer (some ⟨w.heap.size, 0, none⟩)]) ∧ w' = w.alloc (.cells #[.string s] 9) := by
  have hmf : ∀ (fn : Fn) (first cap : Array Value) (w : World), (Instr.makeFunc fn first cap).run Tryz.prog w = .ok (.func fn first cap) w := fun _ _ _ _ => rfl
  go_enter Tryz.func26, Tryz.ntmps26
  go_wp2
  go_ret
  exact ⟨rfl, rfl⟩
set_option maxRecDepth 100000 in
set_option maxHeartbeats 4000000 in
theorem cpValid_one (s : ByteArray) (hs : s.size = 1) (h2 : (s[0]'(by omega)).toNat < 128) : RetV 13 #[.string s] (.bool true) := by
  intro w
  have HA := Lib.hid h2
  clear h2
  refine (callsIn_wide (n := 9)).1 ?_
  refine callsIn_of_wp_marks Tryz.func13 rfl trivial ?_ rfl
  simp only [Tryz.ntmps13, List.size_toArray, List.length_cons, List.length_nil, Nat.reduceAdd, Nat.reduceSub, Array.replicate_succ, Array.replicate_zero, List.push_toArray, List.append_toArray, List.nil_append, List.cons_append]
  obtain ⟨o_r, hbr⟩ := new1 w [.bool false] 4
  gi_wp2_with fail
  refine ⟨trivial, ?_⟩
  refine (callsIn_wide.2 (units_call s _)).mono ?_
  rintro e w1 ⟨rfl, rfl⟩
  gi_wp2_with fail
  have hVs : ((w.alloc (.cells #[.bool false] 4)).alloc (.cells #[.string s] 9)).heap.size = w.heap.size + 1 + 1 := by simp
  have hw1 : (w.alloc (.cells #[.bool false] 4)).heap.size = w.heap.size + 1 := size1 _ _
  obtain ⟨o_s, hbs⟩ := new1 (w.alloc (.cells #[.bool false] 4)) [.string s] 9
  replace o_r := o_r.alloc (.cells #[.string s] 9)
  have hbw := below6 hbr hbs
  rw [hw1] at o_s
  clear hbr hbs
  generalize ((w.alloc (.cells #[.bool false] 4)).alloc (.cells #[.string s] 9)) = V at o_s o_r hbw hVs ⊢
  have hR : Hid (((s[0]'(by omega)).toNat : Int) < 128) := by have := HA.out; show _ < (128 : Int); omega
  refine range_one (F := Fence.wide) rfl (by decide) (gf := 55) (lb := #[.pointer (some ⟨w.heap.size + 1, 0, none⟩)]) rfl trivial (enters_of Tryz.func55 (by kernel_rfl) rfl) (enc := #[.agg #[.int .i32 ((s[0]'(by omega)).toNat : Int), .int .i64 0, .int .i64 1]]) rfl
    (fun l J0 J1 W hb hJ hY h0 => units_one Fence.wide 8 trivial rfl (by decide) l (w.heap.size + 1) s hs HA.out J0 J1 W hJ hY ((o_s.below hb o_s.lt).cell 0) h0)
    (fun W => Own W w.heap.size 4 [.bool false] ∧ Own W (w.heap.size + 1) 9 [.string s] ∧ Below w.heap.size w W)
    (fun W => Own W w.heap.size 4 [.bool false] ∧ Own W (w.heap.size + 1) 9 [.string s] ∧ Below w.heap.size w W)
    (fun A B h hb => ⟨h.1.below hb (by omega), h.2.1.below hb (by omega), h.2.2.trans (hb.mono (by omega))⟩)
    (fun A l o o' hl h ho => ⟨(World.putObj_heap_other (by omega)).trans h.1, (World.putObj_heap_other (by omega)).trans h.2.1, h.2.2.trans ((Below.refl w.heap.size A).grown (grownBy_putObj' A l o') (by have := h.2.2.size; omega) (fun k e => by cases e; omega))⟩)
    ⟨o_r, o_s, hbw⟩ ?round ?done
  case round =>
    rintro l W K hl1 hl2 ⟨g1, g2, g3⟩ hk
    gi_wp2
    have hA := (Below.refl W.heap.size W).alloc (Nat.le_refl _) (.cells #[.int .i32 ((s[0]'(by omega)).toNat : Int), .int .i64 0, .int .i64 1] 78)
    refine hk _ _ hA ?_
    intro W2 hs2 ho2 e1 e2 e3
    rw [size1] at hs2
    have hVW := g2.lt
    have o_u : Own W2 W.heap.size 78 [.int .i32 ((s[0]'(by omega)).toNat : Int), .int .i64 0, .int .i64 1] := (ho2 _ (by omega)).trans (Own.new W 78 [.int .i32 ((s[0]'(by omega)).toNat : Int), .int .i64 0, .int .i64 1])
    have g1' : Own W2 w.heap.size 4 [.bool false] := (ho2 _ (by omega)).trans (g1.below hA g1.lt)
    have g2' : Own W2 (w.heap.size + 1) 9 [.string s] := (ho2 _ (by omega)).trans (g2.below hA g2.lt)
    have g4 := g3.trans (hA.mono g3.size)
    have g3' : Below w.heap.size w W2 := ⟨e1.trans g4.os, e2.trans g4.tape, e3.trans g4.output, by have := g3.size; omega, fun k hk => (ho2 k (by omega)).trans (g4.block k hk)⟩
    clear hk hA g4 g3 g1 g2 ho2 e1 e2 e3
    have q0 : W2.cell? ⟨W.heap.size, 0, none⟩ = some (.int .i32 ((s[0]'(by omega)).toNat : Int)) := o_u.cell 0
    have q1 : W2.cell? ⟨W.heap.size, 1, none⟩ = some (.int .i64 0) := o_u.cell 1
    have q2 : W2.cell? ⟨W.heap.size, 2, none⟩ = some (.int .i64 1) := o_u.cell 2
    gi_wp2_with fail
    refine ⟨trivial, ?_⟩
    refine (CallsIn.inRound l (callsIn_wide.2 (unitValid _ hR.out _))).mono ?_
    rintro e W3 ⟨rfl, hb3⟩
    gi_wp2
    exact ⟨fun k h1 h2 => hb3.block k (by omega), g1'.below hb3 g1'.lt, g2'.below hb3 g2'.lt, g3'.trans (hb3.mono g3'.size)⟩
  case done =>
    rintro D W hD ⟨g1, g2, g3⟩ hK
    have q0 : W.cell? ⟨w.heap.size, 0, none⟩ = some (.bool false) := g1.cell 0
    have f0 := g1.frozen 0
    have g9 := g1.set_ 0 (.bool true)
    have hK9 : (W.setCell ⟨w.heap.size, 0, none⟩ (.bool true)).heap[D]? = some (.deferred (some [])) := (Below.heap_setCell _ _ _ _ (by show D ≠ w.heap.size; omega)).trans hK
    have g3' := g3.setCell (p := ⟨w.heap.size, 0, none⟩) (Nat.le_refl _) (.bool true)
    gi_wp2
    generalize W.setCell ⟨w.heap.size, 0, none⟩ (.bool true) = W9 at g9 hK9 g3' ⊢
    refine ⟨by simp, .inl ⟨_, _, rfl, run_takeDeferred hK9, ?_⟩⟩
    have g8 : Own (W9.putObj D (.deferred none)) w.heap.size 4 [.bool true] := (World.putObj_heap_other (by omega)).trans g9
    have q8 : (W9.putObj D (.deferred none)).cell? ⟨w.heap.size, 0, none⟩ = some (.bool true) := g8.cell 0
    have g7 : Below w.heap.size w (W9.putObj D (.deferred none)) := g3'.trans ((Below.refl w.heap.size W9).grown (grownBy_putObj' W9 D _) (by have := g3'.size; omega) (fun k e => by cases e; omega))
    exact ⟨.bool true, by simp [results, Tryz.results13, go_sem, q8], rfl, g7⟩
end Go.Proofs.YtfenjklilocjgaaGreatDoor
