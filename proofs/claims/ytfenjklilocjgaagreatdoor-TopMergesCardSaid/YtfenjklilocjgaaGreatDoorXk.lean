/- Parts of the proof: Xk. No condition of its own. -/
import Derived.Test.YtfenjklilocjgaaGreatDoorYr
import Derived.Test.YtfenjklilocjgaaGreatDoorCd
import Derived.WalkKit
import Derived.Sort.LoopGhostIn
set_option linter.unusedSimpArgs false
set_option linter.unusedVariables false
set_option linter.unusedSectionVars false
namespace Go.Proofs.YtfenjklilocjgaaGreatDoor
set_option linter.unusedSimpArgs false
set_option linter.unusedVariables false
set_option linter.unusedSectionVars false
open Go.RowKit

attribute [local go_sem] Oper.semAt_some

def uenc (u : Nat × Nat × Nat) : Array Value := #[.agg #[.int .i32 (u.1 : Int), .int .i64 (u.2.1 : Int), .int .i64 (u.2.2 : Int)]]
theorem chg_set {S : Nat → Prop} {A B : World} (h : Chg S A B) {g o : Nat} (hg : S g) (v : Value) : Chg S A (B.setCell ⟨g, o, none⟩ v) := h.setCell (p := ⟨g, o, none⟩) hg _
theorem chg_iter {S : Nat → Prop} {A B : World} (h : Chg S A B) {r : Nat} (hr : S r) (s : ByteArray) (p : Nat) : Chg S A (B.iterAt r s p) :=
  ⟨h.os, h.tape, h.output, by rw [Lib.iterAt_size]; exact h.size, fun k hk hn => (Lib.iterAt_other B r k s p (fun e => hn (e ▸ hr))).trans (h.block k hk hn)⟩
set_option maxRecDepth 100000 in
set_option maxHeartbeats 4000000 in
theorem seq_units (F : Fence) (n : Nat) (hF : F.fn 55) (hro : F.round = none) (hn : 1 ≤ n) (Bn : Nat) (s : ByteArray) (hs : s.size ≤ 1000000) :
    SeqC F n Tryz.prog 55 #[.pointer (some ⟨Bn, 0, none⟩)] uenc (fun W => W.cell? ⟨Bn, 0, none⟩ = some (.string s)) (fun L => ∃ q, Chain s 0 L q ∧ s.size ≤ q) (fun L => ∃ q, Chain s 0 L q) 2 := by
  intro l J Jx W hJH hJ hJx hY h0
  have hBn := hJH _ _ h0
  have hBlt : Bn < W.heap.size := World.block_lt_of_cell? W ⟨Bn, 0, none⟩ (by rw [hBn])
  have HY := Lib.hid hY
  have HJ := Lib.hid hJ
  have HJH := Lib.hid hJH
  have H0 := Lib.hid h0
  clear hY hJ hJx hJH h0
  refine callsIn_of_wp Tryz.func55 rfl hF ?_ hro
  simp only [Tryz.ntmps55, List.size_toArray, List.length_cons, List.length_nil, Nat.reduceAdd, Nat.reduceSub, Array.replicate_succ, Array.replicate_zero, List.push_toArray, List.append_toArray, List.nil_append, List.cons_append]
  obtain ⟨o_u, hbu⟩ := new1 W [.int .i32 0, .int .i64 (-1), .int .i64 0] 78
  have hc1 : Chg (ItS W.heap.size 2) W (W.alloc (.cells #[.int .i32 0, .int .i64 (-1), .int .i64 0] 78)) := (Chg.refl _ W).alloc _
  have hB1 : (W.alloc (.cells #[.int .i32 0, .int .i64 (-1), .int .i64 0] 78)).cell? ⟨Bn, 0, none⟩ = some (.string s) := below_cell hbu hBn
  gi_wp2_with fail
  have hsz : (W.alloc (.cells #[.int .i32 0, .int .i64 (-1), .int .i64 0] 78)).heap.size = W.heap.size + 1 := size1 _ _
  generalize (W.alloc (.cells #[.int .i32 0, .int .i64 (-1), .int .i64 0] 78)) = Wa at o_u hbu hB1 hsz hc1 ⊢
  have hit : (Wa.iter s 0).heap[W.heap.size + 1]? = some (.stringIter s 0) := by rw [← hsz]; exact World.iter_heap Wa s 0
  replace o_u : Own (Wa.iter s 0) W.heap.size 78 [.int .i32 0, .int .i64 (-1), .int .i64 0] := o_u.alloc _
  have hc2 : Chg (ItS W.heap.size 2) W (Wa.iter s 0) := hc1.alloc _
  have hs2 : (Wa.iter s 0).heap.size = W.heap.size + 2 := by show (Wa.alloc _).heap.size = _; rw [size1, hsz]
  generalize Wa.iter s 0 = Wb at hit o_u hc2 hs2 ⊢
  have HJ0 := Lib.hid (HJ.out _ _ _ H0.out hc2)
  have HO0 := Lib.hid o_u
  clear o_u hc1 hc2 hbu hB1 hsz
  gi_loopg [4] (s.size + 5) (fun q v4 wr => ∃ (pre : List (Nat × Nat × Nat)) (p : Nat), q = s.size + 5 - p ∧ wr.heap[W.heap.size + 1]? = some (.stringIter s p) ∧ Hid (J pre wr) ∧ W.heap.size + 2 ≤ wr.heap.size ∧ ((pre = [] ∧ p = 0 ∧ Hid (Own wr W.heap.size 78 [.int .i32 0, .int .i64 (-1), .int .i64 0])) ∨ ∃ u : Nat × Nat × Nat, Hid (Chain s 0 (pre ++ [u]) p) ∧ Hid (Own wr W.heap.size 78 [.int .i32 (u.1 : Int), .int .i64 (u.2.1 : Int), .int .i64 0])))
  case atStart => exact ⟨[], 0, rfl, hit, HJ0, by omega, .inl ⟨rfl, rfl, HO0⟩⟩
  case round =>
    obtain ⟨pre, p, rfl, hit, HP, hsz, hrel⟩ := hrel
    have own0 : ItS W.heap.size 2 W.heap.size := ⟨Nat.le_refl _, by omega⟩
    have own1 : ItS W.heap.size 2 (W.heap.size + 1) := ⟨by omega, by omega⟩
    by_cases hlt : p < s.size
    · have hrun := fun ty => Lib.run_next_any_at (P := Tryz.prog) wr (W.heap.size + 1) s p ty hit hlt
      have hd := decode_pos s p
      have hit2 := Lib.iterAt_heap wr (W.heap.size + 1) s p (p + (Utf8.decode s p).2) hit
      have hsz2 := Lib.iterAt_size wr (W.heap.size + 1) s (p + (Utf8.decode s p).2)
      have hcg := fun p' => chg_iter (Chg.refl (ItS W.heap.size 2) wr) own1 s p'
      have hJ2 := Lib.hid (HJ.out _ _ _ HP.out (hcg (p + (Utf8.decode s p).2)))
      rcases hrel with ⟨rfl, rfl, HO⟩ | ⟨u, HC, HO⟩
      · have HO2 : Hid (Own (wr.iterAt (W.heap.size + 1) s (0 + (Utf8.decode s 0).2)) W.heap.size 78 [.int .i32 0, .int .i64 (-1), .int .i64 0]) := (Lib.iterAt_other wr (W.heap.size + 1) W.heap.size s (0 + (Utf8.decode s 0).2) (by omega)).trans HO.out
        have HC2 : Hid (Chain s 0 ([] ++ [((Utf8.decode s 0).1, 0, (Utf8.decode s 0).2)]) (0 + (Utf8.decode s 0).2)) := chain_snoc (l := []) rfl hlt
        generalize hR : (Utf8.decode s 0).1 = R2 at hrun hd HC2
        generalize hN : (Utf8.decode s 0).2 = N2 at hrun hd HC2 hit2 hsz2 hJ2 HO2
        obtain ⟨wi, hwi⟩ : ∃ x, x = wr.iterAt (W.heap.size + 1) s (0 + N2) := ⟨_, rfl⟩
        rw [← hwi] at hrun hit2 hsz2 hJ2 HO2
        have HS2 := Lib.hid hsz2
        clear hR hN hwi hsz2 HO HP hcg
        have zw : IntKind.i32.wrap (R2 : Int) = (R2 : Int) := IntWalk.i32_in _ (by omega)
        have q1 : wi.cell? ⟨W.heap.size, 1, none⟩ = some (.int .i64 (-1)) := HO2.out.cell 1
        have f2 := HO2.out.frozen 2
        have q2 : wi.cell? ⟨W.heap.size, 2, none⟩ = some (.int .i64 0) := HO2.out.cell 2
        have o_d := HO2.out.set_ 2 (.int .i64 1)
        have hcd := chg_set (Chg.refl (ItS W.heap.size 2) wi) own0 (o := 2) (.int .i64 1)
        have qd0 : (wi.setCell ⟨W.heap.size, 2, none⟩ (.int .i64 1)).cell? ⟨W.heap.size, 0, none⟩ = some (.int .i32 0) := o_d.cell 0
        have qd1 : (wi.setCell ⟨W.heap.size, 2, none⟩ (.int .i64 1)).cell? ⟨W.heap.size, 1, none⟩ = some (.int .i64 (-1)) := o_d.cell 1
        have qd2 : (wi.setCell ⟨W.heap.size, 2, none⟩ (.int .i64 1)).cell? ⟨W.heap.size, 2, none⟩ = some (.int .i64 1) := o_d.cell 2
        have fd0 := o_d.frozen 0
        have fd1 := o_d.frozen 1
        have fd2 := o_d.frozen 2
        have o_f := ((o_d.set_ 0 (.int .i32 (R2 : Int))).set_ 1 (.int .i64 0)).set_ 2 (.int .i64 0)
        have hcf := chg_set (chg_set (chg_set hcd own0 (o := 0) (.int .i32 (R2 : Int))) own0 (o := 1) (.int .i64 0)) own0 (o := 2) (.int .i64 0)
        have HJ3 := Lib.hid (HJ.out _ _ _ hJ2.out hcf)
        have HIT3 : Hid (((((wi.setCell ⟨W.heap.size, 2, none⟩ (.int .i64 1)).setCell ⟨W.heap.size, 0, none⟩ (.int .i32 (R2 : Int))).setCell ⟨W.heap.size, 1, none⟩ (.int .i64 0)).setCell ⟨W.heap.size, 2, none⟩ (.int .i64 0)).heap[W.heap.size + 1]? = some (.stringIter s (0 + N2))) := by
          show _ = _
          rw [Below.heap_setCell _ _ _ _ (by simp), Below.heap_setCell _ _ _ _ (by simp), Below.heap_setCell _ _ _ _ (by simp), Below.heap_setCell _ _ _ _ (by simp)]; exact hit2
        have HS3 := Lib.hid (Nat.le_trans hsz (Nat.le_trans (Nat.le_of_eq HS2.out.symm) hcf.size))
        have HO3 := Lib.hid o_f
        clear o_d hcd o_f hcf hJ2 HO2 hit2
        gi_wp2_with fail
        refine ⟨fun _ h => (by cases h), ?_⟩
        gi_wp2_with fail
        gi_roundg (s.size + 5 - (0 + N2))
        case measure => omega
        case rel => exact ⟨[], 0 + N2, rfl, HIT3.out, HJ3, HS3.out, .inr ⟨(R2, 0, N2), HC2, HO3⟩⟩
      · have HC2 := Lib.hid (chain_snoc HC.out hlt)
        obtain ⟨hl1, hl2, hl3, hl4, hl5⟩ := chain_last HC.out
        obtain ⟨R, a, N⟩ := u
        simp only at hl1 hl2 hl3 hl4 hl5
        have HO2 : Hid (Own (wr.iterAt (W.heap.size + 1) s (p + (Utf8.decode s p).2)) W.heap.size 78 [.int .i32 (R : Int), .int .i64 (a : Int), .int .i64 0]) := (Lib.iterAt_other wr (W.heap.size + 1) W.heap.size s (p + (Utf8.decode s p).2) (by omega)).trans HO.out
        generalize hR : (Utf8.decode s p).1 = R2 at hrun hd HC2
        generalize hN : (Utf8.decode s p).2 = N2 at hrun hd HC2 hit2 hsz2 hJ2 HO2
        obtain ⟨wi, hwi⟩ : ∃ x, x = wr.iterAt (W.heap.size + 1) s (p + N2) := ⟨_, rfl⟩
        rw [← hwi] at hrun hit2 hsz2 hJ2 HO2
        have HS2 := Lib.hid hsz2
        clear hR hN hwi hsz2 HO HP hcg
        have zw : IntKind.i32.wrap (R2 : Int) = (R2 : Int) := IntWalk.i32_in _ (by omega)
        have zs : (p : Int) - (a : Int) = (N : Int) := by omega
        have d0 : decide ((0 : Int) ≤ (a : Int)) = true := decide_eq_true (by omega)
        have q1 := HO2.out.cell 1
        have f2 := HO2.out.frozen 2
        have q2 := HO2.out.cell 2
        have o_d := HO2.out.set_ 2 (.int .i64 (N : Int))
        have hcd := chg_set (Chg.refl (ItS W.heap.size 2) wi) own0 (o := 2) (.int .i64 (N : Int))
        have hJd := HJ.out _ _ _ hJ2.out hcd
        have hitd : (wi.setCell ⟨W.heap.size, 2, none⟩ (.int .i64 (N : Int))).heap[W.heap.size + 1]? = some (.stringIter s (p + N2)) := by
          rw [Below.heap_setCell _ _ _ _ (by simp)]; exact hit2
        have hszd : W.heap.size + 2 ≤ (wi.setCell ⟨W.heap.size, 2, none⟩ (.int .i64 (N : Int))).heap.size := Nat.le_trans (by rw [HS2.out]; exact hsz) hcd.size
        have qd0 : (wi.setCell ⟨W.heap.size, 2, none⟩ (.int .i64 (N : Int))).cell? ⟨W.heap.size, 0, none⟩ = some (.int .i32 (R : Int)) := o_d.cell 0
        have qd1 : (wi.setCell ⟨W.heap.size, 2, none⟩ (.int .i64 (N : Int))).cell? ⟨W.heap.size, 1, none⟩ = some (.int .i64 (a : Int)) := o_d.cell 1
        have qd2 : (wi.setCell ⟨W.heap.size, 2, none⟩ (.int .i64 (N : Int))).cell? ⟨W.heap.size, 2, none⟩ = some (.int .i64 (N : Int)) := o_d.cell 2
        have hY9 : YieldAt F (n - 1) Tryz.prog l #[.agg #[.int .i32 (R : Int), .int .i64 (a : Int), .int .i64 (N : Int)]] _ _ := HY.out pre (R, a, N) _ ⟨_, HC.out⟩ hJd hszd
        obtain ⟨fy, ty, ay, by_, hy, hR⟩ := hY9
        have HRR := Lib.hid hR
        have HID := Lib.hid hitd
        have HOD := Lib.hid o_d
        clear hR hitd o_d hcd hJd hJ2 HO2 hit2
        gi_wp2_with fail
        clear qd0 qd1 qd2 q1 q2 f2
        refine HRR.out.mono ?_
        rintro e W2 ⟨hk, (⟨rfl, hj⟩ | ⟨rfl, hj⟩)⟩
        · have o_e : Own W2 W.heap.size 78 [.int .i32 (R : Int), .int .i64 (a : Int), .int .i64 (N : Int)] := (hk.keep _ own0).trans HOD.out
          have it2 : W2.heap[W.heap.size + 1]? = some (.stringIter s (p + N2)) := (hk.keep _ own1).trans HID.out
          have x0 : W2.cell? ⟨W.heap.size, 0, none⟩ = some (.int .i32 (R : Int)) := o_e.cell 0
          have x1 : W2.cell? ⟨W.heap.size, 1, none⟩ = some (.int .i64 (a : Int)) := o_e.cell 1
          have x2 : W2.cell? ⟨W.heap.size, 2, none⟩ = some (.int .i64 (N : Int)) := o_e.cell 2
          have y0 := o_e.frozen 0
          have y1 := o_e.frozen 1
          have y2 := o_e.frozen 2
          have o_f := ((o_e.set_ 0 (.int .i32 (R2 : Int))).set_ 1 (.int .i64 (p : Int))).set_ 2 (.int .i64 0)
          have hcf := chg_set (chg_set (chg_set (Chg.refl (ItS W.heap.size 2) W2) own0 (o := 0) (.int .i32 (R2 : Int))) own0 (o := 1) (.int .i64 (p : Int))) own0 (o := 2) (.int .i64 0)
          have HJ3 := Lib.hid (HJ.out _ _ _ hj hcf)
          have HIT3 : Hid ((((W2.setCell ⟨W.heap.size, 0, none⟩ (.int .i32 (R2 : Int))).setCell ⟨W.heap.size, 1, none⟩ (.int .i64 (p : Int))).setCell ⟨W.heap.size, 2, none⟩ (.int .i64 0)).heap[W.heap.size + 1]? = some (.stringIter s (p + N2))) := by
            show _ = _
            rw [Below.heap_setCell _ _ _ _ (by simp), Below.heap_setCell _ _ _ _ (by simp), Below.heap_setCell _ _ _ _ (by simp)]; exact it2
          have HS3 := Lib.hid (Nat.le_trans hszd (Nat.le_trans hk.size hcf.size))
          have HO3 := Lib.hid o_f
          clear hk hj o_e it2 o_f hcf HRR HID HOD
          gi_wp2_with fail
          gi_roundg (s.size + 5 - (p + N2))
          case measure => omega
          case rel => exact ⟨pre ++ [(R, a, N)], p + N2, rfl, HIT3.out, HJ3, HS3.out, .inr ⟨(R2, p, N2), HC2, HO3⟩⟩
        · clear HRR HID HOD
          gi_wp2
          refine bodyPost_ret (results_none rfl _ _ _) rfl ?_
          exact ⟨⟨_, rfl⟩, .inr ⟨_, ⟨p, HC.out⟩, hj⟩⟩
    · have hnx := fun ty => Lib.run_next_end_at (P := Tryz.prog) wr (W.heap.size + 1) s p ty hit hlt
      have hBr := HJH.out _ _ HP.out
      rcases hrel with ⟨rfl, rfl, HO⟩ | ⟨u, HC, HO⟩
      · have q1 : wr.cell? ⟨W.heap.size, 1, none⟩ = some (.int .i64 (-1)) := HO.out.cell 1
        have f2 := HO.out.frozen 2
        have q2 : wr.cell? ⟨W.heap.size, 2, none⟩ = some (.int .i64 0) := HO.out.cell 2
        have hz : (s.size : Int) = 0 := by omega
        have o_d := HO.out.set_ 2 (.int .i64 1)
        have hcd := chg_set (Chg.refl (ItS W.heap.size 2) wr) own0 (o := 2) (.int .i64 1)
        have HJ3 := Lib.hid (HJ.out _ _ _ HP.out hcd)
        have qd1 : (wr.setCell ⟨W.heap.size, 2, none⟩ (.int .i64 1)).cell? ⟨W.heap.size, 1, none⟩ = some (.int .i64 (-1)) := o_d.cell 1
        clear o_d hcd HO HP
        gi_wp2
        go_end0
        exact ⟨⟨_, rfl⟩, .inl ⟨[], ⟨0, rfl, by omega⟩, HJ3.out⟩⟩
      · have htop := chain_top HC.out (Nat.zero_le _)
        obtain ⟨hl1, hl2, hl3, hl4, hl5⟩ := chain_last HC.out
        obtain ⟨R, a, N⟩ := u
        simp only at hl1 hl2 hl3 hl4 hl5
        have zs : (s.size : Int) - (a : Int) = (N : Int) := by omega
        have d0 : decide ((0 : Int) ≤ (a : Int)) = true := decide_eq_true (by omega)
        have q1 : wr.cell? ⟨W.heap.size, 1, none⟩ = some (.int .i64 (a : Int)) := HO.out.cell 1
        have f2 := HO.out.frozen 2
        have q2 : wr.cell? ⟨W.heap.size, 2, none⟩ = some (.int .i64 0) := HO.out.cell 2
        have o_d := HO.out.set_ 2 (.int .i64 (N : Int))
        have hcd := chg_set (Chg.refl (ItS W.heap.size 2) wr) own0 (o := 2) (.int .i64 (N : Int))
        have hJd := HJ.out _ _ _ HP.out hcd
        have hszd : W.heap.size + 2 ≤ (wr.setCell ⟨W.heap.size, 2, none⟩ (.int .i64 (N : Int))).heap.size := Nat.le_trans hsz hcd.size
        have qd0 : (wr.setCell ⟨W.heap.size, 2, none⟩ (.int .i64 (N : Int))).cell? ⟨W.heap.size, 0, none⟩ = some (.int .i32 (R : Int)) := o_d.cell 0
        have qd1 : (wr.setCell ⟨W.heap.size, 2, none⟩ (.int .i64 (N : Int))).cell? ⟨W.heap.size, 1, none⟩ = some (.int .i64 (a : Int)) := o_d.cell 1
        have qd2 : (wr.setCell ⟨W.heap.size, 2, none⟩ (.int .i64 (N : Int))).cell? ⟨W.heap.size, 2, none⟩ = some (.int .i64 (N : Int)) := o_d.cell 2
        have hY9 : YieldAt F (n - 1) Tryz.prog l #[.agg #[.int .i32 (R : Int), .int .i64 (a : Int), .int .i64 (N : Int)]] _ _ := HY.out pre (R, a, N) _ ⟨_, HC.out⟩ hJd hszd
        obtain ⟨fy, ty, ay, by_, hy, hR⟩ := hY9
        have HRR := Lib.hid hR
        clear hR o_d hcd hJd HO HP
        gi_wp2_with fail
        clear qd0 qd1 qd2 q1 q2 f2
        refine HRR.out.mono ?_
        rintro e W2 ⟨hk, (⟨rfl, hj⟩ | ⟨rfl, hj⟩)⟩
        · clear HRR
          gi_wp2
          go_end0
          exact ⟨⟨_, rfl⟩, .inl ⟨_, ⟨p, HC.out, by omega⟩, hj⟩⟩
        · clear HRR
          gi_wp2
          go_end0
          exact ⟨⟨_, rfl⟩, .inr ⟨_, ⟨p, HC.out⟩, hj⟩⟩
end Go.Proofs.YtfenjklilocjgaaGreatDoor
