/- The program's Parents: what it returns. -/
import Derived.Test.YtgimddboflhpaaaDom
namespace Go.Proofs.Ytgimddboflhpaaa
set_option linter.unusedSimpArgs false
set_option linter.unusedVariables false
set_option linter.unusedSectionVars false
open Go.RowKit Tr

theorem eqg41 : Try.prog.eqGuardType Try.prog.depth 41 = false := by kernel_rfl
theorem neq41 (a b c p q r : Int) (w : World) : (binOp .neq 41 (.agg #[.int .i64 a, .int .i64 b, .int .i64 c]) (.agg #[.int .i64 p, .int .i64 q, .int .i64 r])).run Try.prog w = .ok (.bool (!(labEq (a, b, c) (p, q, r)))) w := by
  rw [← labEq_of]
  have h2 : Try.prog.stoodInHeld 41 = false := by kernel_rfl
  cases ha : a == p <;> cases hb : b == q <;> cases hc : c == r <;> simp [go_sem, h2, Try.underlying41, ha, hb, hc]

theorem labAt_get {ls : List Lab} {i : Nat} (h : i < ls.length) : ls[i] = labAt ls i := by simp [labAt, List.getD, h]
/-- What Parents returns. -/
def ParPost (ls : List Lab) (w : World) (e : Ending) (w' : World) : Prop :=
  Below w.heap.size w w' ∧
  ((∃ (ps : List Int) (v : Value), IsF ls ps ∧ e = .returned (.tuple #[v, .int .i64 0]) ∧ Sl w' v ps.length (ci ps)) ∨
   ((∀ ps, ¬ IsF ls ps) ∧ e = .returned (.tuple #[.slice none 0 0, .int .i64 (if 4096 < ls.length then 2 else 9)])))
def stk2 (st : List Nat) : List Int := st.reverse.map Int.ofNat

set_option maxRecDepth 100000 in
set_option maxHeartbeats 4000000 in
theorem parents_any (A : Option Addr) (c : Nat) (ls : List Lab) (w : World) (hA : Labs w A ls) (hx : ls.length ≤ maxLen) :
    Calls Try.prog 15 #[.slice A ls.length c] w (ParPost ls w) := by
  unfold maxLen at hx
  by_cases hl : 4096 < ls.length
  · go_enter Try.func15, Try.ntmps15
    go_wp2
    go_ret2
    refine ⟨Below.refl _ _, .inr ⟨fun ps h => ?_, by rw [if_pos hl]; rfl⟩⟩
    obtain ⟨h1, F⟩ := facts h
    rw [← F.len] at h1
    omega
  · have hl' : ls.length ≤ 4096 := by omega
    have mk1 := fun w => run_make_ints (P := Try.prog) Try.underlying22 int_info3 ls.length (by omega) w
    have hE : Hid ((if 4096 < ls.length then (2 : Int) else 9) = 9) := if_neg hl
    go_enter Try.func15, Try.ntmps15
    go_wp2
    go_loopg [25] ls.length (fun q k wr => ∃ (i : Nat) (s : List Int), q = ls.length - i ∧ i ≤ ls.length ∧ k = .int .i64 i ∧ Hid (PreOk ls i s) ∧ s.length = ls.length ∧ Own wr w.heap.size 3 (ci s) ∧ Below w.heap.size w wr)
    case atStart => exact ⟨0, _, rfl, Nat.zero_le _, rfl, PreOk.start ls, by simp, Own.new _ _ _, (Below.refl _ _).alloc (Nat.le_refl _) _⟩
    case round =>
      obtain ⟨i, s, hq, hi, rfl, hP, hsl, hown, hbw⟩ := hrel
      have HQ := Lib.hid hq; clear hq
      have HSL := Lib.hid hsl
      have hsl1 : s.length ≤ ls.length := by omega
      have hsl2 : ls.length ≤ s.length := by omega
      clear hsl
      by_cases hlt : i < ls.length
      · obtain ⟨b, off, rfl, h0, h1, h2⟩ := (hA.below hbw).get hlt
        rw [labAt_get hlt] at h0 h1 h2
        by_cases hn : (labAt ls i).1 < 0
        · go_wp2
          go_ret2
          refine ⟨hbw.alloc hbw.size _, .inr ⟨fun ps h => hP.out.bad hlt (.inl hn) h, by rw [hE.out]; rfl⟩⟩
        · by_cases hg : (ls.length : Int) ≤ (labAt ls i).1
          · go_wp2
            go_ret2
            refine ⟨hbw.alloc hbw.size _, .inr ⟨fun ps h => hP.out.bad hlt (.inr (.inl hg)) h, by rw [hE.out]; rfl⟩⟩
          · have hpl : (labAt ls i).1.toNat < s.length := by omega
            obtain ⟨v, hv⟩ : ∃ v, Hid (s.getD (labAt ls i).1.toNat 0 = v) := ⟨_, rfl⟩
            have hown1 : ∀ o, Own (wr.alloc o) w.heap.size 3 (ci s) := fun o => hown.alloc o
            have hcell : ∀ o, (wr.alloc o).cell? ⟨w.heap.size, (labAt ls i).1.toNat, none⟩ = some (.int .i64 v) := fun o => by
              rw [(hown1 o).cell, ci_get hpl, ← hv.out, getD_get hpl]
            have hfr : ∀ o, (wr.alloc o).frozen? ⟨w.heap.size, (labAt ls i).1.toNat, none⟩ = false := fun o => (hown1 o).frozen _
            by_cases hv0 : v = 0
            · have hvb : (v != 0) = false := by simp [hv0]
              have HV0 := Lib.hid hv0; clear hv0
              clear hown1
              go_wp2
              have hown2 := (hown.alloc (.cells #[.int .i64 (labAt ls i).1, .int .i64 (labAt ls i).2.1, .int .i64 (labAt ls i).2.2] 41)).set_ (labAt ls i).1.toNat (.int .i64 (i + 1))
              rw [ci_set] at hown2
              go_roundg (ls.length - (i + 1))
              case measure => have := HQ.out; omega
              case rel =>
                refine ⟨i + 1, _, rfl, by omega, by go_num, hP.out.step (by omega) (by omega) (by rw [hv.out]; exact HV0.out), by rw [List.length_set]; exact HSL.out, hown2, ?_⟩
                exact (hbw.alloc hbw.size _).setCell (p := ⟨w.heap.size, _, none⟩) (Nat.le_refl _) _
            · have hvb : (v != 0) = true := by simp [hv0]
              clear hown1
              go_wp2
              go_ret2
              refine ⟨hbw.alloc hbw.size _, .inr ⟨fun ps h => hP.out.bad hlt (.inr (.inr ⟨by omega, by omega, by rw [hv.out]; exact hv0⟩)) h, by rw [hE.out]; rfl⟩⟩
      · obtain rfl : i = ls.length := by omega
        clear HQ
        go_wp2
        have hOrd : Own (wr.alloc (.cells (zeros ls.length).toArray 3)) w.heap.size 3 (ci s) := hown.alloc _
        have hPar : Own (wr.alloc (.cells (zeros ls.length).toArray 3)) wr.heap.size 3 (ci (List.replicate ls.length 0)) := Own.new _ _ _
        have hb5 : Below w.heap.size w (wr.alloc (.cells (zeros ls.length).toArray 3)) := hbw.alloc hbw.size _
        have hgp : w.heap.size < wr.heap.size := hown.lt
        have hgB : wr.heap.size + 1 ≤ (wr.alloc (.cells (zeros ls.length).toArray 3)).heap.size := by rw [size1]; omega
        clear hown hbw
        generalize wr.alloc (.cells (zeros ls.length).toArray 3) = w5 at hOrd hPar hb5 hgB ⊢
        generalize wr.heap.size = gp at hPar hgp hgB ⊢
        obtain ⟨i3, hi3, hz30, hz31, hz32⟩ := info_parts int_info3
        go_loopg [9, 58] ls.length (fun q v k wr => ∃ (m : Nat) (stk : List Nat) (par : List Int), q = ls.length - m ∧ m ≤ ls.length ∧ k = .int .i64 m ∧ Hid (StkOk ls m stk par) ∧ stk.length ≤ m ∧ Own wr w.heap.size 3 (ci s) ∧ Own wr gp 3 (ci par) ∧ wr.ownsRow (gp + 1) 3 1 v stk.length (ci (stk2 stk)) ∧ Below w.heap.size w wr ∧ gp + 1 ≤ wr.heap.size)
        case atStart => exact ⟨0, [], _, rfl, Nat.zero_le _, rfl, StkOk.start ls, Nat.le_refl _, hOrd, hPar, World.ownsRow_nil _ _ _ _, hb5, hgB⟩
        case round =>
          clear hOrd hPar hb5 hgB
          obtain ⟨m, stk, par, hq, hm, rfl, hS, hstl, hOrd, hPar, hopen, hbw, hgB⟩ := hrel
          have HQ := Lib.hid hq; clear hq
          by_cases hlt : m < ls.length
          · obtain ⟨i, hi, hord, hik⟩ := hP.out.full hlt
            have hml : m < s.length := by omega
            have hcell : wr.cell? ⟨w.heap.size, m, none⟩ = some (.int .i64 (i + 1)) := by
              rw [hOrd.cell, ci_get hml, ← getD_get hml, hord]
            have HO := Lib.hid hord
            have HIK := Lib.hid hik
            clear hord hik
            have hin : (i : Int) < ls.length := by omega
            go_upto_block 4 with (fail)
            clear hcell
            go_cut [9] (fun v wx => ∃ st : List Nat, Hid (st = popTo ls i stk) ∧ st.length ≤ m ∧ Own wx w.heap.size 3 (ci s) ∧ Own wx gp 3 (ci par) ∧ wx.ownsRow (gp + 1) 3 1 v st.length (ci (stk2 st)) ∧ Below w.heap.size w wx ∧ gp + 1 ≤ wx.heap.size)
            case first =>
              go_wp2
              go_loopg [9] stk.length (fun q v wx => ∃ (st : List Nat), q = st.length ∧ Hid (popTo ls i st = popTo ls i stk) ∧ st.length ≤ m ∧ Hid (∀ t ∈ st, t < ls.length) ∧ Own wx w.heap.size 3 (ci s) ∧ Own wx gp 3 (ci par) ∧ wx.ownsRow (gp + 1) 3 1 v st.length (ci (stk2 st)) ∧ Below w.heap.size w wx ∧ gp + 1 ≤ wx.heap.size)
              case atStart => exact ⟨stk, rfl, rfl, hstl, hS.out.mem, hOrd, hPar, hopen, hbw, hgB⟩
              case round =>
                clear hOrd hPar hopen hbw hgB
                obtain ⟨st, hq, hpop, hstm, hmem, hOrd, hPar, hopen, hbw, hgB⟩ := hrel
                have HQ1 := Lib.hid hq; clear hq
                cases st with
                | nil =>
                  have hopen0 : wr.ownsRow (gp + 1) 3 1 u9 0 [] := hopen
                  clear hopen
                  obtain ⟨Ao, co, rfl, _, hco⟩ := own_form hopen0
                  go_wp2
                  go_quiet (fail)
                  go_wp2
                  go_meet
                  exact ⟨[], hpop.out, Nat.zero_le _, hOrd, hPar, hopen0, below_drewN hbw _, hgB⟩
                | cons t r =>
                  have hopen0 : wr.ownsRow (gp + 1) 3 1 u9 (r.length + 1) (ci (stk2 (t :: r))) := hopen
                  clear hopen
                  obtain ⟨go, co, rfl, hgo, hgolt⟩ := hopen0.form (by omega)
                  have hrc : r.length + 1 ≤ co ∧ co ≤ maxLen := by
                    obtain ⟨_, _, e, h1, h2⟩ := own_form hopen0
                    injection e with e1 e2 e3
                    subst e3
                    exact ⟨h1, h2⟩
                  obtain ⟨hrc1, hrc2⟩ := hrc
                  unfold maxLen at hrc2
                  have htl := hmem.out t (by simp)
                  obtain ⟨b, off, rfl, _, ht1, _⟩ := (hA.below hbw).get htl
                  obtain ⟨_, _, e, _, hi1, _⟩ := (hA.below hbw).get hi
                  cases e
                  rw [labAt_get htl] at ht1
                  rw [labAt_get hi] at hi1
                  have hlast : wr.cell? ⟨go, r.length, none⟩ = some (.int .i64 t) := by
                    have := hopen0.cells (g := go) rfl r.length (.int .i64 t) (by simp [stk2, ci, List.getElem?_append])
                    simpa [Addr.add_lit] using this
                  have htl' : (t : Int) < ls.length := by omega
                  have hrm : r.length + 1 ≤ m := hstm
                  by_cases hpost : (labAt ls t).2.1 < (labAt ls i).2.1
                  · go_wp2
                    go_quiet (fail)
                    go_wp2
                    go_roundg (r.length)
                    case measure => have := HQ1.out; simp at this; omega
                    case rel =>
                      refine ⟨r, rfl, ?_, by omega, fun x hx => hmem.out x (by simp [hx]), hOrd, hPar, ?_, below_drewN hbw _, hgB⟩
                      · show _ = _
                        rw [← hpop.out]
                        unfold popTo
                        rw [List.dropWhile_cons, if_pos (by simpa using hpost)]
                      · have e : ci (stk2 (t :: r)) = ci (stk2 r) ++ [.int .i64 t] := by simp [stk2, ci]
                        rw [e] at hopen0
                        exact ownsRow_pop (by simp [stk2, ci]) hopen0
                  · go_wp2
                    go_quiet (fail)
                    go_wp2
                    go_meet
                    refine ⟨t :: r, ?_, hstm, hOrd, hPar, hopen0, below_drewN hbw _, hgB⟩
                    show _ = _
                    rw [← hpop.out]
                    show t :: r = popTo ls i (t :: r)
                    unfold popTo
                    rw [List.dropWhile_cons, if_neg (by simpa using hpost)]
            case rest =>
              clear hOrd hPar hopen hbw hgB
              obtain ⟨st, hst, hstm, hOrd, hPar, hopen, hbw, hgB⟩ := hcut
              have hnext := hS.out.step hi HIK.out
              rw [← hst.out] at hnext
              have HN := Lib.hid hnext
              clear hnext
              have hip : i < par.length := by rw [hS.out.len]; exact hi
              have c0 : wc.cell? ⟨gp, i, none⟩ = some (.int .i64 par[i]) := by rw [hPar.cell, ci_get hip]
              have f0 : wc.frozen? ⟨gp, i, none⟩ = false := hPar.frozen _
              have hOrd1 : Own (wc.setCell ⟨gp, i, none⟩ (.int .i64 (-1))) w.heap.size 3 (ci s) := hOrd.far (p := ⟨gp, i, none⟩) (by show w.heap.size ≠ gp; omega) _
              have hPar1 : Own (wc.setCell ⟨gp, i, none⟩ (.int .i64 (-1))) gp 3 (ci (par.set i (-1))) := by rw [← ci_set]; exact hPar.set_ i _
              have hopen1 : (wc.setCell ⟨gp, i, none⟩ (.int .i64 (-1))).ownsRow (gp + 1) 3 1 u9 st.length (ci (stk2 st)) := ownsRow_setCell_below hopen (a := ⟨gp, i, none⟩) (by show gp < gp + 1; omega) _
              have hbw1 : Below w.heap.size w (wc.setCell ⟨gp, i, none⟩ (.int .i64 (-1))) := hbw.setCell (p := ⟨gp, i, none⟩) (by show _ ≤ gp; omega) _
              have hgB1 : gp + 1 ≤ (wc.setCell ⟨gp, i, none⟩ (.int .i64 (-1))).heap.size := by simpa [World.setCell] using hgB
              have hb63 : st.length + 1 ≤ maxLen := by unfold maxLen; omega
              clear hOrd hPar hopen hbw hgB
              go_upto_region 21 with (fail)
              clear c0 f0
              generalize wc.setCell ⟨gp, i, none⟩ (.int .i64 (-1)) = w6 at hOrd1 hPar1 hopen1 hbw1 hgB1 ⊢
              cases st with
              | nil =>
                have hopen0 : w6.ownsRow (gp + 1) 3 1 u9 0 [] := hopen1
                clear hopen1
                obtain ⟨Ao, co, rfl, _, hco⟩ := own_form hopen0
                go_wp2_with (at_builtin; refine wpList_append_own_at _ rfl (.tmp 105) (.tmp 107) 22 rfl (gp + 1) 3 i3 _ 1 8 Try.underlying22 hi3 hz30 hz31 hz32 rfl (by decide) _ 0 [] rfl (hopen0.alloc _) ⟨w6.heap.size, 0, none⟩ 1 1 [.int .i64 i] rfl rfl (new_cells _ _ _ _ rfl) (by simp [Value.oneCell']) hb63 (by omega) (by rw [size1]; omega) ?_)
                intro v' w2 hown2 hg2 _ _
                have hl2 := own_lt hopen0
                have r1 : some w.heap.size ≠ (Value.slice Ao 0 co).ownBlock := fun e => by have := hl2 _ e.symm; omega
                have r2 : some gp ≠ (Value.slice Ao 0 co).ownBlock := fun e => by have := hl2 _ e.symm; omega
                have hOrd2 : Own w2 w.heap.size 3 (ci s) := (hg2.block _ (hOrd1.alloc _).lt r1).trans (hOrd1.alloc _)
                have hPar2 : Own w2 gp 3 (ci (par.set i (-1))) := (hg2.block _ (hPar1.alloc _).lt r2).trans (hPar1.alloc _)
                have hbw2 : Below w.heap.size w w2 := (hbw1.alloc hbw1.size _).grown hg2 (by rw [size1]; have := hbw1.size; omega) (fun k hk => by have := hl2 k hk; omega)
                have hgB2 : gp + 1 ≤ w2.heap.size := by have := hg2.size; rw [size1] at this; omega
                clear hg2 hOrd1 hPar1 hbw1 hgB1 hopen0
                go_wp2
                go_roundg (ls.length - (m + 1))
                case measure => have := HQ.out; omega
                case rel => exact ⟨m + 1, [i], _, rfl, by omega, by go_num, HN.out, by simp, hOrd2, hPar2, hown2, hbw2, hgB2⟩
              | cons t r =>
                have hopen0 : w6.ownsRow (gp + 1) 3 1 u9 (r.length + 1) (ci (stk2 (t :: r))) := hopen1
                clear hopen1
                have hrc : r.length + 1 ≤ m := hstm
                have hform := hopen0.form (by omega)
                obtain ⟨go, co, rfl, hgo, hgolt⟩ := hform
                have hlast : w6.cell? ⟨go, r.length, none⟩ = some (.int .i64 t) := by
                  have := hopen0.cells (g := go) rfl r.length (.int .i64 t) (by simp [stk2, ci, List.getElem?_append])
                  simpa [Addr.add_lit] using this
                have hip2 : i < (par.set i (-1)).length := by rw [List.length_set]; exact hip
                have c1 : w6.cell? ⟨gp, i, none⟩ = some (.int .i64 (par.set i (-1))[i]) := by rw [hPar1.cell, ci_get hip2]
                have f1 : w6.frozen? ⟨gp, i, none⟩ = false := hPar1.frozen _
                have hOrd3 : Own (w6.setCell ⟨gp, i, none⟩ (.int .i64 t)) w.heap.size 3 (ci s) := hOrd1.far (p := ⟨gp, i, none⟩) (by show w.heap.size ≠ gp; omega) _
                have hPar3 : Own (w6.setCell ⟨gp, i, none⟩ (.int .i64 t)) gp 3 (ci (par.set i t)) := by
                  have := hPar1.set_ i (.int .i64 t)
                  rw [ci_set, List.set_set] at this
                  exact this
                have hopen3 : (w6.setCell ⟨gp, i, none⟩ (.int .i64 t)).ownsRow (gp + 1) 3 1 (.slice (some ⟨go, 0, none⟩) (r.length + 1) co) (r.length + 1) (ci (stk2 (t :: r))) := ownsRow_setCell_below hopen0 (a := ⟨gp, i, none⟩) (by show gp < gp + 1; omega) _
                have hbw3 : Below w.heap.size w (w6.setCell ⟨gp, i, none⟩ (.int .i64 t)) := hbw1.setCell (p := ⟨gp, i, none⟩) (by show _ ≤ gp; omega) _
                have hgB3 : gp + 1 ≤ (w6.setCell ⟨gp, i, none⟩ (.int .i64 t)).heap.size := by simpa [World.setCell] using hgB1
                go_upto_region 23 with (fail)
                clear c1 f1 hlast hOrd1 hPar1 hopen0 hbw1 hgB1
                generalize w6.setCell ⟨gp, i, none⟩ (.int .i64 t) = w7 at hOrd3 hPar3 hopen3 hbw3 hgB3 ⊢
                go_wp2_with (at_builtin; refine wpList_append_own_at _ rfl (.tmp 105) (.tmp 107) 22 rfl (gp + 1) 3 i3 _ 1 8 Try.underlying22 hi3 hz30 hz31 hz32 rfl (by decide) _ (r.length + 1) (ci (stk2 (t :: r))) rfl (hopen3.alloc _) ⟨w7.heap.size, 0, none⟩ 1 1 [.int .i64 i] rfl rfl (new_cells _ _ _ _ rfl) (by simp [Value.oneCell']) hb63 (by omega) (by rw [size1]; omega) ?_)
                intro v' w2 hown2 hg2 _ _
                have hl2 := own_lt hopen3
                have r1 : some w.heap.size ≠ (Value.slice (some ⟨go, 0, none⟩) (r.length + 1) co).ownBlock := fun e => by have := hl2 _ e.symm; omega
                have r2 : some gp ≠ (Value.slice (some ⟨go, 0, none⟩) (r.length + 1) co).ownBlock := fun e => by have := hl2 _ e.symm; omega
                have hOrd2 : Own w2 w.heap.size 3 (ci s) := (hg2.block _ (hOrd3.alloc _).lt r1).trans (hOrd3.alloc _)
                have hPar2 : Own w2 gp 3 (ci (par.set i t)) := (hg2.block _ (hPar3.alloc _).lt r2).trans (hPar3.alloc _)
                have hbw2 : Below w.heap.size w w2 := (hbw3.alloc hbw3.size _).grown hg2 (by rw [size1]; have := hbw3.size; omega) (fun k hk => by have := hl2 k hk; omega)
                have hgB2 : gp + 1 ≤ w2.heap.size := by have := hg2.size; rw [size1] at this; omega
                have hown4 : Hid (w2.ownsRow (gp + 1) 3 1 v' (i :: t :: r).length (ci (stk2 (i :: t :: r)))) := by
                  have e : ci (stk2 (i :: t :: r)) = ci (stk2 (t :: r)) ++ [.int .i64 i] := by simp [stk2, ci]
                  rw [e]; exact hown2
                clear hg2 hOrd3 hPar3 hbw3 hgB3 hopen3 hown2
                go_wp2
                go_roundg (ls.length - (m + 1))
                case measure => have := HQ.out; omega
                case rel => exact ⟨m + 1, i :: t :: r, _, rfl, by omega, by go_num, HN.out, by simp; omega, hOrd2, hPar2, hown4.out, hbw2, hgB2⟩
          · obtain rfl : m = ls.length := by omega
            have hplen : par.length = ls.length := hS.out.len
            have hdone : Hid (∀ ps, IsF ls ps → par = ps) := fun ps h => hS.out.done h
            have hints : Ints wr (some ⟨gp, 0, none⟩) par := hPar.rd0
            by_cases hbad : (chk par).2 = 0
            · have hc0 : chk par = (0, 0) := by
                obtain ⟨_, _, _, h1⟩ := chk_zero hbad
                exact Prod.ext h1 hbad
              obtain ⟨_, hv, ha, _⟩ := chk_zero hbad
              have hll : (labels par).length = ls.length := by rw [labels_length hv ha, hplen]
              have hcall : Calls Try.prog 11 #[.slice (some ⟨gp, 0, none⟩) ls.length ls.length] wr fun e w' => ∃ Ag cg, e = .returned (.tuple #[.slice Ag ls.length cg, .int .i64 0, .int .i64 0]) ∧ Labs w' Ag (labels par) ∧ Below wr.heap.size wr w' := by
                have := assign_any (some ⟨gp, 0, none⟩) ls.length par wr hints (by rw [hplen]; unfold maxLen; omega)
                rw [hplen] at this
                refine this.mono ?_
                rintro e w' ⟨v, rfl, hsl, hb⟩
                have e1 : outL par = labels par := if_pos hbad
                rw [e1, hll] at hsl
                obtain ⟨Ag, cg, rfl, _, _, hrd⟩ := hsl
                exact ⟨Ag, cg, by rw [hc0], hrd, hb⟩
              have HC := Lib.hid hcall
              have HPL := Lib.hid hplen
              have HLL := Lib.hid hll
              have HC0 := Lib.hid hc0
              have hlle1 : (labels par).length ≤ ls.length := by omega
              have hlle2 : ls.length ≤ (labels par).length := by omega
              clear hcall hplen hll hc0 hbad hopen hOrd
              go_wp2_with (go_at_call 11; refine HC.out.mono ?_; rintro e w6 ⟨Ag, cg, rfl, hag, hb6⟩)
              have hPar6 : Own w6 gp 3 (ci par) := hPar.below hb6 hPar.lt
              have hbw6 : Below w.heap.size w w6 := hbw.trans (hb6.mono hbw.size)
              clear HC hb6 hPar hbw hgB
              go_loopg [120] ls.length (fun q k wx => ∃ i : Nat, q = ls.length - i ∧ i ≤ ls.length ∧ k = .int .i64 i ∧ Hid ((labels par).take i = ls.take i) ∧ Labs wx Ag (labels par) ∧ Own wx gp 3 (ci par) ∧ Below w.heap.size w wx)
              case atStart => exact ⟨0, rfl, Nat.zero_le _, rfl, rfl, hag, hPar6, hbw6⟩
              case round =>
                clear hag hPar6 hbw6
                obtain ⟨i, hq, hi, rfl, htk, hag, hPar, hbw⟩ := hrel
                have HQ2 := Lib.hid hq; clear hq
                by_cases hlt2 : i < ls.length
                · have hlt3 : i < (labels par).length := by omega
                  obtain ⟨b, off, rfl, h0, h1, h2⟩ := (hA.below hbw).get hlt2
                  obtain ⟨b', off', rfl, h0', h1', h2'⟩ := hag.get hlt3
                  have hne := fun w => neq41 (labels par)[i].1 (labels par)[i].2.1 (labels par)[i].2.2 ls[i].1 ls[i].2.1 ls[i].2.2 w
                  have heg := eqg41
                  go_wp2
                  go_quiet (fail)
                  go_wp2
                  · go_ret2
                    have hz : (!labEq (labels par)[i] ls[i]) = true := by assumption
                    have h : labEq (labels par)[i] ls[i] = false := by simpa using hz
                    refine ⟨below_drewN hbw _, .inr ⟨fun ps hF => ?_, by rw [hE.out]; rfl⟩⟩
                    have e1 := hdone.out ps hF
                    have e2 := hF.2
                    rw [← e1] at e2
                    have : (labels par)[i] = ls[i] := by simp only [e2]
                    rw [this] at h
                    simp [labEq] at h
                  · go_roundg (ls.length - (i + 1))
                    case measure => have := HQ2.out; omega
                    case rel =>
                      have hz : (!labEq (labels par)[i] ls[i]) = false := by assumption
                      have h : labEq (labels par)[i] ls[i] = true := by simpa using hz
                      exact ⟨i + 1, rfl, by omega, by go_num, take_step hlt3 hlt2 htk.out (labEq_iff.1 h), hag, hPar, below_drewN hbw _⟩
                · go_wp2
                  go_ret2
                  refine ⟨hbw, .inl ⟨par, _, ⟨HC0.out, eq_of_take (k := i) (by omega) (by omega) htk.out⟩, rfl, ?_⟩⟩
                  rw [HPL.out]
                  exact ⟨_, _, rfl, Nat.le_refl _, by unfold maxLen; omega, hPar.rd0⟩
            · have hcall : Calls Try.prog 11 #[.slice (some ⟨gp, 0, none⟩) ls.length ls.length] wr fun e w' => e = .returned (.tuple #[.slice none 0 0, .int .i64 (chk par).1, .int .i64 (chk par).2]) ∧ Below wr.heap.size wr w' := by
                have := assign_bad (some ⟨gp, 0, none⟩) ls.length par wr hints (by rw [hplen]; unfold maxLen; omega) hbad
                rw [hplen] at this
                exact this
              have HC := Lib.hid hcall
              have hbb : ((chk par).2 != 0) = true := by simpa using hbad
              have HB := Lib.hid hbad
              clear hcall hplen hopen hOrd hbad
              go_wp2_with (go_at_call 11; refine HC.out.mono ?_; rintro e w6 ⟨rfl, hb6⟩)
              go_ret2
              refine ⟨hbw.trans (hb6.mono hbw.size), .inr ⟨fun ps hF => ?_, by rw [hE.out]; rfl⟩⟩
              have e1 := hdone.out ps hF
              exact HB.out (by rw [e1, hF.1])
end Go.Proofs.Ytgimddboflhpaaa
