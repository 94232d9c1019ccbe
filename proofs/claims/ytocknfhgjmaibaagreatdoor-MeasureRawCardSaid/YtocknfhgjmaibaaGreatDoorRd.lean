/- Parts of the proof: Rd. No condition of its own. -/
import Derived.Test.YtocknfhgjmaibaaGreatDoorRw
set_option linter.unusedSimpArgs false
set_option linter.unusedVariables false
set_option linter.unusedSectionVars false
set_option maxRecDepth 100000
set_option maxHeartbeats 4000000
namespace Go.Proofs.YtocknfhgjmaibaaGreatDoor
open Go.RowKit

theorem run_append_none_c {w : World} (base : Nat) (t ty e : TypeId) (i : TypeInfo) (size c : Nat) (ht : Tryz.prog.underlying t = some (.slice e)) (hi : Tryz.prog.info? e = some i)
    (v : Value) (n : Nat) (xs : List Value) (hown : w.ownsRow base e size v n xs) :
    (Builtin.append_ #[t, t] ty #[v, .slice none 0 c]).run Tryz.prog w = .ok v w := by
  rcases hown.2 with ⟨rfl, rfl⟩ | ⟨g, cap, cur, rfl, _, _, hnc, _⟩
  · simp [Builtin.append_, run_underlying ht, sizeOf, typeInfo, hi, Builtin.lenOf, Builtin.firstCells]
  · simp [Builtin.append_, run_underlying ht, sizeOf, typeInfo, hi, Builtin.lenOf, Builtin.firstCells, hnc, storeCells]
theorem wpList_append_none_c {w : World} {ops : Array Oper} {rest : List Oper} {o : Oper} {a : Act} {Q : Exit → Act → World → Prop} (hgd : o.guard = none) (s x : Operand) (t : TypeId)
    (ho : o.op = .call { callee := .builtin .append, args := #[s, x], argTypes := #[t, t] })
    (base : Nat) (e : TypeId) (i : TypeInfo) (size c : Nat) (ht : Tryz.prog.underlying t = some (.slice e)) (hi : Tryz.prog.info? e = some i)
    (v : Value) (n : Nat) (xs : List Value) (hs : a.eval s = v) (hown : w.ownsRow base e size v n xs) (hx : a.eval x = .slice none 0 c)
    (h : wpList Tryz.prog ops Q rest (a.put o.dst v) w) : wpList Tryz.prog ops Q (o :: rest) a w := by
  refine wpList_plain hgd fun K hK => ?_; have hrun := run_append_none_c (w := w) base t o.type e i size c ht hi v n xs hown; unfold Oper.wp
  simp [execOp, ho, resolve, invoke, builtin, hs, hx, hrun, Result.andThen]
  exact hK _ _ h

def QuoPost (m n : Nat) (w : World) (e : Ending) (w' : World) : Prop := ∃ v1 v2, e = .returned (.tuple #[v1, v2]) ∧ BigV w' v1 (m / n) ∧ BigV w' v2 (m % n) ∧ Below w.heap.size w w'

theorem dk_shift {R a n k : Nat} (hR : R < n) (ha : a < 10000) (hn : (dk n).length ≤ k) : (dk (a + 10000 * R)).length ≤ k + 1 := by
  refine Dg.dg_le b10k ?_; have h1 := Dg.dg_lt b10k n; have h2 : (10000 : Nat) ^ (dk n).length ≤ 10000 ^ k := Nat.pow_le_pow_right (by decide) hn; rw [Nat.pow_succ]; have h3 : n ≤ 10000 ^ k := Nat.le_trans (Nat.le_of_lt h1) h2
  omega
theorem quo_step {v n R a lo d : Nat} (h : v * n + R = d) (hq : n * lo ≤ a + 10000 * R) : (lo + 10000 * v) * n + (a + 10000 * R - n * lo) = a + 10000 * d := by
  rw [← h, Nat.add_mul, Nat.mul_comm lo n, Nat.mul_assoc, Nat.mul_add]; omega
theorem pre_cells {w : World} {ad : Addr} {l : List Nat} (h : Kds w (some ad) l) : ∀ j u, (ck l)[j]? = some u → w.cell? (ad.add j) = some u := by
  intro j u hu; obtain ⟨b, off, e, hc⟩ := h j u hu
  injection e with e
  subst e; rw [Addr.add_lit]; exact hc
theorem ck_one (l : List Nat) : ∀ u ∈ ck l, u.oneCell' = true := by
  intro u hu; obtain ⟨x, -, rfl⟩ := List.mem_map.1 hu
  rfl
theorem wpList_append_big {w : World} {ops : Array Oper} {rest : List Oper} {o : Oper} {a : Act} {Q : Exit → Act → World → Prop} (hgd : o.guard = none) (s x : Operand)
    (ho : o.op = .call { callee := .builtin .append, args := #[s, x], argTypes := #[37, 37] })
    (base : Nat) (v : Value) (n : Nat) (xs : List Value) (hs : a.eval s = v) (hown : w.ownsRow base 3 1 v n xs) (vr : Value) (R : Nat) (hx : a.eval x = vr) (hR : BigV w vr R)
    (h63 : n + (dk R).length ≤ 1048576) (hbase : base ≤ w.heap.size)
    (h : ∀ v' w', w'.ownsRow base 3 1 v' (n + (dk R).length) (xs ++ ck (dk R)) → w.grownBy w' v.ownBlock → wpList Tryz.prog ops Q rest (a.put o.dst v') w') : wpList Tryz.prog ops Q (o :: rest) a w := by
  obtain ⟨i0, hi0, hz0, hz1, hz2⟩ := info_parts int_info; obtain ⟨A, c, rfl, hc1, hc2, hA⟩ := hR
  cases A with
  | none =>
    have h0 : (dk R).length = 0 := by
      rcases Nat.eq_zero_or_pos (dk R).length with e | e
      · exact e
      · obtain ⟨b, off, e2, -⟩ := hA.get e
        cases e2
    have h1 : dk R = [] := List.length_eq_zero_iff.1 h0; rw [h0] at hx; refine wpList_append_none_c hgd s x _ ho base _ i0 1 c Tryz.underlying37 hi0 v n xs hs hown hx ?_; refine h v w ?_ (World.grownBy.refl _ _); rw [h1]; simpa [ck] using hown
  | some ad =>
    refine wpList_append_own_at _ hgd s x 37 ho base 3 i0 _ 1 8 Tryz.underlying37 hi0 hz0 hz1 hz2 rfl (by decide) v n xs hs hown ad (dk R).length c (ck (dk R)) hx (by simp [ck]) (pre_cells hA) (ck_one _) (by unfold maxLen; omega) (by omega) hbase ?_; intro v' w' h2 h3 _ _; exact h v' w' h2 h3

theorem BigV.set {w : World} {v : Value} {n g i : Nat} {u : Value} (h : BigV w v n) (hn : v.ownBlock ≠ some g) : BigV (w.setCell ⟨g, i, none⟩ u) v n := by
  obtain ⟨A, c, rfl, h1, h2, h3⟩ := h; refine ⟨A, c, rfl, h1, h2, ?_⟩; intro j x hx; obtain ⟨b, off, e, hc⟩ := h3 j x hx; subst e; refine ⟨b, off, rfl, ?_⟩; have hbg : g ≠ b := fun e => hn (by subst e; rfl); unfold World.cell? at hc ⊢; rw [Below.heap_setCell w ⟨g, i, none⟩ u b (fun e => hbg e.symm)]; exact hc

theorem divide_ref {x1 x2 : Value} {m n : Nat} (w : World) (h1 : BigV w x1 m) (h2 : BigV w x2 n) (hm : (dk m).length ≤ 100000) (hn : (dk n).length ≤ 100000) (hn0 : 0 < n) :
    Calls Tryz.prog 61 #[x1, x2] w (QuoPost m n w) := by
  obtain ⟨A, c, rfl, hc1, hc2, hA⟩ := h1; have HB2 := Lib.hid h2; obtain ⟨i0, hi0, hz0, hz1, hz2⟩ := info_parts int_info; unfold maxLen at hc2; clear h2; have lm : Hid (Dg.val 10000 (dk m) = m) := Dg.val_dg b10k m; have HN0 := Lib.hid hn0; have HNL := Lib.hid hn; have mk : ∀ W : World, (Instr.makeSlice 37 (.int .i64 (((dk m).length : Int))) (.int .i64 (((dk m).length : Int)))).run Tryz.prog W = .ok (.slice (some ⟨W.heap.size, 0, none⟩) (dk m).length (dk m).length) (W.alloc (.cells (Array.replicate (dk m).length (.int .i64 0)) 3)) := fun W => run_make_ks (dk m).length (by omega) W; have hown0 := own_ks w (dk m).length; have hb0 : Below w.heap.size w (w.alloc (.cells (Array.replicate (dk m).length (.int .i64 0)) 3)) := (Below.refl _ _).alloc (Nat.le_refl _) _
  go_enter Tryz.func61, Tryz.ntmps61
  go_wp2_with fail
  generalize (w.alloc (.cells (Array.replicate (dk m).length (.int .i64 0)) 3)) = wa at hown0 hb0 ⊢
  go_loopg [7, 8] (dk m).length (fun q s7 s8 wr => ∃ (k R : Nat) (z : Int) (Q : List Nat), q = k ∧ k ≤ (dk m).length ∧ s8 = .int .i64 z ∧ z = (k : Int) - 1 ∧ BigV wr s7 R ∧ R < n ∧ Q.length = (dk m).length ∧ Hid (Dg.Dig 10000 Q) ∧ Hid (Dg.val 10000 (Q.drop k) * n + R = Dg.val 10000 ((dk m).drop k)) ∧ Own wr w.heap.size 3 (ck Q) ∧ Below w.heap.size w wr)
  case atStart => exact ⟨_, 0, _, _, rfl, Nat.le_refl _, rfl, rfl, BigV.zero _, hn0, by simp, dig_zerosk _, by show _ = _; rw [List.drop_length, List.drop_of_length_le (by simp)]; simp [Dg.val], hown0, hb0⟩
  case round =>
    clear hown0 hb0 hn0; obtain ⟨k, R, z, Q, hq, hk, rfl, hz, hR, hRn, hQ, HDQ, HV, hown, hbw⟩ := hrel; have HQ := Lib.hid hq; clear hq
    have HRN := Lib.hid hRn; have HQL := Lib.hid hQ; clear hRn
    rcases Nat.eq_zero_or_pos k with rfl | hk0
    · obtain rfl : z = -1 := by omega
      clear hz; have HF : Hid (Dg.val 10000 Q = m / n ∧ R = m % n) := by
        show _ ∧ _
        have h := HV.out; rw [List.drop_zero, List.drop_zero, lm.out] at h; have h2 := HRN.out; have e1 : m / n = Dg.val 10000 Q := by
          rw [← h, Nat.mul_comm, Nat.mul_add_div HN0.out, Nat.div_eq_of_lt h2, Nat.add_zero]
        have e2 : m % n = R := by
          rw [← h, Nat.mul_comm, Nat.mul_add_mod, Nat.mod_eq_of_lt h2]
        exact ⟨e1.symm, e2.symm⟩
      have HR := Lib.hid hR; clear hR; have hQ2 : Q.length ≤ (dk m).length := by omega
      clear hQ
      go_wp2_with fail
      refine (trim_nat _ (dk m).length Q _ (n := m / n) (own_kds hown) HQL.out.symm hQ2 (by unfold maxLen; omega) HDQ.out HF.out.1).mono ?_; rintro e w' ⟨v, rfl, hv, rfl⟩
      go_wp2
      go_ret2
      exact ⟨v, u7, rfl, hv, by rw [← HF.out.2]; exact HR.out, hbw⟩
    · obtain ⟨k1, rfl⟩ : ∃ k1, k = k1 + 1 := ⟨k - 1, by omega⟩; obtain rfl : z = (k1 : Int) := by omega
      clear hz; have hka : k1 < (dk m).length := by omega
      have hkb : k1 < Q.length := by omega
      obtain ⟨b0, off, rfl, c1⟩ := (hA.below hbw).get hka; have ha := dk_get_lt m k1 hka; have HVM : Hid (Dg.val 10000 ((dk m).drop k1) = (dk m)[k1] + 10000 * Dg.val 10000 ((dk m).drop (k1 + 1))) := by
        show _ = _
        rw [List.drop_eq_getElem_cons hka]; rfl
      generalize (dk m)[k1] = a at c1 ha HVM; have hRl : Hid ((dk R).length ≤ 100000) := Nat.le_trans (Dg.dg_mono b10k (Nat.le_of_lt HRN.out)) HNL.out; have HSL : Hid ((dk (a + 10000 * R)).length ≤ 100001) := dk_shift HRN.out ha HNL.out; have HR := Lib.hid hR; clear hR; have hlit := World.ownsRow_lit (base := wr.heap.size) (e := 3) (size := 1) wr #[.int .i64 (a : Int)] 1 (Nat.le_refl _) (by unfold maxLen; omega) rfl
      go_wp2_with (at_builtin; refine wpList_append_big rfl (.tmp 26) (.tmp 27) rfl wr.heap.size _ 1 _ rfl hlit _ R rfl (HR.out.below ((Below.refl _ _).alloc (Nat.le_refl _) _)) (by have := hRl.out; omega) (by rw [size1]; omega) ?_)
      intro v' w' hown' hgrow; have hbw1 : Below wr.heap.size wr w' := ((Below.refl _ _).alloc (Nat.le_refl _) _).grown hgrow (by rw [size1]; omega) (own_lt hlit); have hblk := own_lt hown'; obtain ⟨A2, cc2, rfl, hn1, hn2⟩ := own_form hown'; have HW : Hid (Kds w' A2 (a :: dk R)) := Rd.of_own hown'; clear hgrow hown' hlit c1
      go_wp2_with fail
      have HT := trim_any A2 cc2 (a :: dk R) w' HW.out (by simp; omega) hn2; rw [show (a :: dk R).length = 1 + (dk R).length by simp; omega] at HT; refine HT.mono ?_; clear HT; rintro e w3 ⟨rfl, rfl⟩; have hvr : BigV w' (.slice A2 (Dg.cut (a :: dk R)).length cc2) (a + 10000 * R) := by
        have hd : Dg.Dig 10000 (a :: dk R) := by
          intro x hx
          rcases List.mem_cons.1 hx with e | e
          · omega
          · exact dk_lt R x e
        have := BigV.of_cut HW.out hd (by simp; omega) hn2; have e : Dg.val 10000 (a :: dk R) = a + 10000 * R := by
          show a + 10000 * Dg.val 10000 (dk R) = _
          rw [show Dg.val 10000 (dk R) = R from Dg.val_dg b10k R]
        rw [e] at this; exact this
      have hnb : (Value.slice A2 (Dg.cut (a :: dk R)).length cc2).ownBlock ≠ some w.heap.size := by
        intro e; have h1 := hblk w.heap.size (by cases A2 with | none => cases e | some ad => exact e); have h2 := hown.lt
        omega
      have HNB := Lib.hid hnb; clear HW hblk hnb; generalize (Value.slice A2 (Dg.cut (a :: dk R)).length cc2) = vr at hvr HNB ⊢; obtain ⟨R', hR'⟩ : ∃ R', R' = a + 10000 * R := ⟨_, rfl⟩; rw [← hR'] at hvr HSL; have HR' := Lib.hid hR'; have hlt0 : Hid (R' < n * 10000) := by
        show _ < _
        have := HRN.out
        omega
      clear hR'; have hown1 := hown.below hbw1 hown.lt; obtain ⟨wo, rfl⟩ : ∃ wo, wo = wr := ⟨_, rfl⟩; have hbw2 := hbw.trans (hbw1.mono hbw.size)
      go_wp2_with fail
      go_loopg [9, 10] 10000 (fun q s9 s10 wx => ∃ lo hi : Nat, q = hi - lo ∧ s9 = .int .i64 lo ∧ s10 = .int .i64 hi ∧ lo < hi ∧ hi ≤ 10000 ∧ Hid (n * lo ≤ R') ∧ Hid (R' < n * hi) ∧ Below w'.heap.size w' wx)
      case atStart => exact ⟨0, 10000, rfl, rfl, rfl, by omega, Nat.le_refl _, by show _ ≤ _; omega, hlt0, Below.refl _ _⟩
      case round =>
        obtain ⟨lo, hi, hq2, rfl, rfl, hlh, hhi, HLO, HHI, hbx⟩ := hrel; have HQ2 := Lib.hid hq2; clear hq2
        have hwx : Below w.heap.size w wr := hbw2.trans (hbx.mono hbw2.size)
        by_cases hgt : 1 < hi - lo
        · obtain ⟨md, hmd⟩ : ∃ md, md = (lo + hi) / 2 := ⟨_, rfl⟩; have g1 : ((lo : Int) + hi) / 2 = (md : Int) := by omega
          have hm1 : lo < md := by omega
          have hm2 : md < hi := by omega
          have hgi : (1 : Int) < (hi : Int) - lo := by omega
          clear hmd hgt; have hmdl : (dk md).length ≤ 1 := Dg.dg_le b10k (by omega); have HML := Lib.hid hmdl; clear hmdl
          go_wp2_with fail
          refine (of64_ref md (by omega) _).mono ?_; rintro e w4 ⟨vm, rfl, hvm, hb4⟩
          go_wp2_with fail
          refine (times_ref _ (HB2.out.below (hwx.trans (hb4.mono hwx.size))) hvm (by have := HNL.out; omega) (by have := HML.out; omega)).mono ?_; rintro e w5 ⟨vt, rfl, hvt, hb5⟩; have hbx5 : Below w'.heap.size w' w5 := (hbx.trans (hb4.mono hbx.size)).trans (hb5.mono (hbx.trans (hb4.mono hbx.size)).size)
          go_wp2_with fail
          refine (less_ref _ hvt (hvr.below hbx5)).mono ?_; rintro e w6 ⟨rfl, hb6⟩; have hbx6 : Below w'.heap.size w' w6 := hbx5.trans (hb6.mono hbx5.size)
          by_cases hle : n * md ≤ R'
          · have hci : cmpI (n * md) R' ≤ 0 := by
              unfold cmpI
              split
              · decide
              · split
                · decide
                · omega
            have HLE := Lib.hid hle; clear hle; generalize cmpI (n * md) R' = ci at hci ⊢
            go_wp2_with fail
            go_roundg (hi - md)
            case measure => have := HQ2.out; omega
            case rel => exact ⟨md, hi, rfl, rfl, rfl, hm2, hhi, HLE, HHI, hbx6⟩
          · have hci : 0 < cmpI (n * md) R' := by rw [cmpI_gt (by omega)]; decide
            have HLE : Hid (R' < n * md) := by show _ < _; omega
            clear hle; generalize cmpI (n * md) R' = ci at hci ⊢
            go_wp2_with fail
            go_roundg (md - lo)
            case measure => have := HQ2.out; omega
            case rel => exact ⟨lo, md, rfl, rfl, rfl, hm1, by omega, HLO, HLE, hbx6⟩
        · obtain rfl : hi = lo + 1 := by omega
          have hown2 := hown1.below hbx hown1.lt; have hcell := own_kcell hown2 hkb; have hfr := hown2.frozen k1; have hlol : (dk lo).length ≤ 1 := Dg.dg_le b10k (by omega); have HLL := Lib.hid hlol; have hlo1 : lo < 10000 := by omega
          clear hlol hgt
          go_wp2_with fail
          have hown3 := own_setk hown2 (i := k1) (x := lo) (z := (lo : Int)) rfl; have hwx3 : Below w.heap.size w (wr.setCell ⟨w.heap.size, k1, none⟩ (.int .i64 lo)) := hwx.setCell (Nat.le_refl _) _; have hvr3 : BigV (wr.setCell ⟨w.heap.size, k1, none⟩ (.int .i64 lo)) vr R' := by
            exact hvr.below hbx |>.set HNB.out
          generalize (wr.setCell ⟨w.heap.size, k1, none⟩ (.int .i64 lo)) = w8 at hown3 hwx3 hvr3 ⊢; refine (of64_ref lo (by omega) _).mono ?_; rintro e w4 ⟨vm, rfl, hvm, hb4⟩
          go_wp2_with fail
          refine (times_ref _ (HB2.out.below (hwx3.trans (hb4.mono hwx3.size))) hvm (by have := HNL.out; omega) (by have := HLL.out; omega)).mono ?_; rintro e w5 ⟨vt, rfl, hvt, hb5⟩; have hbx5 : Below w8.heap.size w8 w5 := hb4.trans (hb5.mono hb4.size)
          go_wp2_with fail
          refine (minus_ref _ (hvr3.below hbx5) hvt (by have := HSL.out; omega) HLO.out).mono ?_; rintro e w6 ⟨v6, rfl, hv6, hb6⟩; have hbx6 : Below w8.heap.size w8 w6 := hbx5.trans (hb6.mono hbx5.size)
          go_wp2_with fail
          go_roundg k1
          case measure => have := HQ.out; omega
          case rel =>
            refine ⟨k1, R' - n * lo, _, Q.set k1 lo, rfl, by omega, by go_num, rfl, hv6, ?_, by rw [List.length_set]; exact HQL.out, Dg.dig_set HDQ.out hlo1, ?_, hown3.below hbx6 hown3.lt, hwx3.trans (hbx6.mono hwx3.size)⟩
            · have := HHI.out; have hlo2 := HLO.out; rw [Nat.mul_add, Nat.mul_one] at this
              omega
            · show _ = _
              rw [HVM.out, ← HV.out]; have e : (Q.set k1 lo).drop k1 = lo :: Q.drop (k1 + 1) := by
                rw [List.drop_eq_getElem_cons (by rw [List.length_set]; exact hkb), List.getElem_set_self, List.drop_set_of_lt (by omega)]
              rw [e]; have h := HLO.out; rw [HR'.out] at h ⊢
              show (lo + 10000 * Dg.val 10000 (Q.drop (k1 + 1))) * n + _ = _
              exact quo_step rfl h
open Go.RowKit

theorem gcd_ref {v1 v2 : Value} {m n : Nat} (w : World) (h1 : BigV w v1 m) (h2 : BigV w v2 n) (hm : (dk m).length ≤ 100000) (hn : (dk n).length ≤ 100000) :
    Calls Tryz.prog 60 #[v1, v2] w fun e w' => ∃ v, e = .returned v ∧ BigV w' v (Nat.gcd m n) ∧ Below w.heap.size w w' := by
  go_enter Tryz.func60, Tryz.ntmps60
  go_wp2_with fail
  go_loopg [0, 1] n (fun q s0 s1 wr => ∃ a b : Nat, q = b ∧ BigV wr s0 a ∧ BigV wr s1 b ∧ (dk a).length ≤ 100000 ∧ (dk b).length ≤ 100000 ∧ Hid (Nat.gcd a b = Nat.gcd m n) ∧ Below w.heap.size w wr)
  case atStart => exact ⟨m, n, rfl, h1, h2, hm, hn, rfl, Below.refl _ _⟩
  case round =>
    clear h1 h2 hm hn; obtain ⟨a, b, hq, h1, h2, hm, hn, HG, hbw⟩ := hrel; have HQ := Lib.hid hq; clear hq
    have H1 := Lib.hid h1; have H2 := Lib.hid h2; obtain ⟨A2, c2, rfl, hc1, hc2, -⟩ := h2; unfold maxLen at hc2
    rcases Nat.eq_zero_or_pos b with rfl | hb0
    · have hz : (dk 0).length = 0 := rfl; rw [hz]; have HF : Hid (a = Nat.gcd m n) := by show a = _; rw [← HG.out, Nat.gcd_zero_right]
      clear h1 hz hc1 H2
      go_wp2
      go_ret
      exact ⟨_, rfl, by rw [← HF.out]; exact H1.out, hbw⟩
    · have hl : 0 < (dk b).length := by
        have : dk b ≠ [] := fun e => by have := (Dg.dg_nil b10k).1 e; omega
        exact List.length_pos_iff.2 this
      have hmod : a % b < b := Nat.mod_lt _ hb0; have hml : (dk (a % b)).length ≤ 100000 := Nat.le_trans (Dg.dg_mono b10k (Nat.le_of_lt hmod)) hn; have HG2 : Hid (Nat.gcd b (a % b) = Nat.gcd m n) := by
        show _ = _
        rw [← HG.out, Nat.gcd_comm, ← Nat.gcd_rec, Nat.gcd_comm]
      clear h1
      go_wp2_with fail
      refine (divide_ref _ H1.out H2.out hm hn hb0).mono ?_; rintro e w1 ⟨x1, x2, rfl, hx1, hx2, hb1⟩; have HB := H2.out.below hb1; clear H1 H2 HG
      go_wp2
      go_roundg (a % b)
      case measure => have := HQ.out; omega
      case rel => exact ⟨b, a % b, rfl, HB, hx2, hn, hml, HG2, hbw.trans (hb1.mono hbw.size)⟩


theorem validr_any (s : ByteArray) (w : World) (hs : s.size ≤ maxLen) :
    Calls Tryz.prog 85 #[.string s] w (ValidPost s w) := by
  unfold maxLen at hs
  by_cases h0 : s.size = 0
  · have hno : Hid (¬ VLD s) := fun h => by have := h.2; obtain ⟨L, h2, h3⟩ := this; have := h2.2.1; rw [← bsize h3] at this; omega
    have b0 : ((s.size : Int) == 0) = true := beq_iff_eq.2 (by omega)
    go_enter Tryz.func85, Tryz.ntmps85
    go_wp2
    go_ret
    exact ⟨⟨false, rfl, by simp; exact hno.out⟩, rfl⟩
  have b0 : ((s.size : Int) == 0) = false := beq_eq_false_iff_ne.2 (by omega); have h0' : 0 < s.size := by omega
  clear h0
  by_cases h1 : 20000 < s.size
  · have hno : Hid (¬ VLD s) := fun h => by have := h.1; omega
    go_enter Tryz.func85, Tryz.ntmps85
    go_wp2
    go_ret
    exact ⟨⟨false, rfl, by simp; exact hno.out⟩, rfl⟩
  have key : (1 < s.size → (s[0]'h0').toNat ≠ 48) → Calls Tryz.prog 85 #[.string s] w (ValidPost s w) := by
    intro hh; have HH := Lib.hid hh; have h1' : s.size ≤ 20000 := by omega
    have d1 : ((((s[0]'h0').toNat : Nat) : Int) == 48) = true → ¬ 1 < s.size := by
      intro h h2; have := hh h2; simp at h; omega
    by_cases hz : 1 < s.size
    · have b1 : ((((s[0]'h0').toNat : Nat) : Int) == 48) = false := by have := hh hz; simp; omega
      have b2 : decide ((1 : Int) < s.size) = true := decide_eq_true (by omega); have b3 : decide (1 < s.size) = true := decide_eq_true hz; clear hh d1
      go_enter Tryz.func85, Tryz.ntmps85
      go_wp2_with fail
      go_loop [3] (fun v => ∃ k : Nat, k ≤ s.size ∧ v = .int .i64 k ∧ Hid (DigTo s k)) (fun v => s.size - (intOf v).toNat)
      case atStart => exact ⟨0, Nat.zero_le _, rfl, fun i h hi => absurd hi (Nat.not_lt_zero _)⟩
      case round =>
        obtain ⟨k, hk, rfl, HD⟩ := hrel
        by_cases hlt : k < s.size
        · by_cases h2 : (s[k]'hlt).toNat < 48
          · have hno : Hid (¬ VLD s) := fun h => by have := (vld_dig h k hlt hlt).1; omega
            go_wp2
            go_ret
            exact ⟨⟨false, rfl, by simp; exact hno.out⟩, rfl⟩
          · by_cases h3 : 57 < (s[k]'hlt).toNat
            · have hno : Hid (¬ VLD s) := fun h => by have := (vld_dig h k hlt hlt).2; omega
              go_wp2
              go_ret
              exact ⟨⟨false, rfl, by simp; exact hno.out⟩, rfl⟩
            · have HN : Hid (DigTo s (k + 1)) := by
                show DigTo s (k + 1)
                intro i hi hik
                by_cases e : i = k
                · subst e; omega
                · exact HD.out i hi (by omega)
              go_wp2
              go_round
              case rel => exact ⟨k + 1, by omega, by go_num, HN⟩
              case measure => simp [intOf]; omega
        · have hyes : Hid (VLD s) := vld_of h0' h1' HH.out fun i hi _ => HD.out i hi (by omega)
          go_wp2
          go_ret
          exact ⟨⟨true, rfl, by simp; exact hyes.out⟩, rfl⟩
    · have b2 : decide ((1 : Int) < s.size) = false := decide_eq_false (by omega); have b3 : decide (1 < s.size) = false := decide_eq_false hz; clear hh d1
      rcases Bool.eq_false_or_eq_true ((((s[0]'h0').toNat : Nat) : Int) == 48) with b1 | b1
      · go_enter Tryz.func85, Tryz.ntmps85
        go_wp2_with fail
        go_loop [3] (fun v => ∃ k : Nat, k ≤ s.size ∧ v = .int .i64 k ∧ Hid (DigTo s k)) (fun v => s.size - (intOf v).toNat)
        case atStart => exact ⟨0, Nat.zero_le _, rfl, fun i h hi => absurd hi (Nat.not_lt_zero _)⟩
        case round =>
          obtain ⟨k, hk, rfl, HD⟩ := hrel
          by_cases hlt : k < s.size
          · by_cases h2 : (s[k]'hlt).toNat < 48
            · have hno : Hid (¬ VLD s) := fun h => by have := (vld_dig h k hlt hlt).1; omega
              go_wp2
              go_ret
              exact ⟨⟨false, rfl, by simp; exact hno.out⟩, rfl⟩
            · by_cases h3 : 57 < (s[k]'hlt).toNat
              · have hno : Hid (¬ VLD s) := fun h => by have := (vld_dig h k hlt hlt).2; omega
                go_wp2
                go_ret
                exact ⟨⟨false, rfl, by simp; exact hno.out⟩, rfl⟩
              · have HN : Hid (DigTo s (k + 1)) := by
                  show DigTo s (k + 1)
                  intro i hi hik
                  by_cases e : i = k
                  · subst e; omega
                  · exact HD.out i hi (by omega)
                go_wp2
                go_round
                case rel => exact ⟨k + 1, by omega, by go_num, HN⟩
                case measure => simp [intOf]; omega
          · have hyes : Hid (VLD s) := vld_of h0' h1' HH.out fun i hi _ => HD.out i hi (by omega)
            go_wp2
            go_ret
            exact ⟨⟨true, rfl, by simp; exact hyes.out⟩, rfl⟩
      · go_enter Tryz.func85, Tryz.ntmps85
        go_wp2_with fail
        go_loop [3] (fun v => ∃ k : Nat, k ≤ s.size ∧ v = .int .i64 k ∧ Hid (DigTo s k)) (fun v => s.size - (intOf v).toNat)
        case atStart => exact ⟨0, Nat.zero_le _, rfl, fun i h hi => absurd hi (Nat.not_lt_zero _)⟩
        case round =>
          obtain ⟨k, hk, rfl, HD⟩ := hrel
          by_cases hlt : k < s.size
          · by_cases h2 : (s[k]'hlt).toNat < 48
            · have hno : Hid (¬ VLD s) := fun h => by have := (vld_dig h k hlt hlt).1; omega
              go_wp2
              go_ret
              exact ⟨⟨false, rfl, by simp; exact hno.out⟩, rfl⟩
            · by_cases h3 : 57 < (s[k]'hlt).toNat
              · have hno : Hid (¬ VLD s) := fun h => by have := (vld_dig h k hlt hlt).2; omega
                go_wp2
                go_ret
                exact ⟨⟨false, rfl, by simp; exact hno.out⟩, rfl⟩
              · have HN : Hid (DigTo s (k + 1)) := by
                  show DigTo s (k + 1)
                  intro i hi hik
                  by_cases e : i = k
                  · subst e; omega
                  · exact HD.out i hi (by omega)
                go_wp2
                go_round
                case rel => exact ⟨k + 1, by omega, by go_num, HN⟩
                case measure => simp [intOf]; omega
          · have hyes : Hid (VLD s) := vld_of h0' h1' HH.out fun i hi _ => HD.out i hi (by omega)
            go_wp2
            go_ret
            exact ⟨⟨true, rfl, by simp; exact hyes.out⟩, rfl⟩
  by_cases hh : 1 < s.size → (s[0]'h0').toNat ≠ 48
  · exact key hh
  · have hh2 : 1 < s.size ∧ (s[0]'h0').toNat = 48 := by
      by_cases g : 1 < s.size
      · refine ⟨g, ?_⟩
        by_cases g2 : (s[0]'h0').toNat = 48
        · exact g2
        · exact absurd (fun _ => g2) hh
      · exact absurd (fun g3 => absurd g3 g) hh
    obtain ⟨g1, g2⟩ := hh2; have hno : Hid (¬ VLD s) := fun h => vld_head h h0' g1 g2; have b1 : ((((s[0]'h0').toNat : Nat) : Int) == 48) = true := by rw [g2]; rfl
    have b2 : decide ((1 : Int) < s.size) = true := decide_eq_true (by omega); have b3 : decide (1 < s.size) = true := decide_eq_true g1; clear hh key g2
    go_enter Tryz.func85, Tryz.ntmps85
    go_wp2
    go_ret
    exact ⟨⟨false, rfl, by simp; exact hno.out⟩, rfl⟩
theorem validr_yes {s : ByteArray} (w : World) (h : VLD s) : Calls Tryz.prog 85 #[.string s] w fun e w' => e = .returned (.bool true) ∧ w = w' := by
  refine (validr_any s w (by have := h.1; unfold maxLen; omega)).mono ?_; rintro e w' ⟨⟨b, rfl, hb⟩, rfl⟩; rw [hb.2 h]; exact ⟨rfl, rfl⟩
end Go.Proofs.YtocknfhgjmaibaaGreatDoor
