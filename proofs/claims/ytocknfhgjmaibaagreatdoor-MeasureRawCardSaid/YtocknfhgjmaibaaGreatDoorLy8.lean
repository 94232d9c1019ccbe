/- Parts of the proof: Ly8. No condition of its own. -/
import Derived.Test.YtocknfhgjmaibaaGreatDoorLa8
import Derived.Test.YtocknfhgjmaibaaGreatDoorRd8
import Derived.Test.YtocknfhgjmaibaaGreatDoorRe8
import Derived.Test.YtocknfhgjmaibaaGreatDoorRs8
set_option linter.unusedSimpArgs false
set_option linter.unusedVariables false
set_option linter.unusedSectionVars false
namespace Go.Proofs.YtocknfhgjmaibaaGreatDoor
open Go.RowKit Dg

def Both3 (f g : FuncId) (args : Array Value) : Prop := ∃ (n : Bool) (s t : ByteArray) (k : Int), RetT f args (.tuple #[.agg #[.bool n, .string s, .string t], .int .i64 k]) ∧ RetT g args (.tuple #[.agg #[.bool n, .string s, .string t], .int .i64 k])
def Both6 (f g : FuncId) (args : Array Value) : Prop := ∃ (n : Bool) (s t : ByteArray) (m : Bool) (u v : ByteArray) (k : Int), RetT f args (.tuple #[.agg #[.bool n, .string s, .string t, .bool m, .string u, .string v], .int .i64 k]) ∧ RetT g args (.tuple #[.agg #[.bool n, .string s, .string t, .bool m, .string u, .string v], .int .i64 k])
theorem both_q {P Q : Nat} {f g : FuncId} {args : Array Value} (h1 : ∀ w, Tab w → Calls Tryz.prog f args w fun e w' => QRes P Q e ∧ Below w.heap.size w w') (h2 : ∀ w, Tab w → Calls Tryz.prog g args w fun e w' => QRes P Q e ∧ Below w.heap.size w w') : Both3 f g args := by
  obtain ⟨n, s, t, k, hend, -⟩ := qres_one P Q; exact ⟨n, s, t, k, fun w ht => (h1 w ht).mono fun e w' ⟨h, hb⟩ => ⟨hend e h, hb⟩, fun w ht => (h2 w ht).mono fun e w' ⟨h, hb⟩ => ⟨hend e h, hb⟩⟩
theorem ms_both {a p q n : Nat} (hv : VC a p q n) : Both3 14 15 #[CV a p q n] := by
  have h1 := hv.pn; have h2 := hv.qn; have h3 := hv.n2; have h4 := hv.ap; have h5 := hv.aq; have h6 := hv.pq; have h7 := hv.n1
  have q0 : ∀ {P Q : Nat}, Q = 0 → ∀ e, QRes P Q e → e = .returned (.tuple #[Rat0, .int .i64 25]) := by
    rintro P Q h e (⟨_, h9⟩ | ⟨h9, _⟩)
    · exact h9
    · omega
  have z1 : ∀ x : Nat, x = 0 → prodN [x] = 0 := by intro x h; rw [h]; rfl
  rcases Nat.eq_zero_or_pos p with hp | hp
  · obtain ⟨ny, sy, ty, ky, hend, -⟩ := qres_one (prodN [a]) (prodN [q]); exact ⟨_, _, _, _, fun w ht => ms_no1 hv (q0 (z1 p hp)) w ht, fun w _ => msr_no1 _ _ _ _ hv (q0 (z1 p hp)) hend w⟩
  · have sm : ∀ x, x ≤ 4294967296 → prodN [x] < 10 ^ 70 := fun x hx => by
      simp only [prodN, Nat.mul_one]
      exact Nat.lt_of_le_of_lt hx (by decide)
    have hPp : 0 < prodN [p] := by simp only [prodN, Nat.mul_one]; exact hp
    have fX := few_quo hPp (sm a (by omega)) (sm p (by omega)); have qX := qres_yes hPp (fX.ok (by decide))
    rcases Nat.eq_zero_or_pos q with hq | hq
    · exact ⟨_, _, _, _, fun w ht => ms_no2 _ _ _ hv qX (q0 (z1 q hq)) w ht, fun w _ => msr_no2 _ _ _ hv qX (q0 (z1 q hq)) w⟩
    · have hPq : 0 < prodN [q] := by simp only [prodN, Nat.mul_one]; exact hq
      have fY := few_quo hPq (sm a (by omega)) (sm q (by omega)); have qY := qres_yes hPq (fY.ok (by decide)); have c1 : RetV 30 #[RV (rat false (prodN [a]) (prodN [q])), RV (rat false (prodN [a]) (prodN [p]))] (.int .i64 (cmpR (rat false (prodN [a]) (prodN [q])) (rat false (prodN [a]) (prodN [p])))) := fun w => rcmp_yes (fY.ok (by decide)) (fX.ok (by decide)) w; have c2 := rcmpr_yes (fY.ok (by decide)) (fX.ok (by decide))
      by_cases hz : cmpR (rat false (prodN [a]) (prodN [q])) (rat false (prodN [a]) (prodN [p])) < 0
      · exact ⟨_, _, _, _, fun w ht => ms_cmp _ _ _ _ _ _ _ _ _ _ hv qX qY c1 ⟨fun _ => ⟨rfl, rfl, rfl⟩, fun h => absurd hz (by omega)⟩ w ht, fun w _ => msr_cmp _ _ _ _ _ _ _ _ _ _ hv qX qY c2 ⟨fun _ => ⟨rfl, rfl, rfl⟩, fun h => absurd hz (by omega)⟩ w⟩
      · exact ⟨_, _, _, _, fun w ht => ms_cmp _ _ _ _ _ _ _ _ _ _ hv qX qY c1 ⟨fun h => absurd h hz, fun _ => ⟨rfl, rfl, rfl⟩⟩ w ht, fun w _ => msr_cmp _ _ _ _ _ _ _ _ _ _ hv qX qY c2 ⟨fun h => absurd h hz, fun _ => ⟨rfl, rfl, rfl⟩⟩ w⟩
theorem ts_val {a p q n : Nat} (ha : 0 < a) (hn : 0 < n) : (rat false a 1 - rat false (prodN [p, q]) (prodN [n])) * (rat false a 1 - rat false (prodN [p, q]) (prodN [n])) / rat false a 1 = rat false (prodN [((n : Int) * (a : Int) - (p : Int) * (q : Int)).natAbs, ((n : Int) * (a : Int) - (p : Int) * (q : Int)).natAbs]) (prodN [a, n, n]) := by
  rw [rat_one', rat_quo, rat_quo]
  simp only [prodN, Nat.mul_one]
  have ha' : (0 : Rat) < (a : Rat) := Rat.natCast_pos.2 ha; have hn' : (0 : Rat) < (n : Rat) := Rat.natCast_pos.2 hn; have e1 : ((((n : Int) * (a : Int) - (p : Int) * (q : Int)).natAbs * ((n : Int) * (a : Int) - (p : Int) * (q : Int)).natAbs : Nat) : Rat) = ((n : Rat) * a - (p : Rat) * q) * ((n : Rat) * a - (p : Rat) * q) := by
    have h1 : ((((n : Int) * (a : Int) - (p : Int) * (q : Int)).natAbs * ((n : Int) * (a : Int) - (p : Int) * (q : Int)).natAbs : Nat) : Int) = ((n : Int) * (a : Int) - (p : Int) * (q : Int)) * ((n : Int) * (a : Int) - (p : Int) * (q : Int)) := Int.natAbs_mul_self; have h2 : ((((((n : Int) * (a : Int) - (p : Int) * (q : Int)).natAbs * ((n : Int) * (a : Int) - (p : Int) * (q : Int)).natAbs : Nat) : Int)) : Rat) = ((((n : Int) * (a : Int) - (p : Int) * (q : Int)) * ((n : Int) * (a : Int) - (p : Int) * (q : Int)) : Int) : Rat) := by rw [h1]
    rw [Rat.intCast_natCast] at h2; rw [h2, Rat.intCast_mul, Rat.intCast_sub, Rat.intCast_mul, Rat.intCast_mul, Rat.intCast_natCast, Rat.intCast_natCast, Rat.intCast_natCast, Rat.intCast_natCast]
  rw [e1]; rw [Rat.natCast_mul, Rat.natCast_mul, Rat.natCast_mul]; generalize (a : Rat) = x at *; generalize (n : Rat) = y at *; generalize (p : Rat) = u at *; generalize (q : Rat) = v at *; have h1 : x ≠ 0 := by grind
  have h2 : y ≠ 0 := by grind
  grind
theorem ts_both {a p q n : Nat} (hv : VC a p q n) : Both3 18 19 #[CV a p q n] := by
  have h1 := hv.pn; have h2 := hv.qn; have h3 := hv.n2; have h4 := hv.ap; have h5 := hv.aq; have h6 := hv.pq; have h7 := hv.n1
  rcases Nat.eq_zero_or_pos a with ha | ha
  · subst ha; refine ⟨_, _, _, _, fun w ht => (tsq_yes hv w ht).mono ?_, fun w _ => tsr_zero hv w⟩; rintro e w' ⟨h | ⟨h, _⟩, hb⟩
    · exact ⟨h.2, hb⟩
    · simp [prodN] at h
  · have hn : 0 < prodN [n] := by simp only [prodN, Nat.mul_one]; omega
    have hq3 : 0 < prodN [a, n, n] := by simp only [prodN, Nat.mul_one]; exact Nat.mul_pos ha (Nat.mul_pos (by omega) (by omega))
    have bpq : p * q ≤ 4294967296 * 4294967296 := Nat.mul_le_mul (by omega) (by omega); have fE : Few 20 (rat false (prodN [p, q]) (prodN [n])) := by
      simp only [prodN, Nat.mul_one]
      exact few_rat (by omega) (dec_len_le (by decide) (Nat.lt_of_le_of_lt bpq (by decide))) (dec_len_le (by decide) (by omega))
    have fO : Few 20 (rat false a 1) := one_few (by decide) (by omega); have fN : Few 20 (-(rat false (prodN [p, q]) (prodN [n]))) := by
      refine ⟨?_, ?_⟩
      · rw [Rat.neg_num, Int.natAbs_neg]; exact fE.1
      · rw [Rat.neg_den]; exact fE.2
    have fD : Few 41 (rat false a 1 - rat false (prodN [p, q]) (prodN [n])) := by
      rw [Rat.sub_eq_add_neg]; exact few_add' fO fN
    have fM : Few 82 ((rat false a 1 - rat false (prodN [p, q]) (prodN [n])) * (rat false a 1 - rat false (prodN [p, q]) (prodN [n]))) := few_mul' (by decide) fD fD; have bX : ((n : Int) * (a : Int) - (p : Int) * (q : Int)).natAbs ≤ 4294967296 * 4294967296 := by
      have b1 : n * a ≤ 4294967296 * 4294967296 := Nat.mul_le_mul (by omega) (by omega); have e1 : (n : Int) * (a : Int) = ((n * a : Nat) : Int) := by rw [Int.natCast_mul]
      have e2 : (p : Int) * (q : Int) = ((p * q : Nat) : Int) := by rw [Int.natCast_mul]
      rw [e1, e2]; omega
    have fV : Few 70 (rat false (prodN [((n : Int) * (a : Int) - (p : Int) * (q : Int)).natAbs, ((n : Int) * (a : Int) - (p : Int) * (q : Int)).natAbs]) (prodN [a, n, n])) := by
      refine few_quo hq3 ?_ ?_
      · simp only [prodN, Nat.mul_one]
        exact Nat.lt_of_le_of_lt (Nat.mul_le_mul bX bX) (by decide)
      · simp only [prodN, Nat.mul_one]
        exact Nat.lt_of_le_of_lt (Nat.mul_le_mul (show a ≤ 4294967296 by omega) (Nat.mul_le_mul (show n ≤ 4294967296 by omega) (show n ≤ 4294967296 by omega))) (by decide)
    have qV := qres_yes hq3 (fV.ok (by decide)); have hval := ts_val (p := p) (q := q) ha (show 0 < n by omega); have hE0 : (0 : Rat) ≤ rat false (prodN [p, q]) (prodN [n]) := by
      rw [rat_quo, ← Rat.not_lt, Rat.div_lt_iff (Rat.natCast_pos.2 hn), Rat.zero_mul, Rat.not_lt]; exact Rat.natCast_nonneg
    have hO0 : (0 : Rat) < rat false a 1 := by rw [rat_one']; exact Rat.natCast_pos.2 ha
    have hQ := quor_yes (fM.ok (by decide)) (fO.ok (by decide)) hO0 (by rw [hval]; exact fV.ok (by decide)); rw [hval] at hQ; exact ⟨_, _, _, _, fun w ht => (tsq_yes hv w ht).mono fun e w' ⟨h, hb⟩ => ⟨qV e h, hb⟩, fun w _ => tsr_core _ _ _ _ _ _ _ _ _ _ _ _ _ _ _ hv ha (qres_yes hn (fE.ok (by decide))) (maker_one a (by omega)) (subr_yes (fO.ok (by decide)) (fE.ok (by decide)) hE0 (fD.ok (by decide))) (rmulr_yes (fD.ok (by decide)) (fD.ok (by decide)) (fM.ok (by decide))) hQ w⟩
theorem mi_both {a p q n k : Nat} (hv : VC a p q n) (hk : k ≤ 8) (w0 : World) : Both6 22 23 #[CV a p q n, .int .i64 (k : Int)] := by
  have h1 := hv.pn; have h2 := hv.qn; have h3 := hv.n2; have h4 := hv.ap; have h5 := hv.aq; have h6 := hv.pq; have h7 := hv.n1
  rcases Nat.eq_zero_or_pos a with ha | ha
  · subst ha; exact ⟨_, _, _, _, _, _, _, fun w ht => mi_zero hv hk w ht, fun w _ => mir_zero hv hk w⟩
  · obtain ⟨i, g1, g2, g3, g4⟩ := mi_yes hv hk ha w0; have hp : 0 < prodN [a, n] := by simp only [prodN, Nat.mul_one]; exact Nat.mul_pos ha (by omega)
    have hq : 0 < prodN [p, q] := by simp only [prodN, Nat.mul_one]; exact Nat.mul_pos (by omega) (by omega)
    have hf := few_quo hq (VC.prod (a := a) (p := p) (q := q) (n := n) (x := a) (y := n) (by omega) (by omega)) (VC.prod (a := a) (p := p) (q := q) (n := n) (x := p) (y := q) (by omega) (by omega)); have hb := (rbits_yes hf (rat_pos' hp hq) hk g1 g2 g3).2; exact ⟨_, _, _, _, _, _, _, g4, fun w _ => mir_core _ _ _ _ _ _ _ _ _ hv hk ha (qres_yes hq (hf.ok (by decide))) hb w⟩
theorem ld_both {a p q n k : Nat} (hv : VC a p q n) (hk : k ≤ 8) (w0 : World) : Both6 26 27 #[CV a p q n, .int .i64 (k : Int)] := by
  have h1 := hv.pn; have h2 := hv.qn; have h3 := hv.n2; have h4 := hv.ap; have h5 := hv.aq; have h6 := hv.pq; have h7 := hv.n1
  rcases Nat.eq_zero_or_pos a with ha | ha
  · subst ha; exact ⟨_, _, _, _, _, _, _, fun w ht => ld_zero hv hk w ht, fun w _ => ldr_zero hv hk w⟩
  · obtain ⟨i, g1, g2, g3, g4⟩ := ld_yes hv hk ha w0; have hp : 0 < prodN [2, a] := by simp only [prodN, Nat.mul_one]; omega
    have hq : 0 < prodN [p + q] := by simp only [prodN, Nat.mul_one]; omega
    have hq2 : prodN [p + q] < 10 ^ 70 := by
      simp only [prodN, Nat.mul_one]
      exact Nat.lt_of_le_of_lt (show p + q ≤ 4294967296 by omega) (by decide)
    have hf := few_quo hq (VC.prod (a := a) (p := p) (q := q) (n := n) (x := 2) (y := a) (by omega) (by omega)) hq2; have hb := (rbits_yes hf (rat_pos' hp hq) hk g1 g2 g3).2; have f14 : Few 7 (rat false 14 1) := one_few (by decide) (by decide); have hadd := raddi_yes f14 f14 (uq_few (n := i) (k := k) (by omega) (by omega) hk) (hiq_few (x := rat false (prodN [2, a]) (prodN [p + q])) g2 g3 hk) (by decide) Rat.le_refl (hiq_le (rat false (prodN [2, a]) (prodN [p + q])) i k); have hex := rexact_yes _ _ _ (fun w => isratior_yes w (f14.ok (by decide))); exact ⟨_, _, _, _, _, _, _, g4, fun w _ => ldr_core _ _ _ _ _ _ _ _ _ _ _ _ _ _ _ _ _ _ hv hk ha (qres_yes hq (hf.ok (by decide))) hb (maker_one 14 (by decide)) hex hadd w⟩
theorem ll_both {a p q n k : Nat} (hv : VC a p q n) (hk : k ≤ 8) (w0 : World) : Both6 24 25 #[CV a p q n, .int .i64 (k : Int)] := by
  have g1 := hv.pn; have g2 := hv.qn; have g3 := hv.n2; have g4 := hv.ap; have g5 := hv.aq; have g6 := hv.pq; have g7 := hv.n1
  obtain ⟨e, h1, h2⟩ := ll_yes hv hk w0; have key : ∀ (i : Nat) (O : Int), i < 4 → O = ((fo a p q n i : Nat) : Int) → RStep (fo a p q n i) (fr p n i) (fc q n i) n k O (fun i => decide ((flo a p q n k e i).num < 0)) (fun i => S (flo a p q n k e i).num.natAbs) (fun i => S (flo a p q n k e i).den) (fun i => decide ((fhi a p q n k e i).num < 0)) (fun i => S (fhi a p q n k e i).num.natAbs) (fun i => S (fhi a p q n k e i).den) i := by
    intro i O hi hO
    rcases Nat.eq_zero_or_pos (fo a p q n i) with h0 | h0
    · refine .inl ⟨h0, ?_⟩; have e1 : flo a p q n k e (i + 1) = flo a p q n k e i := by rw [flo, if_pos h0]
      have e2 : fhi a p q n k e (i + 1) = fhi a p q n k e i := by rw [fhi, if_pos h0]
      simp only [e1, e2, and_self]
    · have hb := hv.fo_le i; have hp : 0 < prodN [fo a p q n i, n] := by simp only [prodN, Nat.mul_one]; exact Nat.mul_pos h0 (by omega)
      have hq : 0 < prodN [fr p n i, fc q n i] := by simp only [prodN, Nat.mul_one]; exact Nat.mul_pos (by omega) (by omega)
      have hf := few_quo hq (VC.prod (a := a) (p := p) (q := q) (n := n) (x := fo a p q n i) (y := n) (by omega) (by omega)) (VC.prod (a := a) (p := p) (q := q) (n := n) (x := fr p n i) (y := fc q n i) (by omega) (by omega)); obtain ⟨k1, k2, k3⟩ := h1 i h0; have hbi := (rbits_yes hf (rat_pos' hp hq) hk k1 k2 k3).2; have u1 := uq_few (n := e i) (k := k) (by omega) (by omega) hk; have u2 := hiq_few (x := fx a p q n i) k2 k3 hk; have u3 : Few 11 (rat false (2 * fo a p q n i) 1) := one_few (by decide) (by omega); obtain ⟨s1, s2⟩ := few_sc (by decide) u1 u2 u3; have hle := hiq_le (fx a p q n i) (e i) k; obtain ⟨t1, t2, t3⟩ := fsum_ok a p q n k hv hk e (fun j => by
        rcases Nat.eq_zero_or_pos (fo a p q n j) with h | h
        · exact .inl h
        · exact .inr (h1 j h).2) i
      have hn0 : fo a p q n i ≠ 0 := by omega
      have hmk := maker_one (2 * fo a p q n i) (by omega); have e1 : (((2 * fo a p q n i : Nat)) : Int) = 2 * O := by omega
      rw [e1] at hmk; have hsc := rscale_yes (few_le u1 (show 7 ≤ 11 by decide)) (few_le u2 (show 7 ≤ 11 by decide)) u3 (by decide) (by decide) hle; have had := raddi_yes (j := 94) (few_le t1 (by omega)) (few_le t2 (by omega)) (few_le s1 (by decide)) (few_le s2 (by decide)) (by decide) t3 (sc_le hle); have had2 : RetV 52 #[IV (flo a p q n k e i) (fhi a p q n k e i), IV (scLo (uq (e i) k) (hiq (fx a p q n i) (e i) k) (rat false (2 * fo a p q n i) 1)) (scHi (uq (e i) k) (hiq (fx a p q n i) (e i) k) (rat false (2 * fo a p q n i) 1))] (.tuple #[IV (flo a p q n k e (i + 1)) (fhi a p q n k e (i + 1)), .int .i64 0]) := by
        rw [flo, fhi, if_neg hn0, if_neg hn0]; exact had
      exact .inr ⟨h0, _, _, _, _, _, _, _, _, _, _, _, _, _, _, _, _, _, _, qres_yes hq (hf.ok (by decide)), hbi, hmk, hsc, had2⟩
  have f0 : Few 7 (rat false 0 1) := one_few (by decide) (by decide); have hex := rexact_yes _ _ _ (fun w => isratior_yes w (f0.ok (by decide))); have hm0 : RetV 39 #[.int .i64 0, .int .i64 1] (.tuple #[RV (rat false 0 1), .int .i64 0]) := maker_one 0 (by decide); exact ⟨_, _, _, _, _, _, _, h2, fun w _ => llr_core _ _ _ _ _ _ _ _ _ hv hk hm0 hex (fun i hi O hO => key i O hi hO) w⟩
theorem all_valid {a p q n k : Nat} (hv : VC a p q n) (hk : k ≤ 8) (w : World) (ht : Tab w) :
    Calls Tryz.prog 4 #[CV a p q n, .int .i64 (k : Int)] w fun e w' => e = .returned (.bool true) ∧ Below w.heap.size w w' := by
  obtain ⟨_, _, _, _, p0, r0⟩ := both_q (fun w ht => expected_yes hv w ht) (fun w _ => expected_ref hv w); obtain ⟨_, _, _, _, p1, r1⟩ := both_q (fun w ht => dice_yes hv w ht) (fun w _ => dice_ref hv w); obtain ⟨_, _, _, _, p2, r2⟩ := both_q (fun w ht => jaccard_yes hv w ht) (fun w _ => jaccard_ref hv w); obtain ⟨_, _, _, _, p3, r3⟩ := ms_both hv; obtain ⟨_, _, _, _, p4, r4⟩ := both_q (fun w ht => chi_yes hv w ht) (fun w _ => chi_ref hv w); obtain ⟨_, _, _, _, p5, r5⟩ := ts_both hv; obtain ⟨_, _, _, _, p6, r6⟩ := both_q (fun w ht => odds_yes hv w ht) (fun w _ => odds_ref hv w); obtain ⟨_, _, _, _, _, _, _, p7, r7⟩ := mi_both hv hk w; obtain ⟨_, _, _, _, _, _, _, p8, r8⟩ := ll_both hv hk w; obtain ⟨_, _, _, _, _, _, _, p9, r9⟩ := ld_both hv hk w; exact all_core _ _ _ _ _ _ _ _ _ _ _ _ _ _ _ _ _ _ _ _ _ _ _ _ _ _ _ _ _ _ _ _ _ _ _ _ _ _ _ _ _ _ _ _ _ _ _ _ _ _ _ _ _ _ true p0 r0 p1 r1 p2 r2 p3 r3 p4 r4 p5 r5 p6 r6 p7 r7 p8 r8 p9 r9 (fun w => mvalid_yes hv w) (fun w => rmv_yes hv w) w ht
end Go.Proofs.YtocknfhgjmaibaaGreatDoor
