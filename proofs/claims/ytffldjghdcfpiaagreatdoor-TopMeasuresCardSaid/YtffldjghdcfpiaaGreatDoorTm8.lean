/- Parts of the proof: Tm8. No condition of its own. -/
import Derived.Test.YtffldjghdcfpiaaGreatDoorRc8
import Derived.Test.YtffldjghdcfpiaaGreatDoorRd8
set_option linter.unusedSimpArgs false
set_option linter.unusedVariables false
set_option linter.unusedSectionVars false
namespace Go.Proofs.YtffldjghdcfpiaaGreatDoor
open Go.RowKit Dg

theorem prodN2 (x y : Nat) : prodN [x, y] = prodN [y, x] := by
  simp only [prodN, Nat.mul_one]
  exact Nat.mul_comm _ _
def tl (a p q n k : Nat) (e : Nat → Int) (i : Nat) : Rat := if fo a p q n i = 0 then 0 else scLo (uq (e i) k) (hiq (fx a p q n i) (e i) k) (rat false (2 * fo a p q n i) 1)
def th (a p q n k : Nat) (e : Nat → Int) (i : Nat) : Rat := if fo a p q n i = 0 then 0 else scHi (uq (e i) k) (hiq (fx a p q n i) (e i) k) (rat false (2 * fo a p q n i) 1)
theorem flo_tl (a p q n k : Nat) (e : Nat → Int) (i : Nat) : flo a p q n k e (i + 1) = flo a p q n k e i + tl a p q n k e i := by
  rw [flo, tl]
  split
  · rw [Rat.add_zero]
  · rfl
theorem fhi_th (a p q n k : Nat) (e : Nat → Int) (i : Nat) : fhi a p q n k e (i + 1) = fhi a p q n k e i + th a p q n k e i := by
  rw [fhi, th]
  split
  · rw [Rat.add_zero]
  · rfl
theorem t_swap {a p q n k : Nat} {e e' : Nat → Int} (i j : Nat) (h1 : fo a q p n i = fo a p q n j) (h2 : fx a q p n i = fx a p q n j) (he : 0 < fo a p q n j → IsLog (fx a p q n j ^ (2 ^ k)) (e j)) (he' : 0 < fo a q p n i → IsLog (fx a q p n i ^ (2 ^ k)) (e' i)) :
    tl a q p n k e' i = tl a p q n k e j ∧ th a q p n k e' i = th a p q n k e j := by
  unfold tl th; rw [h2] at he'; rw [h1] at he' ⊢; rw [h2]
  by_cases h0 : fo a p q n j = 0
  · rw [if_pos h0, if_pos h0, if_pos h0, if_pos h0]; exact ⟨rfl, rfl⟩
  · have hp := Nat.pos_of_ne_zero h0; rw [(he' hp).eq (he hp)]; exact ⟨rfl, rfl⟩
theorem fsum_swap {a p q n k : Nat} {e e' : Nat → Int} (he : ∀ i, 0 < fo a p q n i → IsLog (fx a p q n i ^ (2 ^ k)) (e i)) (he' : ∀ i, 0 < fo a q p n i → IsLog (fx a q p n i ^ (2 ^ k)) (e' i)) :
    flo a q p n k e' 4 = flo a p q n k e 4 ∧ fhi a q p n k e' 4 = fhi a p q n k e 4 := by
  have f3 : n + a - q - p = n + a - p - q := by omega
  obtain ⟨a0, b0⟩ := t_swap (k := k) (e := e) (e' := e') (a := a) (p := p) (q := q) (n := n) 0 0 rfl (by unfold fx; show rat false (prodN [a, n]) (prodN [q, p]) = rat false (prodN [a, n]) (prodN [p, q]); rw [prodN2 q p]) (he 0) (he' 0); obtain ⟨a1, b1⟩ := t_swap (k := k) (e := e) (e' := e') (a := a) (p := p) (q := q) (n := n) 1 2 rfl (by unfold fx; show rat false (prodN [q - a, n]) (prodN [q, n - p]) = rat false (prodN [q - a, n]) (prodN [n - p, q]); rw [prodN2 q]) (he 2) (he' 1); obtain ⟨a2, b2⟩ := t_swap (k := k) (e := e) (e' := e') (a := a) (p := p) (q := q) (n := n) 2 1 rfl (by unfold fx; show rat false (prodN [p - a, n]) (prodN [n - q, p]) = rat false (prodN [p - a, n]) (prodN [p, n - q]); rw [prodN2 p]) (he 1) (he' 2); obtain ⟨a3, b3⟩ := t_swap (k := k) (e := e) (e' := e') (a := a) (p := p) (q := q) (n := n) 3 3 f3 (by unfold fx; show rat false (prodN [n + a - q - p, n]) (prodN [n - q, n - p]) = rat false (prodN [n + a - p - q, n]) (prodN [n - p, n - q]); rw [f3, prodN2 (n - q)]) (he 3) (he' 3)
  have l0 : flo a q p n k e' 0 = flo a p q n k e 0 := rfl; have h0 : fhi a q p n k e' 0 = fhi a p q n k e 0 := rfl; rw [flo_tl, flo_tl, flo_tl, flo_tl, flo_tl a p q n k e 3, flo_tl a p q n k e 2, flo_tl a p q n k e 1, flo_tl a p q n k e 0, fhi_th, fhi_th, fhi_th, fhi_th, fhi_th a p q n k e 3, fhi_th a p q n k e 2, fhi_th a p q n k e 1, fhi_th a p q n k e 0, a0, a1, a2, a3, b0, b1, b2, b3, l0, h0]; generalize tl a p q n k e 1 = x; generalize tl a p q n k e 2 = y; generalize th a p q n k e 1 = u; generalize th a p q n k e 2 = v
  constructor <;> grind
theorem bits_pos {x : Rat} {k : Nat} {i : Int} (h : IsLog (x ^ (2 ^ k)) i) (hx : 1 ≤ x) : 0 ≤ uq i k := by
  have h1 : (1 : Rat) ≤ x ^ (2 ^ k) := by
    have := pow_le (x := 1) (y := x) (by decide) hx (2 ^ k)
    rwa [one_pow'] at this
  have h2 : p2 0 < p2 (i + 1) := by
    rw [p2_zero]; have := h.2
    grind
  have h3 := p2_lt_iff.1 h2; rw [uq_eq, ← Rat.not_lt, Rat.div_lt_iff (Rat.natCast_pos.2 (Nat.pow_pos (by decide))), Rat.zero_mul, Rat.not_lt]; have : ((0 : Int) : Rat) ≤ (i : Rat) := Rat.intCast_le_intCast.2 (by omega); exact this
theorem bits_neg {x : Rat} {k : Nat} {i : Int} (h : IsLog (x ^ (2 ^ k)) i) (h0 : 0 ≤ x) (hx : x < 1) : uq i k < 0 ∧ hiq x i k ≤ 0 := by
  have h1 : x ^ (2 ^ k) < 1 := by
    have := pow_lt h0 hx (2 ^ k) (Nat.pow_pos (by decide))
    rwa [one_pow'] at this
  have h2 : p2 i < p2 0 := by
    rw [p2_zero]; have := h.1
    grind
  have h3 := p2_lt_iff.1 h2; have hk : (0 : Rat) < ((2 ^ k : Nat) : Rat) := Rat.natCast_pos.2 (Nat.pow_pos (by decide)); have lt : uq i k < 0 := by
    rw [uq_eq, Rat.div_lt_iff hk, Rat.zero_mul]; have : (i : Rat) < ((0 : Int) : Rat) := Rat.intCast_lt_intCast.2 (by omega); exact this
  refine ⟨lt, ?_⟩; unfold hiq
  split
  · exact Rat.le_of_lt lt
  · rw [uq_eq, ← Rat.not_lt, Rat.lt_div_iff hk, Rat.zero_mul, Rat.not_lt]; have : ((i + 1 : Int) : Rat) ≤ ((0 : Int) : Rat) := Rat.intCast_le_intCast.2 (by omega); exact this
theorem rat_le {a b c d : Nat} (hb : 0 < b) (hd : 0 < d) : rat false a b ≤ rat false c d ↔ a * d ≤ c * b := by
  rw [rat_quo, rat_quo, ← Rat.not_lt, Rat.lt_div_iff (Rat.natCast_pos.2 hb)]; have e : ((c : Nat) : Rat) / ((d : Nat) : Rat) * ((b : Nat) : Rat) = ((c * b : Nat) : Rat) / ((d : Nat) : Rat) := by
    rw [Rat.div_def, Rat.div_def, Rat.mul_assoc, Rat.mul_comm ((d : Nat) : Rat)⁻¹, ← Rat.mul_assoc, Rat.natCast_mul]
  rw [e, Rat.div_lt_iff (Rat.natCast_pos.2 hd), ← Rat.natCast_mul, Rat.natCast_lt_natCast, Nat.not_lt]
theorem cmpR_z {x y : Rat} : cmpR x y = 0 ↔ x = y := by
  unfold cmpR
  constructor
  · intro h
    split at h
    · omega
    · split at h
      · assumption
      · omega
  · rintro rfl; rw [if_neg Rat.lt_irrefl, if_pos rfl]
theorem cmpR_cases (x y : Rat) : cmpR x y = -1 ∧ x < y ∨ cmpR x y = 0 ∧ x = y ∨ cmpR x y = 1 ∧ y < x := by
  unfold cmpR
  split
  · exact .inl ⟨rfl, ‹_›⟩
  · split
    · exact .inr (.inl ⟨rfl, ‹_›⟩)
    · refine .inr (.inr ⟨rfl, ?_⟩)
      rcases (Rat.le_total (a := x) (b := y)) with h | h <;> grind
theorem dj_pos {a p q n : Nat} (hv : VC a p q n) (h0 : 0 < p + q) : ∃ (nd : Bool) (sd td : ByteArray) (nj : Bool) (sj tj : ByteArray) (nr : Bool) (sr tr : ByteArray),
    (∀ e, QRes (prodN [2, a]) (prodN [p + q]) e → e = .returned (.tuple #[.agg #[.bool nd, .string sd, .string td], .int .i64 0])) ∧
    (∀ e, QRes (prodN [2, a]) (prodN [q + p]) e → e = .returned (.tuple #[.agg #[.bool nd, .string sd, .string td], .int .i64 0])) ∧
    (∀ e, QRes (prodN [a]) (prodN [p + q - a]) e → e = .returned (.tuple #[.agg #[.bool nj, .string sj, .string tj], .int .i64 0])) ∧
    RetV 7 #[.int .i64 2, .int .i64 1] (.tuple #[.agg #[.bool false, .string ⟨#[50]⟩, .string ⟨#[49]⟩], .int .i64 0]) ∧
    RetV 8 #[.agg #[.bool false, .string ⟨#[50]⟩, .string ⟨#[49]⟩], .agg #[.bool nd, .string sd, .string td]] (.tuple #[.agg #[.bool nr, .string sr, .string tr], .int .i64 0]) ∧
    RetV 9 #[.agg #[.bool nd, .string sd, .string td], .agg #[.bool nr, .string sr, .string tr]] (.tuple #[.agg #[.bool nj, .string sj, .string tj], .int .i64 0]) ∧
    .agg #[.bool nj, .string sj, .string tj] = RV (rat false (prodN [a]) (prodN [p + q - a])) ∧ OkR (rat false (prodN [a]) (prodN [p + q - a])) := by
  have h1 := hv.pn; have h2 := hv.qn; have h3 := hv.n2; have h4 := hv.ap; have h5 := hv.aq; have h6 := hv.pq; have h7 := hv.n1
  have hPd : 0 < prodN [p + q] := by simp only [prodN, Nat.mul_one]; omega
  have hPj : 0 < prodN [p + q - a] := by simp only [prodN, Nat.mul_one]; omega
  have sm : ∀ x, x ≤ 4294967296 → prodN [x] < 10 ^ 70 := fun x hx => by
    simp only [prodN, Nat.mul_one]
    exact Nat.lt_of_le_of_lt hx (by decide)
  have fD := few_quo hPd (VC.prod (a := a) (p := p) (q := q) (n := n) (x := 2) (y := a) (by omega) (by omega)) (sm (p + q) (by omega)); have fJ := few_quo hPj (sm a (by omega)) (sm (p + q - a) (by omega)); have qD := qres_yes hPd (fD.ok (by decide)); have qJ := qres_yes hPj (fJ.ok (by decide)); have l3 := dice_jac h4 h5 h0; have l1 := dice_le h4 h5 h0; have hmk := make_one 2 (by decide); rw [show rat false 2 1 = 2 from by rw [rat_one']; rfl, rv2] at hmk; clear hPj sm; generalize rat false (prodN [2, a]) (prodN [p + q]) = D at *; generalize rat false (prodN [a]) (prodN [p + q - a]) = J at *; have oD := fD.ok (k := 70) (by decide); have oJ := fJ.ok (k := 70) (by decide); have o2 : Few 1 (2 : Rat) := ⟨by decide, by decide⟩; have fN : Few 70 (-D) := by
    refine ⟨?_, ?_⟩
    · rw [Rat.neg_num, Int.natAbs_neg]; exact fD.1
    · rw [Rat.neg_den]; exact fD.2
  have oS : OkR (2 - D) := by
    rw [Rat.sub_eq_add_neg]; exact (few_add' o2 fN).ok (by decide)
  have nz : 2 - D ≠ 0 := by grind
  refine ⟨decide (D.num < 0), S D.num.natAbs, S D.den, decide (J.num < 0), S J.num.natAbs, S J.den, decide ((2 - D).num < 0), S (2 - D).num.natAbs, S (2 - D).den, qD, ?_, qJ, hmk, ?_, ?_, rfl, oJ⟩
  · rw [Nat.add_comm q p]; exact qD
  · rw [← rv2]; exact fun w => (rsub_yes (o2.ok (by decide)) oD w).mono fun e w' ⟨g, hb⟩ => ⟨g.ok oS, hb⟩
  · exact fun w => (rquo_yes oD oS nz w).mono fun e w' ⟨g, hb⟩ => ⟨by rw [l3] at g; exact g.ok oJ, hb⟩
theorem ms_prog {a p q n : Nat} (hv : VC a p q n) : ∃ (nm : Bool) (sm tm : ByteArray) (km : Int),
    (∀ w, Tab w → Calls Tryz.prog 10 #[CV a p q n] w fun e w' => e = .returned (.tuple #[.agg #[.bool nm, .string sm, .string tm], .int .i64 km]) ∧ Below w.heap.size w w') ∧
    (km = 25 ∨ km = 0 ∧ ∃ m : Rat, .agg #[.bool nm, .string sm, .string tm] = RV m ∧ OkR m ∧ rat false (prodN [a]) (prodN [p + q - a]) ≤ m) := by
  have h1 := hv.pn; have h2 := hv.qn; have h3 := hv.n2; have h4 := hv.ap; have h5 := hv.aq; have h6 := hv.pq; have h7 := hv.n1
  have q0 : ∀ {P Q : Nat}, Q = 0 → ∀ e, QRes P Q e → e = .returned (.tuple #[Rat0, .int .i64 25]) := by
    rintro P Q h e (⟨_, h9⟩ | ⟨h9, _⟩)
    · exact h9
    · omega
  have z1 : ∀ x : Nat, x = 0 → prodN [x] = 0 := by intro x h; rw [h]; rfl
  rcases Nat.eq_zero_or_pos p with hp | hp
  · exact ⟨_, _, _, _, fun w ht => ms_no1 hv (q0 (z1 p hp)) w ht, .inl rfl⟩
  · have sm : ∀ x, x ≤ 4294967296 → prodN [x] < 10 ^ 70 := fun x hx => by
      simp only [prodN, Nat.mul_one]
      exact Nat.lt_of_le_of_lt hx (by decide)
    have hPp : 0 < prodN [p] := by simp only [prodN, Nat.mul_one]; exact hp
    have fX := few_quo hPp (sm a (by omega)) (sm p (by omega)); have qX := qres_yes hPp (fX.ok (by decide))
    rcases Nat.eq_zero_or_pos q with hq | hq
    · exact ⟨_, _, _, _, fun w ht => ms_no2 _ _ _ hv qX (q0 (z1 q hq)) w ht, .inl rfl⟩
    · have hPq : 0 < prodN [q] := by simp only [prodN, Nat.mul_one]; exact hq
      have fY := few_quo hPq (sm a (by omega)) (sm q (by omega)); have qY := qres_yes hPq (fY.ok (by decide)); have hPj : 0 < prodN [p + q - a] := by simp only [prodN, Nat.mul_one]; omega
      have c1 : RetV 11 #[RV (rat false (prodN [a]) (prodN [q])), RV (rat false (prodN [a]) (prodN [p]))] (.int .i64 (cmpR (rat false (prodN [a]) (prodN [q])) (rat false (prodN [a]) (prodN [p])))) := fun w => rcmp_yes (fY.ok (by decide)) (fX.ok (by decide)) w; have jx : rat false (prodN [a]) (prodN [p + q - a]) ≤ rat false (prodN [a]) (prodN [p]) := by
        rw [rat_le hPj hPp]
        simp only [prodN, Nat.mul_one]
        exact Nat.mul_le_mul_left _ (by omega)
      have jy : rat false (prodN [a]) (prodN [p + q - a]) ≤ rat false (prodN [a]) (prodN [q]) := by
        rw [rat_le hPj hPq]
        simp only [prodN, Nat.mul_one]
        exact Nat.mul_le_mul_left _ (by omega)
      by_cases hz : cmpR (rat false (prodN [a]) (prodN [q])) (rat false (prodN [a]) (prodN [p])) < 0
      · exact ⟨_, _, _, _, fun w ht => ms_cmp _ _ _ _ _ _ _ _ _ _ hv qX qY c1 ⟨fun _ => ⟨rfl, rfl, rfl⟩, fun h => absurd hz (by omega)⟩ w ht, .inr ⟨rfl, _, rfl, fY.ok (by decide), jy⟩⟩
      · exact ⟨_, _, _, _, fun w ht => ms_cmp _ _ _ _ _ _ _ _ _ _ hv qX qY c1 ⟨fun h => absurd h hz, fun _ => ⟨rfl, rfl, rfl⟩⟩ w ht, .inr ⟨rfl, _, rfl, fX.ok (by decide), jx⟩⟩
theorem ms_jac {a p q n : Nat} (hv : VC a p q n) {nj : Bool} {sj tj : ByteArray} (hj : .agg #[.bool nj, .string sj, .string tj] = RV (rat false (prodN [a]) (prodN [p + q - a]))) (oj : OkR (rat false (prodN [a]) (prodN [p + q - a]))) : ∃ (nm : Bool) (sm tm : ByteArray) (km z : Int),
    (∀ w, Tab w → Calls Tryz.prog 10 #[CV a p q n] w fun e w' => e = .returned (.tuple #[.agg #[.bool nm, .string sm, .string tm], .int .i64 km]) ∧ Below w.heap.size w w') ∧
    (km = 25 ∨ km = 0 ∧ RetV 11 #[.agg #[.bool nm, .string sm, .string tm], .agg #[.bool nj, .string sj, .string tj]] (.int .i64 z)) ∧ 0 ≤ z := by
  obtain ⟨nm, sm, tm, km, h1, h2⟩ := ms_prog hv
  rcases h2 with h2 | ⟨h2, m, h3, h4, h5⟩
  · exact ⟨nm, sm, tm, km, 0, h1, .inl h2, by decide⟩
  · refine ⟨nm, sm, tm, km, cmpR m (rat false (prodN [a]) (prodN [p + q - a])), h1, .inr ⟨h2, ?_⟩, ?_⟩
    · rw [h3, hj]; exact fun w => rcmp_yes h4 oj w
    · rcases cmpR_cases m (rat false (prodN [a]) (prodN [p + q - a])) with ⟨_, h⟩ | ⟨h, _⟩ | ⟨h, _⟩
      · exact absurd h (Rat.not_lt.2 h5)
      · rw [h]; decide
      · rw [h]; decide
theorem ll_same {a p q n k : Nat} (hv : VC a p q n) (hk : k ≤ 8) (w0 : World) : ∃ (nu : Bool) (su tu : ByteArray) (nv : Bool) (sv tv : ByteArray),
    (∀ w, Tab w → Calls Tryz.prog 13 #[CV a p q n, .int .i64 (k : Int)] w fun e w' => e = .returned (.tuple #[.agg #[.bool nu, .string su, .string tu, .bool nv, .string sv, .string tv], .int .i64 0]) ∧ Below w.heap.size w w') ∧
    (∀ w, Tab w → Calls Tryz.prog 13 #[CV a q p n, .int .i64 (k : Int)] w fun e w' => e = .returned (.tuple #[.agg #[.bool nu, .string su, .string tu, .bool nv, .string sv, .string tv], .int .i64 0]) ∧ Below w.heap.size w w') ∧
    RetV 14 #[.agg #[.bool nu, .string su, .string tu, .bool nv, .string sv, .string tv], .agg #[.bool nu, .string su, .string tu, .bool nv, .string sv, .string tv]] (.int .i64 0) := by
  obtain ⟨e, h1, h2⟩ := ll_yes hv hk w0; obtain ⟨e', h1', h2'⟩ := ll_yes hv.swap hk w0; obtain ⟨f1, f2, f3⟩ := fsum_ok a p q n k hv hk e (fun j => by
    rcases Nat.eq_zero_or_pos (fo a p q n j) with h | h
    · exact .inl h
    · exact .inr (h1 j h).2) 4
  obtain ⟨g1, g2⟩ := fsum_swap (k := k) (fun i h => (h1 i h).1) (fun i h => (h1' i h).1); rw [g1, g2] at h2'; refine ⟨_, _, _, _, _, _, h2, h2', ?_⟩; have := ecompare_yes (f1.ok (by decide)) (f2.ok (by decide)) (f1.ok (by decide)) (f2.ok (by decide)) f3 f3; have e0 : icmp (flo a p q n k e 4) (fhi a p q n k e 4) (flo a p q n k e 4) (fhi a p q n k e 4) = 0 := by
    unfold icmp; rw [if_neg (Rat.not_lt.2 f3), if_neg (Rat.not_lt.2 f3)]
  rw [e0] at this; exact this
theorem mi_top {a p q n k : Nat} (hv : VC a p q n) (hk : k ≤ 8) (ha : 0 < a) (w0 : World) : ∃ (nu : Bool) (su tu : ByteArray) (nv : Bool) (sv tv : ByteArray) (nb : Bool) (sb tb : ByteArray) (nx : Bool) (sx tx : ByteArray) (z : Int),
    (∀ w, Tab w → Calls Tryz.prog 15 #[CV a p q n, .int .i64 (k : Int)] w fun e w' => e = .returned (.tuple #[.agg #[.bool nu, .string su, .string tu, .bool nv, .string sv, .string tv], .int .i64 0]) ∧ Below w.heap.size w w') ∧
    RetV 7 #[.int .i64 (a : Int), .int .i64 1] (.tuple #[.agg #[.bool nb, .string sb, .string tb], .int .i64 0]) ∧
    (∀ e, QRes (prodN [p, q]) (prodN [n]) e → e = .returned (.tuple #[.agg #[.bool nx, .string sx, .string tx], .int .i64 0])) ∧
    RetV 7 #[.int .i64 0, .int .i64 1] (.tuple #[.agg #[.bool false, .string ⟨#[48]⟩, .string ⟨#[49]⟩], .int .i64 0]) ∧
    RetV 11 #[.agg #[.bool nb, .string sb, .string tb], .agg #[.bool nx, .string sx, .string tx]] (.int .i64 z) ∧
    (z = 0 ∧ RetV 18 #[.agg #[.bool nu, .string su, .string tu, .bool nv, .string sv, .string tv], .agg #[.bool false, .string ⟨#[48]⟩, .string ⟨#[49]⟩]] (.bool true) ∧ RetV 11 #[.agg #[.bool nu, .string su, .string tu], .agg #[.bool nv, .string sv, .string tv]] (.int .i64 0) ∨
     z = 1 ∧ (∃ y : Int, 0 ≤ y ∧ RetV 11 #[.agg #[.bool nu, .string su, .string tu], .agg #[.bool false, .string ⟨#[48]⟩, .string ⟨#[49]⟩]] (.int .i64 y)) ∨
     z = -1 ∧ (∃ x y : Int, x < 0 ∧ y ≤ 0 ∧ RetV 11 #[.agg #[.bool nu, .string su, .string tu], .agg #[.bool false, .string ⟨#[48]⟩, .string ⟨#[49]⟩]] (.int .i64 x) ∧ RetV 11 #[.agg #[.bool nv, .string sv, .string tv], .agg #[.bool false, .string ⟨#[48]⟩, .string ⟨#[49]⟩]] (.int .i64 y))) := by
  have h1 := hv.pn; have h2 := hv.qn; have h3 := hv.n2; have h4 := hv.ap; have h5 := hv.aq; have h6 := hv.pq; have h7 := hv.n1
  obtain ⟨i, g1, g2, g3, g4⟩ := mi_yes hv hk ha w0; have o0 : OkR (0 : Rat) := ⟨by unfold OkN; decide, by unfold OkN; decide⟩; have hPn : 0 < prodN [n] := by simp only [prodN, Nat.mul_one]; omega
  have hPq : 0 < prodN [p, q] := by simp only [prodN, Nat.mul_one]; exact Nat.mul_pos (by omega) (by omega)
  have hPa : 0 < prodN [a, n] := by simp only [prodN, Nat.mul_one]; exact Nat.mul_pos (by omega) (by omega)
  have sm : ∀ x, x ≤ 4294967296 → prodN [x] < 10 ^ 70 := fun x hx => by
    simp only [prodN, Nat.mul_one]
    exact Nat.lt_of_le_of_lt hx (by decide)
  have fX := few_quo hPn (VC.prod (a := a) (p := p) (q := q) (n := n) (x := p) (y := q) (by omega) (by omega)) (sm n (by omega)); have qX := qres_yes hPn (fX.ok (by decide)); have oL : OkR (uq i k) := (uq_few (by omega) (by omega) hk).ok (by decide); have oH : OkR (hiq (rat false (prodN [a, n]) (prodN [p, q])) i k) := (hiq_few g2 g3 hk).ok (by decide); have oB : OkR (rat false a 1) := (one_few (k := 12) (by decide) (Nat.lt_of_le_of_lt (show a ≤ 4294967296 by omega) (by decide))).ok (by decide); have hb := make_one a (by omega); have hz := make_one 0 (by decide); rw [show rat false 0 1 = 0 from by rw [rat_one']; rfl, rv0] at hz; have hxp : 0 ≤ rat false (prodN [a, n]) (prodN [p, q]) := Rat.le_of_lt (rat_pos' hPa hPq); have hx1 : (1 : Rat) = rat false 1 1 := by rw [rat_one']; rfl
  have l1 : rat false (prodN [p, q]) (prodN [n]) ≤ rat false a 1 ↔ p * q ≤ a * n := by
    rw [rat_le hPn (by decide)]
    simp only [prodN, Nat.mul_one]
  have l2 : rat false a 1 ≤ rat false (prodN [p, q]) (prodN [n]) ↔ a * n ≤ p * q := by
    rw [rat_le (by decide) hPn]
    simp only [prodN, Nat.mul_one]
  have l3 : 1 ≤ rat false (prodN [a, n]) (prodN [p, q]) ↔ p * q ≤ a * n := by
    rw [hx1, rat_le (by decide) hPq]
    simp only [prodN, Nat.mul_one, Nat.one_mul]
  have l4 : rat false (prodN [a, n]) (prodN [p, q]) ≤ 1 ↔ a * n ≤ p * q := by
    rw [hx1, rat_le hPq (by decide)]
    simp only [prodN, Nat.mul_one, Nat.one_mul]
  refine ⟨_, _, _, _, _, _, _, _, _, _, _, _, cmpR (rat false a 1) (rat false (prodN [p, q]) (prodN [n])), g4, hb, qX, hz, fun w => rcmp_yes oB (fX.ok (by decide)) w, ?_⟩
  rcases cmpR_cases (rat false a 1) (rat false (prodN [p, q]) (prodN [n])) with ⟨c1, c2⟩ | ⟨c1, c2⟩ | ⟨c1, c2⟩
  · have x1 : rat false (prodN [a, n]) (prodN [p, q]) < 1 := by
      rw [← Rat.not_le, l3, ← l1, Rat.not_le]; exact c2
    obtain ⟨b1, b2⟩ := bits_neg g1 hxp x1; refine .inr (.inr ⟨c1, _, _, cmpR_lt.2 b1, cmpR_le.2 b2, ?_, ?_⟩)
    · rw [← rv0]; exact fun w => rcmp_yes oL o0 w
    · rw [← rv0]; exact fun w => rcmp_yes oH o0 w
  · have x1 : rat false (prodN [a, n]) (prodN [p, q]) = 1 := by
      have a1 := l3.2 (l1.1 (by rw [c2]; exact Rat.le_refl)); have a2 := l4.2 (l2.1 (by rw [c2]; exact Rat.le_refl)); exact Rat.le_antisymm a2 a1
    rw [x1] at g1; obtain ⟨-, u0, v0⟩ := one_log g1; refine .inl ⟨c1, ?_, ?_⟩
    · have := econtains_yes o0 o0 o0 Rat.le_refl Rat.le_refl Rat.le_refl; rw [rv0] at this; rw [x1, u0, v0]; exact this
    · have := (fun w => rcmp_yes o0 o0 w : RetV _ _ _); rw [cmpR_z.2 rfl] at this; rw [x1, u0, v0]; exact this
  · have x1 : 1 ≤ rat false (prodN [a, n]) (prodN [p, q]) := l3.2 (l1.1 (Rat.le_of_lt c2)); have b1 := bits_pos g1 x1; refine .inr (.inl ⟨c1, cmpR (uq i k) 0, ?_, ?_⟩)
    · rcases Int.lt_or_le (cmpR (uq i k) 0) 0 with h | h
      · exact absurd (cmpR_lt.1 h) (Rat.not_lt.2 b1)
      · exact h
    · rw [← rv0]; exact fun w => rcmp_yes oL o0 w
end Go.Proofs.YtffldjghdcfpiaaGreatDoor
