/- The law package's some: a ratio out of numbers. -/
import Derived.Test.YtofijnhkoadfjaaRk
import Derived.Test.YtofijnhkoadfjaaRt
import Derived.Test.YtofijnhkoadfjaaMem
namespace Go.Proofs.Ytofijnhkoadfjaa
set_option linter.unusedSimpArgs false
set_option linter.unusedVariables false
set_option linter.unusedSectionVars false
open Go.RowKit Dg

/-- A ratio of few digits. -/
def Few (k : Nat) (x : Rat) : Prop := (dec x.num.natAbs).length ≤ k ∧ (dec x.den).length ≤ k
theorem dec_mono {m n k : Nat} (h : m ≤ n) (hn : (dec n).length ≤ k) : (dec m).length ≤ k := by
  rcases Nat.lt_or_ge (dec n).length (dec m).length with h1 | h1
  · have := dec_lt_of_len h1; omega
  · omega
theorem few_rat {neg : Bool} {m n k : Nat} (hn : 0 < n) (h1 : (dec m).length ≤ k) (h2 : (dec n).length ≤ k) : Few k (rat neg m n) := by
  refine ⟨?_, ?_⟩
  · rw [rat_abs neg hn]; exact dec_mono (Nat.div_le_self _ _) h1
  · rw [rat_den neg hn]; exact dec_mono (Nat.div_le_self _ _) h2
theorem Few.ok {k : Nat} {x : Rat} (h : Few k x) (hk : k ≤ 20000) : OkR x := ⟨Nat.le_trans h.1 hk, Nat.le_trans h.2 hk⟩
theorem RV_zero : RV 0 = .agg #[.bool false, .string ⟨#[48]⟩, .string ⟨#[49]⟩] := rfl

set_option maxRecDepth 100000 in
set_option maxHeartbeats 2000000 in
theorem some_any (A : Option Addr) (l : List Int) (c : Nat) (w : World) (hA : Ints w A l) (hl : l.length ≤ c) (hc : c ≤ maxLen) (hwf : Wide l) :
    Calls Try.prog 23 #[.slice A l.length c] w fun e w' => (∃ x, e = .returned (RV x) ∧ Few 20 x) ∧ Below w.heap.size w w' := by
  obtain ⟨o0, hbw⟩ := new1 w [.bool false, .string ⟨#[]⟩, .string ⟨#[]⟩] 33
  have HN : Hid (∀ w1, Below w.heap.size w w1 → Calls Try.prog 42 #[.slice A l.length c] w1 fun e w' => e = .returned (.pointer (some ⟨w1.heap.size, 0, none⟩)) ∧ (∃ l', Tape w' w1.heap.size A l' c 0) ∧ Below w1.heap.size w1 w') :=
    fun w1 hb => new_any A l c w1 (Ints.below hA hb) hl hc hwf
  clear hA hwf
  go_enter Try.func23, Try.ntmps23
  go_wp2_with fail
  generalize (w.alloc (.cells #[.bool false, .string ⟨#[]⟩, .string ⟨#[]⟩] 33)) = wb at o0 hbw ⊢
  refine (HN.out _ hbw).mono ?_
  rintro e w1 ⟨rfl, ⟨l', hT⟩, hb1⟩
  have hgp : w.heap.size < wb.heap.size := o0.lt
  have hbp := hbw.size
  replace o0 := o0.below hb1 o0.lt
  replace hbw := below6 hbw hb1
  clear HN hb1
  generalize wb.heap.size = p at hT hgp hbp ⊢
  have hS : ∀ k, k < w.heap.size → ¬ (k = p) := fun k hk e => by omega
  have HS := Lib.hid hS
  have hne : ¬ (w.heap.size = p) := by omega
  have HNE : Hid (¬ (w.heap.size = p)) := hne
  clear hS hne
  go_wp2_with fail
  refine (next_any p A l' c 0 2 w1 hT (by omega) (by omega)).mono ?_
  rintro e w2 ⟨r, a2, rfl, hr, hT2, hc2⟩
  replace o0 := hc2.own o0 HNE.out
  replace hbw := hbw.trans (hc2.below HS.out hbw.size)
  clear hT hc2
  go_wp2_with fail
  refine (natural_any p A l' c a2 20 w2 hT2 (by omega) (by omega)).mono ?_
  rintro e w3 ⟨⟨m, rfl, hm⟩, ⟨a3, hT3⟩, hc3⟩
  replace o0 := hc3.own o0 HNE.out
  replace hbw := hbw.trans (hc3.below HS.out hbw.size)
  clear hT2 hc3
  go_wp2_with fail
  refine (natural_any p A l' c a3 20 w3 hT3 (by omega) (by omega)).mono ?_
  rintro e w4 ⟨⟨n, rfl, hn⟩, ⟨a4, hT4⟩, hc4⟩
  replace o0 := hc4.own o0 HNE.out
  replace hbw := hbw.trans (hc4.below HS.out hbw.size)
  clear hT3 hc4 hT4 HS HNE
  have HOF : Hid (∃ x : Rat, Few 20 x ∧ ∃ v z, (∀ w, Calls Try.prog 36 #[.bool ((r : Int) == 1), .string (S m), .string (S n)] w fun e w' => e = .returned (.tuple #[v, .int .i64 z]) ∧ Below w.heap.size w w') ∧ ((z = 0 ∧ v = RV x) ∨ (z = 25 ∧ v = Rat0 ∧ x = 0))) := by
    have om : OkN m := by unfold OkN; omega
    have on : OkN n := by unfold OkN; omega
    rcases Nat.eq_zero_or_pos n with rfl | h0
    · exact ⟨0, by unfold Few; decide, _, _, fun w => ofr_zero _ m w om, .inr ⟨rfl, rfl, rfl⟩⟩
    · have hf := few_rat (neg := ((r : Int) == 1)) h0 hm hn
      exact ⟨_, hf, _, _, fun w => (ofr_low _ m n w om on h0).mono fun e w' ⟨h1, hb⟩ => ⟨(h1.toRat h0).ok (hf.ok (by omega)), hb⟩, .inl ⟨rfl, rfl⟩⟩
  clear hm hn hr
  obtain ⟨x, hf, v, z, HC, hz⟩ := HOF.out
  have HF := Lib.hid hf
  have HC := Lib.hid HC
  clear HOF hf
  generalize S m = sm at *
  generalize S n = sn at *
  go_wp2_with fail
  refine (HC.out _).mono ?_
  rintro e w5 ⟨rfl, hb5⟩
  replace o0 := o0.below hb5 o0.lt
  replace hbw := below6 hbw hb5
  clear HC hb5
  rcases hz with ⟨rfl, rfl⟩ | ⟨rfl, rfl, rfl⟩
  · obtain ⟨nx, sx, tx, hx⟩ : ∃ nx sx tx, RV x = .agg #[.bool nx, .string sx, .string tx] := ⟨_, _, _, rfl⟩
    have HX : Hid (RV x = .agg #[.bool nx, .string sx, .string tx]) := hx
    rw [hx]
    clear hx
    obtain ⟨o7, hb7⟩ := new1 w5 [.bool nx, .string sx, .string tx] 33
    replace o0 := o0.alloc (.cells #[.bool nx, .string sx, .string tx] 33)
    replace hbw := below6 hbw hb7
    have hg0 : (w5.alloc (.cells #[.bool nx, .string sx, .string tx] 33)).cell? ⟨w.heap.size, 0, none⟩ = some (.bool false) := o0.cell 0
    have hg1 : (w5.alloc (.cells #[.bool nx, .string sx, .string tx] 33)).cell? ⟨w.heap.size, 1, none⟩ = some (.string ⟨#[]⟩) := o0.cell 1
    have hg2 : (w5.alloc (.cells #[.bool nx, .string sx, .string tx] 33)).cell? ⟨w.heap.size, 2, none⟩ = some (.string ⟨#[]⟩) := o0.cell 2
    have hf0 := o0.frozen 0
    have hf1 := o0.frozen 1
    have hf2 := o0.frozen 2
    have k0 := o7.cell 0
    have k1 := o7.cell 1
    have k2 := o7.cell 2
    simp only [List.getElem?_cons_zero, List.getElem?_cons_succ] at k0 k1 k2
    have oz := o0.set3 (.bool nx) (.string sx) (.string tx)
    have sz9 := Below.set3 hbw (Nat.le_refl _) (.bool nx) (.string sx) (.string tx)
    go_wp2_with fail
    generalize ((((w5.alloc (.cells #[.bool nx, .string sx, .string tx] 33)).setCell ⟨w.heap.size, 0, none⟩ (.bool nx)).setCell ⟨w.heap.size, 1, none⟩ (.string sx)).setCell ⟨w.heap.size, 2, none⟩ (.string tx)) = wz at oz sz9 ⊢
    have z0 : wz.cell? ⟨w.heap.size, 0, none⟩ = some (.bool nx) := oz.cell 0
    have z1 : wz.cell? ⟨w.heap.size, 1, none⟩ = some (.string sx) := oz.cell 1
    have z2 : wz.cell? ⟨w.heap.size, 2, none⟩ = some (.string tx) := oz.cell 2
    exact bodyPost_ret (v := .agg #[.bool nx, .string sx, .string tx]) (by simp [results, Try.results23, go_sem, z0, z1, z2]) rfl ⟨⟨x, by rw [HX.out], HF.out⟩, sz9⟩
  · obtain ⟨o7, hb7⟩ := new1 w5 [.bool false, .string ⟨#[]⟩, .string ⟨#[]⟩] 33
    replace o0 := o0.alloc (.cells #[.bool false, .string ⟨#[]⟩, .string ⟨#[]⟩] 33)
    replace hbw := below6 hbw hb7
    have hg0 : (w5.alloc (.cells #[.bool false, .string ⟨#[]⟩, .string ⟨#[]⟩] 33)).cell? ⟨w.heap.size, 0, none⟩ = some (.bool false) := o0.cell 0
    have hg1 : (w5.alloc (.cells #[.bool false, .string ⟨#[]⟩, .string ⟨#[]⟩] 33)).cell? ⟨w.heap.size, 1, none⟩ = some (.string ⟨#[]⟩) := o0.cell 1
    have hg2 : (w5.alloc (.cells #[.bool false, .string ⟨#[]⟩, .string ⟨#[]⟩] 33)).cell? ⟨w.heap.size, 2, none⟩ = some (.string ⟨#[]⟩) := o0.cell 2
    have hf0 := o0.frozen 0
    have hf1 := o0.frozen 1
    have hf2 := o0.frozen 2
    have k0 := o7.cell 0
    have k1 := o7.cell 1
    have k2 := o7.cell 2
    simp only [List.getElem?_cons_zero, List.getElem?_cons_succ] at k0 k1 k2
    have oz := o0.set3 (.bool false) (.string ⟨#[48]⟩) (.string ⟨#[49]⟩)
    have sz9 := Below.set3 hbw (Nat.le_refl _) (.bool false) (.string ⟨#[48]⟩) (.string ⟨#[49]⟩)
    go_wp2_with fail
    generalize ((((w5.alloc (.cells #[.bool false, .string ⟨#[]⟩, .string ⟨#[]⟩] 33)).setCell ⟨w.heap.size, 0, none⟩ (.bool false)).setCell ⟨w.heap.size, 1, none⟩ (.string ⟨#[48]⟩)).setCell ⟨w.heap.size, 2, none⟩ (.string ⟨#[49]⟩)) = wz at oz sz9 ⊢
    have z0 : wz.cell? ⟨w.heap.size, 0, none⟩ = some (.bool false) := oz.cell 0
    have z1 : wz.cell? ⟨w.heap.size, 1, none⟩ = some (.string ⟨#[48]⟩) := oz.cell 1
    have z2 : wz.cell? ⟨w.heap.size, 2, none⟩ = some (.string ⟨#[49]⟩) := oz.cell 2
    exact bodyPost_ret (v := .agg #[.bool false, .string ⟨#[48]⟩, .string ⟨#[49]⟩]) (by simp [results, Try.results23, go_sem, z0, z1, z2]) rfl ⟨⟨0, rfl, HF.out⟩, sz9⟩
end Go.Proofs.Ytofijnhkoadfjaa
