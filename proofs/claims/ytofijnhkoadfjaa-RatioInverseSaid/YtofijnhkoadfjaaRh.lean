/- The reference: done, NatAdd, NatMul, NatGcd. -/
import Derived.Test.YtofijnhkoadfjaaRg
namespace Go.Proofs.Ytofijnhkoadfjaa
set_option linter.unusedSimpArgs false
set_option linter.unusedVariables false
set_option linter.unusedSectionVars false
open Go.RowKit Dg

set_option maxHeartbeats 2000000 in
theorem done_ref {v : Value} {n : Nat} (w : World) (hv : BigV w v n) (hl : (dk n).length ≤ 300000) :
    Calls Try.prog 58 #[v] w fun e w' => TextRes n e ∧ Below w.heap.size w w' := by
  have HS := Lib.hid (textr_any w hv hl)
  clear hv
  have hsz := S_size n
  by_cases hok : OkN n
  · have hok1 : (S n).size ≤ 20000 := by rw [hsz]; exact hok
    have d3 : decide ((20000 : Int) < ((S n).size : Int)) = false := decide_eq_false (by omega)
    have d4 : decide (20000 < (S n).size) = false := decide_eq_false (by omega)
    have hok' := Lib.hid hok
    clear hok hsz
    go_enter Try.func58, Try.ntmps58
    go_wp2_with fail
    refine HS.out.mono ?_
    rintro e w1 ⟨rfl, hb1⟩
    go_wp2
    go_ret2
    exact ⟨.inl ⟨hok'.out, rfl⟩, hb1⟩
  · have hok1 : 20000 < (S n).size := by rw [hsz]; unfold OkN at hok; omega
    have d3 : decide ((20000 : Int) < ((S n).size : Int)) = true := decide_eq_true (by omega)
    have d4 : decide (20000 < (S n).size) = true := decide_eq_true hok1
    have hok' := Lib.hid hok
    clear hok hsz hok1
    go_enter Try.func58, Try.ntmps58
    go_wp2_with fail
    refine HS.out.mono ?_
    rintro e w1 ⟨rfl, hb1⟩
    go_wp2
    go_ret2
    exact ⟨.inr ⟨hok'.out, rfl⟩, hb1⟩

theorem dk_dec (n : Nat) : (dk n).length ≤ (dec n).length := by
  refine Dg.dg_le b10k (Nat.lt_of_lt_of_le (dec_lt n) (Nat.pow_le_pow_left (by decide) _))
theorem OkN.dk {n : Nat} (h : OkN n) : (dk n).length ≤ 20000 := Nat.le_trans (dk_dec n) h
theorem big_S (n : Nat) (w : World) (h : OkN n) : Calls Try.prog 60 #[.string (S n)] w fun e w' => ∃ v, e = .returned v ∧ BigV w' v n ∧ Below w.heap.size w w' := by
  have := big_any (S n) (dec n) w (S_list n) (dec_dig n) (by have : (dec n).length ≤ 20000 := h; omega)
  rw [num_dec] at this
  exact this

set_option maxHeartbeats 2000000 in
theorem natadd_ref (m n : Nat) (w : World) (hm : OkN m) (hn : OkN n) :
    Calls Try.prog 17 #[.string (S m), .string (S n)] w fun e w' => TextRes (m + n) e ∧ Below w.heap.size w w' := by
  have HB : Hid ((dk (m + n)).length ≤ 300000) := by show _ ≤ _; have := Dg.dg_add_len b10k m n; have h1 := hm.dk; have h2 := hn.dk; unfold dk at *; omega
  have H1 := Lib.hid hm
  have H2 := Lib.hid hn
  have HV1 := Lib.hid hm.vld
  have HV2 := Lib.hid hn.vld
  have HG1 := fun W => Lib.hid (big_S m W hm)
  have HG2 := fun W => Lib.hid (big_S n W hn)
  clear hm hn
  generalize S m = s1 at HV1 HG1 ⊢
  generalize S n = s2 at HV2 HG2 ⊢
  go_enter Try.func17, Try.ntmps17
  go_wp2_with fail
  refine (validr_yes _ HV1.out).mono ?_
  rintro e w1 ⟨rfl, rfl⟩
  go_wp2_with fail
  refine (validr_yes _ HV2.out).mono ?_
  rintro e w1 ⟨rfl, rfl⟩
  go_wp2_with fail
  refine (HG1 _).out.mono ?_
  rintro e w1 ⟨v1, rfl, hv1, hb1⟩
  go_wp2_with fail
  refine (HG2 _).out.mono ?_
  rintro e w2 ⟨v2, rfl, hv2, hb2⟩
  go_wp2_with fail
  refine (plus_ref _ (hv1.below hb2) hv2 (by have := H1.out.dk; omega) (by have := H2.out.dk; omega)).mono ?_
  rintro e w3 ⟨v3, rfl, hv3, hb3⟩
  go_wp2_with fail
  refine (done_ref _ hv3 HB.out).mono ?_
  rintro e w4 ⟨hr, hb4⟩
  have hb : Below w.heap.size w w4 := ((hb1.trans (hb2.mono hb1.size)).trans (hb3.mono (hb1.trans (hb2.mono hb1.size)).size)).trans (hb4.mono ((hb1.trans (hb2.mono hb1.size)).trans (hb3.mono (hb1.trans (hb2.mono hb1.size)).size)).size)
  rcases hr with ⟨h1, rfl⟩ | ⟨h1, rfl⟩
  · have HOK := Lib.hid h1
    clear h1
    go_wp2
    go_ret2
    exact ⟨.inl ⟨HOK.out, rfl⟩, hb⟩
  · have HOK := Lib.hid h1
    clear h1
    go_wp2
    go_ret2
    exact ⟨.inr ⟨HOK.out, rfl⟩, hb⟩

set_option maxHeartbeats 2000000 in
theorem natmul_ref (m n : Nat) (w : World) (hm : OkN m) (hn : OkN n) :
    Calls Try.prog 19 #[.string (S m), .string (S n)] w fun e w' => TextRes (m * n) e ∧ Below w.heap.size w w' := by
  have HB : Hid ((dk (m * n)).length ≤ 300000) := Nat.le_trans (Dg.dg_mul_len b10k m n) (Nat.le_trans (Nat.add_le_add hm.dk hn.dk) (by decide))
  have H1 := Lib.hid hm
  have H2 := Lib.hid hn
  have HV1 := Lib.hid hm.vld
  have HV2 := Lib.hid hn.vld
  have HG1 := fun W => Lib.hid (big_S m W hm)
  have HG2 := fun W => Lib.hid (big_S n W hn)
  clear hm hn
  generalize S m = s1 at HV1 HG1 ⊢
  generalize S n = s2 at HV2 HG2 ⊢
  go_enter Try.func19, Try.ntmps19
  go_wp2_with fail
  refine (validr_yes _ HV1.out).mono ?_
  rintro e w1 ⟨rfl, rfl⟩
  go_wp2_with fail
  refine (validr_yes _ HV2.out).mono ?_
  rintro e w1 ⟨rfl, rfl⟩
  go_wp2_with fail
  refine (HG1 _).out.mono ?_
  rintro e w1 ⟨v1, rfl, hv1, hb1⟩
  go_wp2_with fail
  refine (HG2 _).out.mono ?_
  rintro e w2 ⟨v2, rfl, hv2, hb2⟩
  go_wp2_with fail
  refine (times_ref _ (hv1.below hb2) hv2 (by have := H1.out.dk; omega) (by have := H2.out.dk; omega)).mono ?_
  rintro e w3 ⟨v3, rfl, hv3, hb3⟩
  go_wp2_with fail
  refine (done_ref _ hv3 HB.out).mono ?_
  rintro e w4 ⟨hr, hb4⟩
  have hb : Below w.heap.size w w4 := ((hb1.trans (hb2.mono hb1.size)).trans (hb3.mono (hb1.trans (hb2.mono hb1.size)).size)).trans (hb4.mono ((hb1.trans (hb2.mono hb1.size)).trans (hb3.mono (hb1.trans (hb2.mono hb1.size)).size)).size)
  rcases hr with ⟨h1, rfl⟩ | ⟨h1, rfl⟩
  · have HOK := Lib.hid h1
    clear h1
    go_wp2
    go_ret2
    exact ⟨.inl ⟨HOK.out, rfl⟩, hb⟩
  · have HOK := Lib.hid h1
    clear h1
    go_wp2
    go_ret2
    exact ⟨.inr ⟨HOK.out, rfl⟩, hb⟩

theorem gcd_dk {m n : Nat} (hm : OkN m) (hn : OkN n) : (dk (Nat.gcd m n)).length ≤ 300000 := by
  have h1 := hm.dk
  have h2 := hn.dk
  rcases Nat.eq_zero_or_pos m with rfl | h0
  · rw [Nat.gcd_zero_left]; omega
  · have := Dg.dg_mono b10k (Nat.gcd_le_left n h0)
    unfold Go.Proofs.Ytofijnhkoadfjaa.dk at *
    omega

set_option maxHeartbeats 2000000 in
theorem natgcd_ref (m n : Nat) (w : World) (hm : OkN m) (hn : OkN n) :
    Calls Try.prog 21 #[.string (S m), .string (S n)] w fun e w' => TextRes (Nat.gcd m n) e ∧ Below w.heap.size w w' := by
  have HB : Hid ((dk (Nat.gcd m n)).length ≤ 300000) := gcd_dk hm hn
  have H1 := Lib.hid hm
  have H2 := Lib.hid hn
  have HV1 := Lib.hid hm.vld
  have HV2 := Lib.hid hn.vld
  have HG1 := fun W => Lib.hid (big_S m W hm)
  have HG2 := fun W => Lib.hid (big_S n W hn)
  clear hm hn
  generalize S m = s1 at HV1 HG1 ⊢
  generalize S n = s2 at HV2 HG2 ⊢
  go_enter Try.func21, Try.ntmps21
  go_wp2_with fail
  refine (validr_yes _ HV1.out).mono ?_
  rintro e w1 ⟨rfl, rfl⟩
  go_wp2_with fail
  refine (validr_yes _ HV2.out).mono ?_
  rintro e w1 ⟨rfl, rfl⟩
  go_wp2_with fail
  refine (HG1 _).out.mono ?_
  rintro e w1 ⟨v1, rfl, hv1, hb1⟩
  go_wp2_with fail
  refine (HG2 _).out.mono ?_
  rintro e w2 ⟨v2, rfl, hv2, hb2⟩
  go_wp2_with fail
  refine (gcd_ref _ (hv1.below hb2) hv2 (by have := H1.out.dk; omega) (by have := H2.out.dk; omega)).mono ?_
  rintro e w3 ⟨v3, rfl, hv3, hb3⟩
  go_wp2_with fail
  refine (done_ref _ hv3 HB.out).mono ?_
  rintro e w4 ⟨hr, hb4⟩
  have hb : Below w.heap.size w w4 := ((hb1.trans (hb2.mono hb1.size)).trans (hb3.mono (hb1.trans (hb2.mono hb1.size)).size)).trans (hb4.mono ((hb1.trans (hb2.mono hb1.size)).trans (hb3.mono (hb1.trans (hb2.mono hb1.size)).size)).size)
  rcases hr with ⟨h1, rfl⟩ | ⟨h1, rfl⟩
  · have HOK := Lib.hid h1
    clear h1
    go_wp2
    go_ret2
    exact ⟨.inl ⟨HOK.out, rfl⟩, hb⟩
  · have HOK := Lib.hid h1
    clear h1
    go_wp2
    go_ret2
    exact ⟨.inr ⟨HOK.out, rfl⟩, hb⟩
end Go.Proofs.Ytofijnhkoadfjaa
