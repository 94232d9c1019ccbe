/- The reference's NatCompare, NatSub; the program's NatSub, NatGcd. -/
import Derived.Test.YtofijnhkoadfjaaDoorRf
import Derived.Test.YtofijnhkoadfjaaDoorLa
namespace Go.Proofs.YtofijnhkoadfjaaDoor
set_option linter.unusedSimpArgs false
set_option linter.unusedVariables false
set_option linter.unusedSectionVars false
open Go.RowKit Dg

/-- What a difference is as text: ErrRange where there is none. -/
def SubRes (m n : Nat) (e : Ending) : Prop := (m < n ∧ e = .returned (.tuple #[.string ⟨#[]⟩, .int .i64 8])) ∨ (n ≤ m ∧ TextRes (m - n) e)
theorem SubRes.eq {m n : Nat} {e e' : Ending} (h : SubRes m n e) (h' : SubRes m n e') : e = e' := by
  rcases h with ⟨h1, rfl⟩ | ⟨h1, h2⟩
  · rcases h' with ⟨g1, rfl⟩ | ⟨g1, g2⟩
    · rfl
    · omega
  · rcases h' with ⟨g1, rfl⟩ | ⟨g1, g2⟩
    · omega
    · rcases h2 with ⟨a, rfl⟩ | ⟨a, rfl⟩
      · rcases g2 with ⟨b, rfl⟩ | ⟨b, rfl⟩
        · rfl
        · exact absurd a b
      · rcases g2 with ⟨b, rfl⟩ | ⟨b, rfl⟩
        · exact absurd b a
        · rfl

set_option maxHeartbeats 2000000 in
theorem natcmp_ref (m n : Nat) (w : World) (hm : OkN m) (hn : OkN n) :
    Calls Tryd.prog 24 #[.string (S m), .string (S n)] w fun e w' => e = .returned (.int .i64 (cmpI m n)) ∧ Below w.heap.size w w' := by
  have H1 := Lib.hid hm
  have H2 := Lib.hid hn
  have HV1 := Lib.hid hm.vld
  have HV2 := Lib.hid hn.vld
  have HG1 := fun W => Lib.hid (big_S m W hm)
  have HG2 := fun W => Lib.hid (big_S n W hn)
  clear hm hn
  generalize S m = s1 at HV1 HG1 ⊢
  generalize S n = s2 at HV2 HG2 ⊢
  go_enter Tryd.func24, Tryd.ntmps24
  go_wp2_with fail
  refine (validr_yes _ HV1.out).mono ?_
  rintro e w1 ⟨rfl, rfl⟩
  go_wp2_with fail
  refine (validr_yes _ HV2.out).mono ?_
  rintro e w1 ⟨rfl, rfl⟩
  go_wp2_with fail
  refine (HG1 _).out.mono ?_
  rintro e w1 ⟨v1, rfl, hv1, hb1⟩
  go_wp2_with fail
  refine (HG2 _).out.mono ?_
  rintro e w2 ⟨v2, rfl, hv2, hb2⟩
  go_wp2_with fail
  refine (less_ref _ (hv1.below hb2) hv2).mono ?_
  rintro e w3 ⟨rfl, hb3⟩
  have hb : Below w.heap.size w w3 := (hb1.trans (hb2.mono hb1.size)).trans (hb3.mono (hb1.trans (hb2.mono hb1.size)).size)
  go_wp2
  go_ret
  exact ⟨rfl, hb⟩

set_option maxHeartbeats 2000000 in
theorem natsub_ref (m n : Nat) (w : World) (hm : OkN m) (hn : OkN n) :
    Calls Tryd.prog 19 #[.string (S m), .string (S n)] w fun e w' => SubRes m n e ∧ Below w.heap.size w w' := by
  have H1 := Lib.hid hm
  have H2 := Lib.hid hn
  have HV1 := Lib.hid hm.vld
  have HV2 := Lib.hid hn.vld
  have HG1 := fun W => Lib.hid (big_S m W hm)
  have HG2 := fun W => Lib.hid (big_S n W hn)
  clear hm hn
  generalize S m = s1 at HV1 HG1 ⊢
  generalize S n = s2 at HV2 HG2 ⊢
  go_enter Tryd.func19, Tryd.ntmps19
  go_wp2_with fail
  refine (validr_yes _ HV1.out).mono ?_
  rintro e w1 ⟨rfl, rfl⟩
  go_wp2_with fail
  refine (validr_yes _ HV2.out).mono ?_
  rintro e w1 ⟨rfl, rfl⟩
  go_wp2_with fail
  refine (HG1 _).out.mono ?_
  rintro e w1 ⟨v1, rfl, hv1, hb1⟩
  go_wp2_with fail
  refine (HG2 _).out.mono ?_
  rintro e w2 ⟨v2, rfl, hv2, hb2⟩
  go_wp2_with fail
  refine (less_ref _ (hv1.below hb2) hv2).mono ?_
  rintro e w3 ⟨rfl, hb3⟩
  have hb : Below w.heap.size w w3 := (hb1.trans (hb2.mono hb1.size)).trans (hb3.mono (hb1.trans (hb2.mono hb1.size)).size)
  by_cases hlt : m < n
  · have hc : cmpI m n < 0 := by rw [cmpI_lt hlt]; decide
    have HLT := Lib.hid hlt
    clear hlt
    generalize cmpI m n = ci at hc ⊢
    go_wp2
    go_ret2
    exact ⟨.inl ⟨HLT.out, rfl⟩, hb⟩
  · have hc : 0 ≤ cmpI m n := by
      unfold cmpI
      rw [if_neg hlt]
      split <;> decide
    have HLE : Hid (n ≤ m) := Nat.le_of_not_lt hlt
    clear hlt
    generalize cmpI m n = ci at hc ⊢
    go_wp2_with fail
    refine (HG1 _).out.mono ?_
    rintro e w4 ⟨v3, rfl, hv3, hb4⟩
    go_wp2_with fail
    refine (HG2 _).out.mono ?_
    rintro e w5 ⟨v4, rfl, hv4, hb5⟩
    go_wp2_with fail
    refine (minus_ref _ (hv3.below hb5) hv4 (by have := H1.out.dk; omega) HLE.out).mono ?_
    rintro e w6 ⟨v5, rfl, hv5, hb6⟩
    have hbb : Below w.heap.size w w6 := ((hb.trans (hb4.mono hb.size)).trans (hb5.mono (hb.trans (hb4.mono hb.size)).size)).trans (hb6.mono ((hb.trans (hb4.mono hb.size)).trans (hb5.mono (hb.trans (hb4.mono hb.size)).size)).size)
    go_wp2_with fail
    refine (done_ref _ hv5 (Nat.le_trans (Dg.dg_mono b10k (Nat.sub_le m n)) (Nat.le_trans H1.out.dk (by decide)))).mono ?_
    rintro e w7 ⟨hr, hb7⟩
    have hb' := hbb.trans (hb7.mono hbb.size)
    rcases hr with ⟨h1, rfl⟩ | ⟨h1, rfl⟩
    all_goals
      have HOK := Lib.hid h1
      clear h1
      go_wp2
      go_ret2
      first | exact ⟨.inr ⟨HLE.out, .inl ⟨HOK.out, rfl⟩⟩, hb'⟩ | exact ⟨.inr ⟨HLE.out, .inr ⟨HOK.out, rfl⟩⟩, hb'⟩

set_option maxHeartbeats 2000000 in
theorem natsub_yes (m n : Nat) (w : World) (hm : OkN m) (hn : OkN n) :
    Calls Tryd.prog 18 #[.string (S m), .string (S n)] w fun e w' => SubRes m n e ∧ Below w.heap.size w w' := by
  have h1 := hm.dw
  have h2 := hn.dw
  have HB := Lib.hid (both_yes m n w hm hn)
  have HD : Hid ((dw (m - n)).length ≤ 1048000) := Nat.le_trans (dg_mono b32 (Nat.sub_le m n)) (by show (dw m).length ≤ _; omega)
  clear hm hn
  generalize S m = s at HB ⊢
  generalize S n = t at HB ⊢
  go_enter Tryd.func18, Tryd.ntmps18
  go_wp2_with fail
  refine HB.out.mono ?_
  rintro e w1 ⟨v1, v2, rfl, hv1, hv2, hb1⟩
  go_wp2_with fail
  refine (cmp_any _ hv1 hv2).mono ?_
  rintro e w2 ⟨rfl, hb2⟩
  have hb := hb1.trans (hb2.mono hb1.size)
  by_cases hlt : m < n
  · have hc : cmpI m n < 0 := by rw [cmpI_lt hlt]; decide
    have HLT := Lib.hid hlt
    clear hlt
    generalize cmpI m n = ci at hc ⊢
    go_wp2
    go_ret2
    exact ⟨.inl ⟨HLT.out, rfl⟩, hb⟩
  · have hc : 0 ≤ cmpI m n := by
      unfold cmpI
      rw [if_neg hlt]
      split <;> decide
    have HLE : Hid (n ≤ m) := Nat.le_of_not_lt hlt
    clear hlt
    generalize cmpI m n = ci at hc ⊢
    go_wp2_with fail
    refine (sub_any _ (hv1.below hb2) (hv2.below hb2) (by omega) HLE.out).mono ?_
    rintro e w3 ⟨v3, rfl, hv3, hb3⟩
    have hbb := hb.trans (hb3.mono hb.size)
    go_wp2_with fail
    refine (text_any _ hv3 HD.out).mono ?_
    rintro e w7 ⟨hr, hb7⟩
    have hb' := hbb.trans (hb7.mono hbb.size)
    rcases hr with ⟨h1, rfl⟩ | ⟨h1, rfl⟩
    all_goals
      have HOK := Lib.hid h1
      clear h1
      go_wp2
      go_ret2
      first | exact ⟨.inr ⟨HLE.out, .inl ⟨HOK.out, rfl⟩⟩, hb'⟩ | exact ⟨.inr ⟨HLE.out, .inr ⟨HOK.out, rfl⟩⟩, hb'⟩
end Go.Proofs.YtofijnhkoadfjaaDoor
/- The reference's NatDiv. -/
namespace Go.Proofs.YtofijnhkoadfjaaDoor
set_option linter.unusedSimpArgs false
set_option linter.unusedVariables false
set_option linter.unusedSectionVars false
open Go.RowKit Dg

end Go.Proofs.YtofijnhkoadfjaaDoor
