/- The law EncloseLogs as a walk. -/
import Derived.Test.YtdjkgjpehneejaaRv
namespace Go.Proofs.Ytdjkgjpehneejaa
set_option linter.unusedSimpArgs false
set_option linter.unusedVariables false
set_option linter.unusedSectionVars false
open Go.RowKit Dg

set_option maxRecDepth 100000 in
set_option maxHeartbeats 8000000 in
theorem law_logs (A : Option Addr) (l : List Int) (c : Nat) (k0 : Int) (w : World) (hA : Ints w A l) (hl : l.length ≤ c) (hc : c ≤ maxLen) (hw : Wide l) (hk1 : -9223372036854775808 ≤ k0) (hk2 : k0 ≤ 9223372036854775807) :
    Calls Try.prog 5 #[.slice A l.length c, .int .i64 k0] w (Holds w) := by
  have HN := Lib.hid (new_any A l c w hA hl hc hw)
  obtain ⟨kk, hkk, hmod⟩ := mod_small k0 6 hk1 hk2 (by decide) (by decide)
  have HM := Lib.hid hmod
  clear hA hw hmod hk1 hk2
  go_enter Try.func5, Try.ntmps5
  go_wp2_with fail
  refine HN.out.mono ?_
  rintro e w1 ⟨rfl, ⟨l', hT⟩, hbw⟩
  have hS : ∀ k, k < w.heap.size → ¬ (k = w.heap.size) := fun k hk e => by omega
  have HS := Lib.hid hS
  clear HN hS
  generalize hpp : w.heap.size = p at hT HS ⊢
  rw [← hpp] at HS
  have HPP := Lib.hid hpp
  clear hpp
  go_wp2_with fail
  refine (some37 true p A l' c 0 _ hT).mono ?_
  rintro e ws1 ⟨⟨x, rfl, fx, px⟩, ⟨a1, hT'⟩, hc1⟩
  replace hbw := hbw.trans (hc1.below (B := w.heap.size) (fun k hk e => HS.out k hk (by rw [HPP.out]; exact e)) hbw.size)
  clear hT hc1
  have hT := hT'
  clear hT'
  clear hT HS HPP
  have x0 := px (by simp)
  obtain ⟨na, ha, ha1, ha2, hlog, hbits⟩ := ebits_yes (k := kk) (fx.mono (by decide)) x0 (by omega) w
  obtain ⟨hlog2, hbits2⟩ := rbits_yes (k := kk) (fx.mono (by decide)) x0 (by omega) ha ha1 ha2
  generalize (if p2 na = x ^ 2 ^ kk then uq na kk else uq (na + 1) kk) = ah at *
  generalize uq na kk = al at *
  generalize decide (p2 na = x ^ 2 ^ kk) = be at *
  have HL1 := Lib.hid hlog
  have HL2 := Lib.hid hlog2
  have HB1 := Lib.hid hbits
  have HB2 := Lib.hid hbits2
  obtain ⟨nx, sx, tx, hx⟩ := rv_open' x
  obtain ⟨na1, sa1, ta1, e1, na2, sa2, ta2, e2, e3⟩ := iv_open al ah
  rw [hx] at HL1 HL2
  rw [hx, e3] at HB1 HB2
  rw [hx]
  have hkI : (kk : Int) < 6 := by omega
  clear hlog hlog2 hbits hbits2 hx e1 e2 e3 ha fx x0 px hkk ha1 ha2
  obtain ⟨o_x, hz1⟩ := new1 ws1 [.bool nx, .string sx, .string tx] 26
  replace hbw := below6 hbw hz1
  clear hz1
  go_wp2_with fail
  generalize (ws1.alloc (.cells #[.bool nx, .string sx, .string tx] 26)) = wa2 at o_x hbw ⊢
  generalize ws1.heap.size = g2 at o_x ⊢
  refine (HM.out _).mono ?_
  rintro e wm ⟨rfl, rfl⟩
  have qx_0 : wa2.cell? ⟨g2, 0, none⟩ = some (.bool nx) := o_x.cell 0
  have qx_1 : wa2.cell? ⟨g2, 1, none⟩ = some (.string sx) := o_x.cell 1
  have qx_2 : wa2.cell? ⟨g2, 2, none⟩ = some (.string tx) := o_x.cell 2
  go_wp2_with fail
  clear qx_0 qx_1 qx_2
  refine (HL1.out _).mono ?_
  rintro e w3 ⟨rfl, hb3⟩
  replace o_x := o_x.below hb3 o_x.lt
  replace hbw := below6 hbw hb3
  clear hb3
  have qx_0 : w3.cell? ⟨g2, 0, none⟩ = some (.bool nx) := o_x.cell 0
  have qx_1 : w3.cell? ⟨g2, 1, none⟩ = some (.string sx) := o_x.cell 1
  have qx_2 : w3.cell? ⟨g2, 2, none⟩ = some (.string tx) := o_x.cell 2
  go_wp2_with fail
  clear qx_0 qx_1 qx_2
  refine (HL2.out _).mono ?_
  rintro e w4 ⟨rfl, hb4⟩
  replace o_x := o_x.below hb4 o_x.lt
  replace hbw := below6 hbw hb4
  clear hb4
  have qx_0 : w4.cell? ⟨g2, 0, none⟩ = some (.bool nx) := o_x.cell 0
  have qx_1 : w4.cell? ⟨g2, 1, none⟩ = some (.string sx) := o_x.cell 1
  have qx_2 : w4.cell? ⟨g2, 2, none⟩ = some (.string tx) := o_x.cell 2
  go_wp2_with fail
  clear qx_0 qx_1 qx_2
  refine (HB1.out _).mono ?_
  rintro e w5 ⟨rfl, hb5⟩
  replace o_x := o_x.below hb5 o_x.lt
  replace hbw := below6 hbw hb5
  clear hb5
  obtain ⟨o_a, hz6⟩ := new1 w5 [.bool na1, .string sa1, .string ta1, .bool na2, .string sa2, .string ta2] 37
  replace o_x := o_x.alloc (.cells #[.bool na1, .string sa1, .string ta1, .bool na2, .string sa2, .string ta2] 37)
  replace hbw := below6 hbw hz6
  clear hz6
  have qx_0 : (w5.alloc (.cells #[.bool na1, .string sa1, .string ta1, .bool na2, .string sa2, .string ta2] 37)).cell? ⟨g2, 0, none⟩ = some (.bool nx) := o_x.cell 0
  have qx_1 : (w5.alloc (.cells #[.bool na1, .string sa1, .string ta1, .bool na2, .string sa2, .string ta2] 37)).cell? ⟨g2, 1, none⟩ = some (.string sx) := o_x.cell 1
  have qx_2 : (w5.alloc (.cells #[.bool na1, .string sa1, .string ta1, .bool na2, .string sa2, .string ta2] 37)).cell? ⟨g2, 2, none⟩ = some (.string tx) := o_x.cell 2
  go_wp2_with fail
  generalize (w5.alloc (.cells #[.bool na1, .string sa1, .string ta1, .bool na2, .string sa2, .string ta2] 37)) = wa7 at o_x o_a hbw ⊢
  generalize w5.heap.size = g7 at o_a ⊢
  clear qx_0 qx_1 qx_2
  refine (HB2.out _).mono ?_
  rintro e w8 ⟨rfl, hb8⟩
  replace o_x := o_x.below hb8 o_x.lt
  replace o_a := o_a.below hb8 o_a.lt
  replace hbw := below6 hbw hb8
  clear hb8
  obtain ⟨o_b, hz9⟩ := new1 w8 [.bool na1, .string sa1, .string ta1, .bool na2, .string sa2, .string ta2] 37
  replace o_x := o_x.alloc (.cells #[.bool na1, .string sa1, .string ta1, .bool na2, .string sa2, .string ta2] 37)
  replace o_a := o_a.alloc (.cells #[.bool na1, .string sa1, .string ta1, .bool na2, .string sa2, .string ta2] 37)
  replace hbw := below6 hbw hz9
  clear hz9
  have qa_0 : (w8.alloc (.cells #[.bool na1, .string sa1, .string ta1, .bool na2, .string sa2, .string ta2] 37)).cell? ⟨g7, 0, none⟩ = some (.bool na1) := o_a.cell 0
  have qa_1 : (w8.alloc (.cells #[.bool na1, .string sa1, .string ta1, .bool na2, .string sa2, .string ta2] 37)).cell? ⟨g7, 1, none⟩ = some (.string sa1) := o_a.cell 1
  have qa_2 : (w8.alloc (.cells #[.bool na1, .string sa1, .string ta1, .bool na2, .string sa2, .string ta2] 37)).cell? ⟨g7, 2, none⟩ = some (.string ta1) := o_a.cell 2
  have qa_3 : (w8.alloc (.cells #[.bool na1, .string sa1, .string ta1, .bool na2, .string sa2, .string ta2] 37)).cell? ⟨g7, 3, none⟩ = some (.bool na2) := o_a.cell 3
  have qa_4 : (w8.alloc (.cells #[.bool na1, .string sa1, .string ta1, .bool na2, .string sa2, .string ta2] 37)).cell? ⟨g7, 4, none⟩ = some (.string sa2) := o_a.cell 4
  have qa_5 : (w8.alloc (.cells #[.bool na1, .string sa1, .string ta1, .bool na2, .string sa2, .string ta2] 37)).cell? ⟨g7, 5, none⟩ = some (.string ta2) := o_a.cell 5
  have qb_0 : (w8.alloc (.cells #[.bool na1, .string sa1, .string ta1, .bool na2, .string sa2, .string ta2] 37)).cell? ⟨w8.heap.size, 0, none⟩ = some (.bool na1) := o_b.cell 0
  have qb_1 : (w8.alloc (.cells #[.bool na1, .string sa1, .string ta1, .bool na2, .string sa2, .string ta2] 37)).cell? ⟨w8.heap.size, 1, none⟩ = some (.string sa1) := o_b.cell 1
  have qb_2 : (w8.alloc (.cells #[.bool na1, .string sa1, .string ta1, .bool na2, .string sa2, .string ta2] 37)).cell? ⟨w8.heap.size, 2, none⟩ = some (.string ta1) := o_b.cell 2
  have qb_3 : (w8.alloc (.cells #[.bool na1, .string sa1, .string ta1, .bool na2, .string sa2, .string ta2] 37)).cell? ⟨w8.heap.size, 3, none⟩ = some (.bool na2) := o_b.cell 3
  have qb_4 : (w8.alloc (.cells #[.bool na1, .string sa1, .string ta1, .bool na2, .string sa2, .string ta2] 37)).cell? ⟨w8.heap.size, 4, none⟩ = some (.string sa2) := o_b.cell 4
  have qb_5 : (w8.alloc (.cells #[.bool na1, .string sa1, .string ta1, .bool na2, .string sa2, .string ta2] 37)).cell? ⟨w8.heap.size, 5, none⟩ = some (.string ta2) := o_b.cell 5
  go_wp2_with fail
  generalize (w8.alloc (.cells #[.bool na1, .string sa1, .string ta1, .bool na2, .string sa2, .string ta2] 37)) = wa10 at o_x o_a o_b hbw ⊢
  generalize w8.heap.size = g10 at o_b ⊢
  clear qa_0 qa_1 qa_2 qa_3 qa_4 qa_5 qb_0 qb_1 qb_2 qb_3 qb_4 qb_5
  refine (known37 _).mono ?_
  rintro e w9 ⟨rfl, hb9⟩
  go_wp2
  go_ret
  exact ⟨rfl, below6 hbw hb9⟩
end Go.Proofs.Ytdjkgjpehneejaa
