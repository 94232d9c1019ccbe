/- Parts of the proof: Ai. No condition of its own. -/
import Derived.Test.YtfenjklilocjgaaGreatDoorAj
set_option linter.unusedSimpArgs false
set_option linter.unusedVariables false
set_option linter.unusedSectionVars false
namespace Go.Proofs.YtfenjklilocjgaaGreatDoor
set_option linter.unusedSimpArgs false
set_option linter.unusedVariables false
set_option linter.unusedSectionVars false
open Go.RowKit Dg

set_option maxRecDepth 100000 in
set_option maxHeartbeats 1000000 in
theorem line_word (s : ByteArray) (hpre : Lib.hasPrefix s.data.toList [60] = false) (hs : OneL s) (hc1 : Lib.countB s ⟨#[9]⟩ = 0) (hc2 : Lib.splitB ⟨#[9]⟩ 0 0 s = [s]) {B g nt nx nr no : Nat} {xs rs os : List Value} (hn : nt ≤ 100)
    (w : World) (hm : MLen w) (h : ST none B g nt nx nr no xs rs os true w) : Calls Tryz.prog 40 #[.pointer (some ⟨g, 0, none⟩), .string s] w fun e w' => e = .returned (.agg #[.int .i64 0, .int .i64 0]) ∧ ST none B g (nt + 1) nx nr no xs rs os true w' ∧ Below B w w' := by
  obtain ⟨A, T, X, R, O, ts, h⟩ := h
  have HC := Lib.hid hc1
  have HD := Lib.hid hc2
  have HS := Lib.hid hs
  clear hc1 hc2 hs
  have hB0 := h.size
  obtain ⟨o_r, hbw⟩ := new1 w [.int .i64 0, .int .i64 0] 97
  replace h := (h.below hbw).box o_r
  replace hm := hm.below hbw
  clear o_r
  have hlt := h.own.lt
  go_enter Tryz.func40, Tryz.ntmps40
  go_upto_region 1 with (fail)
  generalize hwb : (w.alloc (.cells #[.int .i64 0, .int .i64 0] 97)) = wb at hbw h hlt hm ⊢
  clear hwb
  go_wp2_with fail
  refine (Tryz.strings_HasPrefix _ _ _).mono ?_
  rintro e w1 ⟨rfl, rfl⟩
  rw [hpre]
  go_wp2_with fail
  refine (token_yes s _ h hn hm HS.out HC.out HD.out).mono ?_
  rintro e w1 ⟨rfl, ⟨T8, v8, h8⟩, hb1⟩
  have hbB : Below B w w1 := (hbw.mono hB0).trans hb1
  clear hb1 hbw hlt h hm
  have ok := h8.bx _ rfl
  have d0 : w1.cell? ⟨w.heap.size, 0, none⟩ = some (.int .i64 0) := ok.cell 0
  have d1 : w1.cell? ⟨w.heap.size, 1, none⟩ = some (.int .i64 0) := ok.cell 1
  have f0 := ok.frozen 0
  have f1 := ok.frozen 1
  have h9 := (h8.setK 0 rfl).setK 1 rfl
  have hb9 := (hbB.setCell (p := ⟨w.heap.size, 0, none⟩) hB0 (.int .i64 0)).setCell (p := ⟨w.heap.size, 1, none⟩) hB0 (.int .i64 0)
  clear h8 ok
  go_wp2
  generalize ((w1.setCell ⟨w.heap.size, 0, none⟩ (.int .i64 0)).setCell ⟨w.heap.size, 1, none⟩ (.int .i64 0)) = w5 at h9 hb9 ⊢
  have ok := h9.bx _ rfl
  have z0 : w5.cell? ⟨w.heap.size, 0, none⟩ = some (.int .i64 0) := ok.cell 0
  have z1 : w5.cell? ⟨w.heap.size, 1, none⟩ = some (.int .i64 0) := ok.cell 1
  exact bodyPost_ret (v := .agg #[.int .i64 0, .int .i64 0]) (by simp [results, Tryz.results40, go_sem, z0, z1]) rfl ⟨rfl, ⟨_, _, _, _, _, _, h9.bare⟩, hb9⟩
theorem low_o : Low ⟨#[60, 115, 62]⟩ 1 1 := by
  intro j h3 h1 h2
  have : j = 1 := by omega
  rcases this with rfl <;> decide +revert
theorem low_c : Low ⟨#[60, 47, 115, 62]⟩ 2 1 := by
  intro j h3 h1 h2
  have : j = 2 := by omega
  rcases this with rfl <;> decide +revert
theorem low_ct : Low ⟨#[60, 47, 116, 101, 120, 116, 62]⟩ 2 4 := by
  intro j h3 h1 h2
  have : j = 2 ∨ j = 3 ∨ j = 4 ∨ j = 5 := by omega
  rcases this with rfl | rfl | rfl | rfl <;> decide +revert
theorem low_k1 : Low ⟨#[60, 116, 101, 120, 116, 32, 105, 100, 61, 34, 116, 34, 62]⟩ 1 4 := by
  intro j h3 h1 h2
  have : j = 1 ∨ j = 2 ∨ j = 3 ∨ j = 4 := by omega
  rcases this with rfl | rfl | rfl | rfl <;> decide +revert
theorem low_k2 : Low ⟨#[60, 116, 101, 120, 116, 32, 105, 100, 61, 34, 116, 34, 62]⟩ 6 2 := by
  intro j h3 h1 h2
  have : j = 6 ∨ j = 7 := by omega
  rcases this with rfl | rfl <;> decide +revert
theorem low_t : Low ⟨#[116]⟩ 0 1 := by
  intro j h3 h1 h2
  have : j = 0 := by omega
  rcases this with rfl <;> decide +revert
theorem ext_o : ByteArray.extract ⟨#[60, 115, 62]⟩ 1 (1 + 1) = ⟨#[115]⟩ := by decide
theorem pt_o : RetV 74 #[.string ⟨#[60, 115, 62]⟩] (.tuple #[.agg #[.bool false, .string ⟨#[115]⟩, .slice none 0 0], .int .i64 0, .int .i64 0]) := by
  refine parseTag_nil _ _ _ fun g w ho => ?_
  have h9 := tag_open g 1 _ w ho (by decide) (by decide) (by decide) rfl (by decide) low_o (by decide)
  rw [ext_o] at h9
  exact h9
theorem ext_c : ByteArray.extract ⟨#[60, 47, 115, 62]⟩ 2 (2 + 1) = ⟨#[115]⟩ := by decide
theorem pt_c : RetV 74 #[.string ⟨#[60, 47, 115, 62]⟩] (.tuple #[.agg #[.bool true, .string ⟨#[115]⟩, .slice none 0 0], .int .i64 0, .int .i64 0]) := by
  refine parseTag_nil _ _ _ fun g w ho => ?_
  have h9 := tag_close g 1 _ w ho (by decide) (by decide) (by decide) rfl (by decide) (by decide) low_c (by decide)
  rw [ext_c] at h9
  exact h9
theorem ext_ct : ByteArray.extract ⟨#[60, 47, 116, 101, 120, 116, 62]⟩ 2 (2 + 4) = ⟨#[116, 101, 120, 116]⟩ := by decide
theorem pt_ct : RetV 74 #[.string ⟨#[60, 47, 116, 101, 120, 116, 62]⟩] (.tuple #[.agg #[.bool true, .string ⟨#[116, 101, 120, 116]⟩, .slice none 0 0], .int .i64 0, .int .i64 0]) := by
  refine parseTag_nil _ _ _ fun g w ho => ?_
  have h9 := tag_close g 4 _ w ho (by decide) (by decide) (by decide) rfl (by decide) (by decide) low_ct (by decide)
  rw [ext_ct] at h9
  exact h9
theorem ext_k1 : ByteArray.extract ⟨#[60, 116, 101, 120, 116, 32, 105, 100, 61, 34, 116, 34, 62]⟩ 1 5 = ⟨#[116, 101, 120, 116]⟩ := by decide
theorem ext_k2 : ByteArray.extract ⟨#[60, 116, 101, 120, 116, 32, 105, 100, 61, 34, 116, 34, 62]⟩ 6 8 = ⟨#[105, 100]⟩ := by decide
theorem ext_k3 : ByteArray.extract ⟨#[60, 116, 101, 120, 116, 32, 105, 100, 61, 34, 116, 34, 62]⟩ 10 11 = ⟨#[116]⟩ := by decide
theorem pt_k (w : World) : Calls Tryz.prog 74 #[.string ⟨#[60, 116, 101, 120, 116, 32, 105, 100, 61, 34, 116, 34, 62]⟩] w fun e w' => ∃ v, e = .returned (.tuple #[.agg #[.bool false, .string ⟨#[116, 101, 120, 116]⟩, v], .int .i64 0, .int .i64 0]) ∧ w'.ownsRow w.heap.size 105 2 v 1 [.string ⟨#[105, 100]⟩, .string ⟨#[116]⟩] ∧ Below w.heap.size w w' := by
  refine parseTag_key _ _ _ _ _ (fun g w ho => ?_) w
  have h9 := tag_key g _ w ho (by decide) rfl low_k1 rfl low_k2 rfl rfl rfl rfl rfl
  rw [ext_k1, ext_k2, ext_k3] at h9
  exact h9
set_option maxRecDepth 100000 in
set_option maxHeartbeats 1000000 in
theorem line1 {B g : Nat} (w : World) (h : ST none B g 0 0 0 0 [] [] [] false w) : Calls Tryz.prog 40 #[.pointer (some ⟨g, 0, none⟩), .string ⟨#[60, 116, 101, 120, 116, 32, 105, 100, 61, 34, 116, 34, 62]⟩] w fun e w' => e = .returned (.agg #[.int .i64 0, .int .i64 0]) ∧ ST none B g 0 1 0 0 [.string ⟨#[116]⟩, .int .i64 0, .int .i64 (-1), .slice none 0 0] [] [] true w' ∧ Below B w w' := by
  refine line_01 _ ⟨#[]⟩ (KP := fun w v => ∃ gk ck, v = .slice (some ⟨gk, 0, none⟩) 1 ck ∧ Rd w (some ⟨gk, 0, none⟩) [.string ⟨#[105, 100]⟩, .string ⟨#[116]⟩]) (by decide) ?_ ?_ ?_ w h
  · rintro w w' ks ⟨gk, ck, rfl, hr⟩ hb
    exact ⟨_, _, rfl, hr.below hb⟩
  · intro w
    refine (pt_k w).mono ?_
    rintro e w' ⟨v, rfl, ho, hb⟩
    obtain ⟨gk, ck, rfl, -, -⟩ := ho.form (by decide)
    exact ⟨_, _, _, rfl, ⟨_, _, rfl, Rd.of_own ho⟩, hb⟩
  · rintro k ks w ⟨A, T, X, R, O, ts, h⟩ ⟨gk, ck, rfl, hr⟩
    refine (beginText_yes _ _ gk ck w h hr (by decide) (by decide) low_t).mono ?_
    rintro e w' ⟨rfl, ⟨X', h'⟩, hb⟩
    exact ⟨rfl, ⟨_, _, _, _, _, _, h'⟩, hb⟩
set_option maxRecDepth 100000 in
set_option maxHeartbeats 1000000 in
theorem line2 {B g : Nat} (w : World) (h : ST none B g 0 1 0 0 [.string ⟨#[116]⟩, .int .i64 0, .int .i64 (-1), .slice none 0 0] [] [] true w) : Calls Tryz.prog 40 #[.pointer (some ⟨g, 0, none⟩), .string ⟨#[60, 115, 62]⟩] w fun e w' => e = .returned (.agg #[.int .i64 0, .int .i64 0]) ∧ ST none B g 0 1 0 1 [.string ⟨#[116]⟩, .int .i64 0, .int .i64 (-1), .slice none 0 0] [] [.string ⟨#[115]⟩, .int .i64 0, .int .i64 0, .slice none 0 0] true w' ∧ Below B w w' := by
  refine line_00 _ ⟨#[115]⟩ (by rw [Lib.toList_data]; decide) (KP := fun _ v => v = .slice none 0 0) (by decide) (fun _ _ _ h _ => h) (fun w => (pt_o w).mono fun e w' ⟨h1, h2⟩ => ⟨none, 0, 0, h1, rfl, h2⟩) ?_ w h
  rintro k ks w ⟨A, T, X, R, O, ts, h⟩ rfl
  refine (beginRegion_yes _ _ w h (by decide) (by decide) (by decide)).mono ?_
  rintro e w' ⟨rfl, ⟨O', h'⟩, hb⟩
  exact ⟨rfl, ⟨_, _, _, _, _, _, h'⟩, hb⟩
set_option maxRecDepth 100000 in
set_option maxHeartbeats 1000000 in
theorem line3 {B g : Nat} (w : World) (hm : MLen w) (h : ST none B g 0 1 0 1 [.string ⟨#[116]⟩, .int .i64 0, .int .i64 (-1), .slice none 0 0] [] [.string ⟨#[115]⟩, .int .i64 0, .int .i64 0, .slice none 0 0] true w) : Calls Tryz.prog 40 #[.pointer (some ⟨g, 0, none⟩), .string ⟨#[97]⟩] w fun e w' => e = .returned (.agg #[.int .i64 0, .int .i64 0]) ∧ ST none B g 1 1 0 1 [.string ⟨#[116]⟩, .int .i64 0, .int .i64 (-1), .slice none 0 0] [] [.string ⟨#[115]⟩, .int .i64 0, .int .i64 0, .slice none 0 0] true w' ∧ Below B w w' := by
  exact line_word _ (by decide) oneL_97 split_97.1 split_97.2 (by decide) w hm h
set_option maxRecDepth 100000 in
set_option maxHeartbeats 1000000 in
theorem line4 {B g : Nat} (w : World) (h : ST none B g 1 1 0 1 [.string ⟨#[116]⟩, .int .i64 0, .int .i64 (-1), .slice none 0 0] [] [.string ⟨#[115]⟩, .int .i64 0, .int .i64 0, .slice none 0 0] true w) : Calls Tryz.prog 40 #[.pointer (some ⟨g, 0, none⟩), .string ⟨#[60, 47, 115, 62]⟩] w fun e w' => e = .returned (.agg #[.int .i64 0, .int .i64 0]) ∧ ST none B g 1 1 1 0 [.string ⟨#[116]⟩, .int .i64 0, .int .i64 (-1), .slice none 0 0] [.string ⟨#[115]⟩, .int .i64 0, .int .i64 1, .slice none 0 0] [] true w' ∧ Below B w w' := by
  refine line_10 _ ⟨#[115]⟩ (by rw [Lib.toList_data]; decide) (KP := fun _ v => v = .slice none 0 0) (by decide) (fun _ _ _ h _ => h) (fun w => (pt_c w).mono fun e w' ⟨h1, h2⟩ => ⟨none, 0, 0, h1, rfl, h2⟩) ?_ w h
  rintro k ks w ⟨A, T, X, R, O, ts, h⟩ rfl
  refine (endRegion_yes _ _ w h (by decide) (by decide) (by decide)).mono ?_
  rintro e w' ⟨rfl, ⟨R', O', h'⟩, hb⟩
  exact ⟨rfl, ⟨_, _, _, _, _, _, h'⟩, hb⟩
set_option maxRecDepth 100000 in
set_option maxHeartbeats 1000000 in
theorem line5 {B g : Nat} (w : World) (hm : MLen w) (h : ST none B g 1 1 1 0 [.string ⟨#[116]⟩, .int .i64 0, .int .i64 (-1), .slice none 0 0] [.string ⟨#[115]⟩, .int .i64 0, .int .i64 1, .slice none 0 0] [] true w) : Calls Tryz.prog 40 #[.pointer (some ⟨g, 0, none⟩), .string ⟨#[98]⟩] w fun e w' => e = .returned (.agg #[.int .i64 0, .int .i64 0]) ∧ ST none B g 2 1 1 0 [.string ⟨#[116]⟩, .int .i64 0, .int .i64 (-1), .slice none 0 0] [.string ⟨#[115]⟩, .int .i64 0, .int .i64 1, .slice none 0 0] [] true w' ∧ Below B w w' := by
  exact line_word _ (by decide) oneL_98 split_98.1 split_98.2 (by decide) w hm h
set_option maxRecDepth 100000 in
set_option maxHeartbeats 1000000 in
theorem line6 {B g : Nat} (w : World) (h : ST none B g 2 1 1 0 [.string ⟨#[116]⟩, .int .i64 0, .int .i64 (-1), .slice none 0 0] [.string ⟨#[115]⟩, .int .i64 0, .int .i64 1, .slice none 0 0] [] true w) : Calls Tryz.prog 40 #[.pointer (some ⟨g, 0, none⟩), .string ⟨#[60, 47, 116, 101, 120, 116, 62]⟩] w fun e w' => e = .returned (.agg #[.int .i64 0, .int .i64 0]) ∧ ST none B g 2 1 1 0 [.string ⟨#[116]⟩, .int .i64 0, .int .i64 2, .slice none 0 0] [.string ⟨#[115]⟩, .int .i64 0, .int .i64 1, .slice none 0 0] [] false w' ∧ Below B w w' := by
  refine line_11 _ ⟨#[]⟩ (KP := fun _ v => v = .slice none 0 0) (by decide) (fun _ _ _ h _ => h) (fun w => (pt_ct w).mono fun e w' ⟨h1, h2⟩ => ⟨none, 0, 0, h1, rfl, h2⟩) ?_ w h
  rintro k ks w ⟨A, T, X, R, O, ts, h⟩ rfl
  refine (endText_yes _ _ _ w h (by decide)).mono ?_
  rintro e w' ⟨rfl, h', hb⟩
  exact ⟨rfl, ⟨_, _, _, _, _, _, h'⟩, hb⟩
end Go.Proofs.YtfenjklilocjgaaGreatDoor
