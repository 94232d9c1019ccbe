/- The program's Parse of a ratio. -/
import Derived.Test.YtofijnhkoadfjaaFm
import Derived.Lib.IndexMore
import Derived.Lib.Strings
namespace Go.Proofs.Ytofijnhkoadfjaa
set_option linter.unusedSimpArgs false
set_option linter.unusedVariables false
set_option linter.unusedSectionVars false
open Go.RowKit Dg

/-- The library's own variable holds a number. -/
def Cell0 (w : World) : Prop := ∃ m, w.cell? ⟨0, 0, none⟩ = some (.int .i64 m)
theorem Cell0.below {w w' : World} (h : Cell0 w) (hb : Below w.heap.size w w') : Cell0 w' := by
  obtain ⟨m, hm⟩ := h
  exact ⟨m, below_cell hb hm⟩
/-- What stands ahead of the first slash, behind it, and whether there is one. -/
def slash : List UInt8 → List UInt8 × List UInt8 × Bool
  | [] => ([], [], false)
  | c :: l => if c = 47 then ([], l, true) else (c :: (slash l).1, (slash l).2.1, (slash l).2.2)
theorem indexByte_slash : ∀ l : List UInt8, (Lib.indexByte l 47 = -1 ∧ slash l = (l, [], false)) ∨ ∃ i : Nat, Lib.indexByte l 47 = i ∧ i < l.length ∧ slash l = (l.take i, l.drop (i + 1), true)
  | [] => .inl ⟨rfl, rfl⟩
  | c :: l => by
    by_cases hc : c = 47
    · subst hc
      refine .inr ⟨0, ?_, by simp, by simp [slash]⟩
      unfold Lib.indexByte; simp
    · have hb : (c == 47) = false := by simpa using hc
      rcases indexByte_slash l with ⟨h1, h2⟩ | ⟨i, h1, hl, h2⟩
      · refine .inl ⟨?_, by simp [slash, hc, h2]⟩
        unfold Lib.indexByte; simp [hb, h1]
      · refine .inr ⟨i + 1, ?_, by simp; omega, by simp [slash, hc, h2]⟩
        unfold Lib.indexByte
        have : ((i : Int) == -1) = false := by rw [beq_eq_false_iff_ne]; omega
        simp [hb, h1, this]
theorem cut_slash (l : List UInt8) : Lib.cut l [47] = slash l := by
  unfold Lib.cut
  rw [Lib.index_one]
  rcases indexByte_slash l with ⟨h1, h2⟩ | ⟨i, h1, -, h2⟩
  · rw [h1, h2]; rfl
  · rw [h1, h2, if_pos (by omega)]; simp
/-- The sign is cut off. -/
def unsign : List UInt8 → Bool × List UInt8
  | 45 :: l => (true, l)
  | l => (false, l)
theorem prefix_unsign (l : List UInt8) : Lib.hasPrefix l [45] = (unsign l).1 ∧ Lib.trimPrefix l [45] = (unsign l).2 := by
  unfold Lib.trimPrefix Lib.hasPrefix
  match l with
  | [] => exact ⟨rfl, rfl⟩
  | c :: l =>
    by_cases hc : c = 45
    · subst hc; simp [unsign, List.isPrefixOf]
    · have hb : ((45 : UInt8) == c) = false := by simpa using fun h => hc h.symm
      have hu : unsign (c :: l) = (false, c :: l) := by
        unfold unsign
        split
        · rename_i h; simp at h; exact absurd h.1 hc
        · rfl
      rw [hu]
      simp [List.isPrefixOf, hb]
/-- The parts of a text. -/
structure Parts (s : ByteArray) (n : Bool) (p q : ByteArray) (sm : Bool) : Prop where
  sign : (unsign s.data.toList).1 = n
  num : (slash (unsign s.data.toList).2).1 = p.data.toList
  den : (slash (unsign s.data.toList).2).2.1 = q.data.toList
  some_ : (slash (unsign s.data.toList).2).2.2 = sm
theorem parts_of (s : ByteArray) : Parts s (unsign s.data.toList).1 ⟨(slash (unsign s.data.toList).2).1.toArray⟩ ⟨(slash (unsign s.data.toList).2).2.1.toArray⟩ (slash (unsign s.data.toList).2).2.2 := ⟨rfl, rfl, rfl, rfl⟩
theorem unsign_le (l : List UInt8) : (unsign l).2.length ≤ l.length := by
  unfold unsign; split <;> simp
theorem ba_of {l : List UInt8} {q : ByteArray} (h : l = q.data.toList) : (⟨l.toArray⟩ : ByteArray) = q := ba_ext h
set_option maxRecDepth 100000 in
set_option maxHeartbeats 4000000 in
theorem parse_no0 {s : ByteArray} {n : Bool} {p q : ByteArray} (hs : s.size ≤ 40000) (hp : Parts s n p q false) (hi : ∀ w, Calls Try.prog 28 #[.agg #[.bool n, .string p, .string ⟨#[49]⟩]] w fun e w' => e = .returned (.bool false) ∧ Below w.heap.size w w') (w : World) (h0 : Cell0 w) :
    Calls Try.prog 30 #[.string s] w fun e w' => e = .returned (.tuple #[.agg #[.bool false, .string ⟨#[]⟩, .string ⟨#[]⟩], .int .i64 3]) ∧ Below w.heap.size w w' := by
  have HI := Lib.hid hi
  have HP : Hid (∀ w, Calls Try.prog 72 #[.string s, .string ⟨#[45]⟩] w fun e w' => e = .returned (.tuple #[.string ⟨(unsign s.data.toList).2.toArray⟩, .bool n]) ∧ w = w') := fun w => (Try.strings_CutPrefix s ⟨#[45]⟩ w).mono fun e w' ⟨h1, h2⟩ => by
    have hpu := prefix_unsign s.data.toList
    rw [show (⟨#[45]⟩ : ByteArray).data.toList = [45] from rfl, hpu.1, hpu.2, hp.sign] at h1
    exact ⟨h1, h2.symm⟩
  have HC : Hid (∀ w, Cell0 w → Calls Try.prog 73 #[.string ⟨(unsign s.data.toList).2.toArray⟩, .string ⟨#[47]⟩] w fun e w' => e = .returned (.tuple #[.string p, .string q, .bool false]) ∧ Below w.heap.size w w') := fun w hc => by
    obtain ⟨m, hm⟩ := hc
    refine (Try.strings_Cut ⟨(unsign s.data.toList).2.toArray⟩ ⟨#[47]⟩ m w (by have := unsign_le s.data.toList; have e1 : s.data.toList.length = s.size := rfl; show (unsign s.data.toList).2.length < _; omega) hm).mono ?_
    rintro e w' ⟨h1, k, rfl⟩
    rw [show (⟨#[47]⟩ : ByteArray).data.toList = [47] from rfl, show ((⟨(unsign s.data.toList).2.toArray⟩ : ByteArray)).data.toList = (unsign s.data.toList).2 from rfl, cut_slash, hp.some_, ba_of hp.num, ba_of hp.den] at h1
    exact ⟨h1, below_drewN (Below.refl _ _) k⟩
  clear hi hp hs
  generalize (⟨(unsign s.data.toList).2.toArray⟩ : ByteArray) = rr at HP HC
  obtain ⟨o_r, hbw⟩ := new1 w [.bool false, .string ⟨#[]⟩, .string ⟨#[]⟩] 33
  go_enter Try.func30, Try.ntmps30
  go_upto_region 1 with (fail)
  generalize (w.alloc (.cells #[.bool false, .string ⟨#[]⟩, .string ⟨#[]⟩] 33)) = wb at o_r hbw ⊢
  have c0 := h0.below hbw
  go_wp2_with fail
  refine (HP.out _).mono ?_
  rintro e w1 ⟨rfl, rfl⟩
  go_wp2_with fail
  refine (HC.out _ c0).mono ?_
  rintro e w2 ⟨rfl, hb2⟩
  replace o_r := o_r.below hb2 o_r.lt
  replace c0 := c0.below hb2
  replace hbw := below6 hbw hb2
  clear hb2
  have lt_r := o_r.lt
  obtain ⟨o_q, hz3⟩ := new1 w2 [.bool n, .string p, .string ⟨#[49]⟩] 33
  replace o_r := o_r.alloc (.cells #[.bool n, .string p, .string ⟨#[49]⟩] 33)
  replace c0 := c0.below hz3
  replace hbw := below6 hbw hz3
  clear hz3
  go_wp2_with fail
  generalize (w2.alloc (.cells #[.bool n, .string p, .string ⟨#[49]⟩] 33)) = wa4 at o_r o_q hbw c0 ⊢
  generalize w2.heap.size = g4 at o_q ⊢
  refine (HI.out _).mono ?_
  rintro e w9 ⟨rfl, hb9⟩
  replace o_r := o_r.below hb9 o_r.lt
  replace o_q := o_q.below hb9 o_q.lt
  replace hbw := below6 hbw hb9
  clear hb9 c0
  have qr_0 : w9.cell? ⟨w.heap.size, 0, none⟩ = some (.bool false) := o_r.cell 0
  have qr_1 : w9.cell? ⟨w.heap.size, 1, none⟩ = some (.string ⟨#[]⟩) := o_r.cell 1
  have qr_2 : w9.cell? ⟨w.heap.size, 2, none⟩ = some (.string ⟨#[]⟩) := o_r.cell 2
  have fr_0 := o_r.frozen 0
  have fr_1 := o_r.frozen 1
  have fr_2 := o_r.frozen 2
  have oz := o_r.set3 (.bool false) (.string ⟨#[]⟩) (.string ⟨#[]⟩)
  have sz9 := Below.set3 hbw (g := w.heap.size) (by omega) (.bool false) (.string ⟨#[]⟩) (.string ⟨#[]⟩)
  go_wp2_with fail
  generalize (((w9.setCell ⟨w.heap.size, 0, none⟩ (.bool false)).setCell ⟨w.heap.size, 1, none⟩ (.string ⟨#[]⟩)).setCell ⟨w.heap.size, 2, none⟩ (.string ⟨#[]⟩)) = wz at oz sz9 ⊢
  have z0 : wz.cell? ⟨w.heap.size, 0, none⟩ = some (.bool false) := oz.cell 0
  have z1 : wz.cell? ⟨w.heap.size, 1, none⟩ = some (.string ⟨#[]⟩) := oz.cell 1
  have z2 : wz.cell? ⟨w.heap.size, 2, none⟩ = some (.string ⟨#[]⟩) := oz.cell 2
  exact bodyPost_ret (v := .tuple #[.agg #[.bool false, .string ⟨#[]⟩, .string ⟨#[]⟩], .int .i64 3]) (by simp [results, Try.results30, go_sem, z0, z1, z2]) rfl ⟨rfl, sz9⟩
set_option maxRecDepth 100000 in
set_option maxHeartbeats 4000000 in
theorem parse_no1 {s : ByteArray} {n : Bool} {p q : ByteArray} (hs : s.size ≤ 40000) (hp : Parts s n p q true) (hi : ∀ w, Calls Try.prog 28 #[.agg #[.bool n, .string p, .string q]] w fun e w' => e = .returned (.bool false) ∧ Below w.heap.size w w') (w : World) (h0 : Cell0 w) :
    Calls Try.prog 30 #[.string s] w fun e w' => e = .returned (.tuple #[.agg #[.bool false, .string ⟨#[]⟩, .string ⟨#[]⟩], .int .i64 3]) ∧ Below w.heap.size w w' := by
  have HI := Lib.hid hi
  have HP : Hid (∀ w, Calls Try.prog 72 #[.string s, .string ⟨#[45]⟩] w fun e w' => e = .returned (.tuple #[.string ⟨(unsign s.data.toList).2.toArray⟩, .bool n]) ∧ w = w') := fun w => (Try.strings_CutPrefix s ⟨#[45]⟩ w).mono fun e w' ⟨h1, h2⟩ => by
    have hpu := prefix_unsign s.data.toList
    rw [show (⟨#[45]⟩ : ByteArray).data.toList = [45] from rfl, hpu.1, hpu.2, hp.sign] at h1
    exact ⟨h1, h2.symm⟩
  have HC : Hid (∀ w, Cell0 w → Calls Try.prog 73 #[.string ⟨(unsign s.data.toList).2.toArray⟩, .string ⟨#[47]⟩] w fun e w' => e = .returned (.tuple #[.string p, .string q, .bool true]) ∧ Below w.heap.size w w') := fun w hc => by
    obtain ⟨m, hm⟩ := hc
    refine (Try.strings_Cut ⟨(unsign s.data.toList).2.toArray⟩ ⟨#[47]⟩ m w (by have := unsign_le s.data.toList; have e1 : s.data.toList.length = s.size := rfl; show (unsign s.data.toList).2.length < _; omega) hm).mono ?_
    rintro e w' ⟨h1, k, rfl⟩
    rw [show (⟨#[47]⟩ : ByteArray).data.toList = [47] from rfl, show ((⟨(unsign s.data.toList).2.toArray⟩ : ByteArray)).data.toList = (unsign s.data.toList).2 from rfl, cut_slash, hp.some_, ba_of hp.num, ba_of hp.den] at h1
    exact ⟨h1, below_drewN (Below.refl _ _) k⟩
  clear hi hp hs
  generalize (⟨(unsign s.data.toList).2.toArray⟩ : ByteArray) = rr at HP HC
  obtain ⟨o_r, hbw⟩ := new1 w [.bool false, .string ⟨#[]⟩, .string ⟨#[]⟩] 33
  go_enter Try.func30, Try.ntmps30
  go_upto_region 1 with (fail)
  generalize (w.alloc (.cells #[.bool false, .string ⟨#[]⟩, .string ⟨#[]⟩] 33)) = wb at o_r hbw ⊢
  have c0 := h0.below hbw
  go_wp2_with fail
  refine (HP.out _).mono ?_
  rintro e w1 ⟨rfl, rfl⟩
  go_wp2_with fail
  refine (HC.out _ c0).mono ?_
  rintro e w2 ⟨rfl, hb2⟩
  replace o_r := o_r.below hb2 o_r.lt
  replace c0 := c0.below hb2
  replace hbw := below6 hbw hb2
  clear hb2
  have lt_r := o_r.lt
  obtain ⟨o_q, hz3⟩ := new1 w2 [.bool n, .string p, .string q] 33
  replace o_r := o_r.alloc (.cells #[.bool n, .string p, .string q] 33)
  replace c0 := c0.below hz3
  replace hbw := below6 hbw hz3
  clear hz3
  go_wp2_with fail
  generalize (w2.alloc (.cells #[.bool n, .string p, .string q] 33)) = wa4 at o_r o_q hbw c0 ⊢
  generalize w2.heap.size = g4 at o_q ⊢
  refine (HI.out _).mono ?_
  rintro e w9 ⟨rfl, hb9⟩
  replace o_r := o_r.below hb9 o_r.lt
  replace o_q := o_q.below hb9 o_q.lt
  replace hbw := below6 hbw hb9
  clear hb9 c0
  have qr_0 : w9.cell? ⟨w.heap.size, 0, none⟩ = some (.bool false) := o_r.cell 0
  have qr_1 : w9.cell? ⟨w.heap.size, 1, none⟩ = some (.string ⟨#[]⟩) := o_r.cell 1
  have qr_2 : w9.cell? ⟨w.heap.size, 2, none⟩ = some (.string ⟨#[]⟩) := o_r.cell 2
  have fr_0 := o_r.frozen 0
  have fr_1 := o_r.frozen 1
  have fr_2 := o_r.frozen 2
  have oz := o_r.set3 (.bool false) (.string ⟨#[]⟩) (.string ⟨#[]⟩)
  have sz9 := Below.set3 hbw (g := w.heap.size) (by omega) (.bool false) (.string ⟨#[]⟩) (.string ⟨#[]⟩)
  go_wp2_with fail
  generalize (((w9.setCell ⟨w.heap.size, 0, none⟩ (.bool false)).setCell ⟨w.heap.size, 1, none⟩ (.string ⟨#[]⟩)).setCell ⟨w.heap.size, 2, none⟩ (.string ⟨#[]⟩)) = wz at oz sz9 ⊢
  have z0 : wz.cell? ⟨w.heap.size, 0, none⟩ = some (.bool false) := oz.cell 0
  have z1 : wz.cell? ⟨w.heap.size, 1, none⟩ = some (.string ⟨#[]⟩) := oz.cell 1
  have z2 : wz.cell? ⟨w.heap.size, 2, none⟩ = some (.string ⟨#[]⟩) := oz.cell 2
  exact bodyPost_ret (v := .tuple #[.agg #[.bool false, .string ⟨#[]⟩, .string ⟨#[]⟩], .int .i64 3]) (by simp [results, Try.results30, go_sem, z0, z1, z2]) rfl ⟨rfl, sz9⟩
set_option maxRecDepth 100000 in
set_option maxHeartbeats 4000000 in
theorem parse_yes0 {s : ByteArray} {n : Bool} {p q : ByteArray} (hs : s.size ≤ 40000) (hp : Parts s n p q false) (hi : ∀ w, Calls Try.prog 28 #[.agg #[.bool n, .string p, .string ⟨#[49]⟩]] w fun e w' => e = .returned (.bool true) ∧ Below w.heap.size w w') (w : World) (h0 : Cell0 w) :
    Calls Try.prog 30 #[.string s] w fun e w' => e = .returned (.tuple #[.agg #[.bool n, .string p, .string ⟨#[49]⟩], .int .i64 0]) ∧ Below w.heap.size w w' := by
  have HI := Lib.hid hi
  have HP : Hid (∀ w, Calls Try.prog 72 #[.string s, .string ⟨#[45]⟩] w fun e w' => e = .returned (.tuple #[.string ⟨(unsign s.data.toList).2.toArray⟩, .bool n]) ∧ w = w') := fun w => (Try.strings_CutPrefix s ⟨#[45]⟩ w).mono fun e w' ⟨h1, h2⟩ => by
    have hpu := prefix_unsign s.data.toList
    rw [show (⟨#[45]⟩ : ByteArray).data.toList = [45] from rfl, hpu.1, hpu.2, hp.sign] at h1
    exact ⟨h1, h2.symm⟩
  have HC : Hid (∀ w, Cell0 w → Calls Try.prog 73 #[.string ⟨(unsign s.data.toList).2.toArray⟩, .string ⟨#[47]⟩] w fun e w' => e = .returned (.tuple #[.string p, .string q, .bool false]) ∧ Below w.heap.size w w') := fun w hc => by
    obtain ⟨m, hm⟩ := hc
    refine (Try.strings_Cut ⟨(unsign s.data.toList).2.toArray⟩ ⟨#[47]⟩ m w (by have := unsign_le s.data.toList; have e1 : s.data.toList.length = s.size := rfl; show (unsign s.data.toList).2.length < _; omega) hm).mono ?_
    rintro e w' ⟨h1, k, rfl⟩
    rw [show (⟨#[47]⟩ : ByteArray).data.toList = [47] from rfl, show ((⟨(unsign s.data.toList).2.toArray⟩ : ByteArray)).data.toList = (unsign s.data.toList).2 from rfl, cut_slash, hp.some_, ba_of hp.num, ba_of hp.den] at h1
    exact ⟨h1, below_drewN (Below.refl _ _) k⟩
  clear hi hp hs
  generalize (⟨(unsign s.data.toList).2.toArray⟩ : ByteArray) = rr at HP HC
  obtain ⟨o_r, hbw⟩ := new1 w [.bool false, .string ⟨#[]⟩, .string ⟨#[]⟩] 33
  go_enter Try.func30, Try.ntmps30
  go_upto_region 1 with (fail)
  generalize (w.alloc (.cells #[.bool false, .string ⟨#[]⟩, .string ⟨#[]⟩] 33)) = wb at o_r hbw ⊢
  have c0 := h0.below hbw
  go_wp2_with fail
  refine (HP.out _).mono ?_
  rintro e w1 ⟨rfl, rfl⟩
  go_wp2_with fail
  refine (HC.out _ c0).mono ?_
  rintro e w2 ⟨rfl, hb2⟩
  replace o_r := o_r.below hb2 o_r.lt
  replace c0 := c0.below hb2
  replace hbw := below6 hbw hb2
  clear hb2
  have lt_r := o_r.lt
  obtain ⟨o_q, hz3⟩ := new1 w2 [.bool n, .string p, .string ⟨#[49]⟩] 33
  replace o_r := o_r.alloc (.cells #[.bool n, .string p, .string ⟨#[49]⟩] 33)
  replace c0 := c0.below hz3
  replace hbw := below6 hbw hz3
  clear hz3
  go_wp2_with fail
  generalize (w2.alloc (.cells #[.bool n, .string p, .string ⟨#[49]⟩] 33)) = wa4 at o_r o_q hbw c0 ⊢
  generalize w2.heap.size = g4 at o_q ⊢
  refine (HI.out _).mono ?_
  rintro e w9 ⟨rfl, hb9⟩
  replace o_r := o_r.below hb9 o_r.lt
  replace o_q := o_q.below hb9 o_q.lt
  replace hbw := below6 hbw hb9
  clear hb9 c0
  have qq_0 : w9.cell? ⟨g4, 0, none⟩ = some (.bool n) := o_q.cell 0
  have qq_1 : w9.cell? ⟨g4, 1, none⟩ = some (.string p) := o_q.cell 1
  have qq_2 : w9.cell? ⟨g4, 2, none⟩ = some (.string ⟨#[49]⟩) := o_q.cell 2
  have qr_0 : w9.cell? ⟨w.heap.size, 0, none⟩ = some (.bool false) := o_r.cell 0
  have qr_1 : w9.cell? ⟨w.heap.size, 1, none⟩ = some (.string ⟨#[]⟩) := o_r.cell 1
  have qr_2 : w9.cell? ⟨w.heap.size, 2, none⟩ = some (.string ⟨#[]⟩) := o_r.cell 2
  have fr_0 := o_r.frozen 0
  have fr_1 := o_r.frozen 1
  have fr_2 := o_r.frozen 2
  have oz := o_r.set3 (.bool n) (.string p) (.string ⟨#[49]⟩)
  have sz9 := Below.set3 hbw (g := w.heap.size) (by omega) (.bool n) (.string p) (.string ⟨#[49]⟩)
  go_wp2_with fail
  generalize (((w9.setCell ⟨w.heap.size, 0, none⟩ (.bool n)).setCell ⟨w.heap.size, 1, none⟩ (.string p)).setCell ⟨w.heap.size, 2, none⟩ (.string ⟨#[49]⟩)) = wz at oz sz9 ⊢
  have z0 : wz.cell? ⟨w.heap.size, 0, none⟩ = some (.bool n) := oz.cell 0
  have z1 : wz.cell? ⟨w.heap.size, 1, none⟩ = some (.string p) := oz.cell 1
  have z2 : wz.cell? ⟨w.heap.size, 2, none⟩ = some (.string ⟨#[49]⟩) := oz.cell 2
  exact bodyPost_ret (v := .tuple #[.agg #[.bool n, .string p, .string ⟨#[49]⟩], .int .i64 0]) (by simp [results, Try.results30, go_sem, z0, z1, z2]) rfl ⟨rfl, sz9⟩
set_option maxRecDepth 100000 in
set_option maxHeartbeats 4000000 in
theorem parse_bad1 {s : ByteArray} {n : Bool} {p q : ByteArray} (hs : s.size ≤ 40000) (hp : Parts s n p q true) (hi : ∀ w, Calls Try.prog 28 #[.agg #[.bool n, .string p, .string q]] w fun e w' => e = .returned (.bool true) ∧ Below w.heap.size w w') (hd : (q.toList == [49]) = true) (w : World) (h0 : Cell0 w) :
    Calls Try.prog 30 #[.string s] w fun e w' => e = .returned (.tuple #[.agg #[.bool false, .string ⟨#[]⟩, .string ⟨#[]⟩], .int .i64 3]) ∧ Below w.heap.size w w' := by
  have HI := Lib.hid hi
  have HP : Hid (∀ w, Calls Try.prog 72 #[.string s, .string ⟨#[45]⟩] w fun e w' => e = .returned (.tuple #[.string ⟨(unsign s.data.toList).2.toArray⟩, .bool n]) ∧ w = w') := fun w => (Try.strings_CutPrefix s ⟨#[45]⟩ w).mono fun e w' ⟨h1, h2⟩ => by
    have hpu := prefix_unsign s.data.toList
    rw [show (⟨#[45]⟩ : ByteArray).data.toList = [45] from rfl, hpu.1, hpu.2, hp.sign] at h1
    exact ⟨h1, h2.symm⟩
  have HC : Hid (∀ w, Cell0 w → Calls Try.prog 73 #[.string ⟨(unsign s.data.toList).2.toArray⟩, .string ⟨#[47]⟩] w fun e w' => e = .returned (.tuple #[.string p, .string q, .bool true]) ∧ Below w.heap.size w w') := fun w hc => by
    obtain ⟨m, hm⟩ := hc
    refine (Try.strings_Cut ⟨(unsign s.data.toList).2.toArray⟩ ⟨#[47]⟩ m w (by have := unsign_le s.data.toList; have e1 : s.data.toList.length = s.size := rfl; show (unsign s.data.toList).2.length < _; omega) hm).mono ?_
    rintro e w' ⟨h1, k, rfl⟩
    rw [show (⟨#[47]⟩ : ByteArray).data.toList = [47] from rfl, show ((⟨(unsign s.data.toList).2.toArray⟩ : ByteArray)).data.toList = (unsign s.data.toList).2 from rfl, cut_slash, hp.some_, ba_of hp.num, ba_of hp.den] at h1
    exact ⟨h1, below_drewN (Below.refl _ _) k⟩
  clear hi hp hs
  generalize (⟨(unsign s.data.toList).2.toArray⟩ : ByteArray) = rr at HP HC
  obtain ⟨o_r, hbw⟩ := new1 w [.bool false, .string ⟨#[]⟩, .string ⟨#[]⟩] 33
  go_enter Try.func30, Try.ntmps30
  go_upto_region 1 with (fail)
  generalize (w.alloc (.cells #[.bool false, .string ⟨#[]⟩, .string ⟨#[]⟩] 33)) = wb at o_r hbw ⊢
  have c0 := h0.below hbw
  go_wp2_with fail
  refine (HP.out _).mono ?_
  rintro e w1 ⟨rfl, rfl⟩
  go_wp2_with fail
  refine (HC.out _ c0).mono ?_
  rintro e w2 ⟨rfl, hb2⟩
  replace o_r := o_r.below hb2 o_r.lt
  replace c0 := c0.below hb2
  replace hbw := below6 hbw hb2
  clear hb2
  have lt_r := o_r.lt
  obtain ⟨o_q, hz3⟩ := new1 w2 [.bool n, .string p, .string q] 33
  replace o_r := o_r.alloc (.cells #[.bool n, .string p, .string q] 33)
  replace c0 := c0.below hz3
  replace hbw := below6 hbw hz3
  clear hz3
  go_wp2_with fail
  generalize (w2.alloc (.cells #[.bool n, .string p, .string q] 33)) = wa4 at o_r o_q hbw c0 ⊢
  generalize w2.heap.size = g4 at o_q ⊢
  refine (HI.out _).mono ?_
  rintro e w9 ⟨rfl, hb9⟩
  replace o_r := o_r.below hb9 o_r.lt
  replace o_q := o_q.below hb9 o_q.lt
  replace hbw := below6 hbw hb9
  clear hb9 c0
  have qr_0 : w9.cell? ⟨w.heap.size, 0, none⟩ = some (.bool false) := o_r.cell 0
  have qr_1 : w9.cell? ⟨w.heap.size, 1, none⟩ = some (.string ⟨#[]⟩) := o_r.cell 1
  have qr_2 : w9.cell? ⟨w.heap.size, 2, none⟩ = some (.string ⟨#[]⟩) := o_r.cell 2
  have fr_0 := o_r.frozen 0
  have fr_1 := o_r.frozen 1
  have fr_2 := o_r.frozen 2
  have oz := o_r.set3 (.bool false) (.string ⟨#[]⟩) (.string ⟨#[]⟩)
  have sz9 := Below.set3 hbw (g := w.heap.size) (by omega) (.bool false) (.string ⟨#[]⟩) (.string ⟨#[]⟩)
  go_wp2_with fail
  generalize (((w9.setCell ⟨w.heap.size, 0, none⟩ (.bool false)).setCell ⟨w.heap.size, 1, none⟩ (.string ⟨#[]⟩)).setCell ⟨w.heap.size, 2, none⟩ (.string ⟨#[]⟩)) = wz at oz sz9 ⊢
  have z0 : wz.cell? ⟨w.heap.size, 0, none⟩ = some (.bool false) := oz.cell 0
  have z1 : wz.cell? ⟨w.heap.size, 1, none⟩ = some (.string ⟨#[]⟩) := oz.cell 1
  have z2 : wz.cell? ⟨w.heap.size, 2, none⟩ = some (.string ⟨#[]⟩) := oz.cell 2
  exact bodyPost_ret (v := .tuple #[.agg #[.bool false, .string ⟨#[]⟩, .string ⟨#[]⟩], .int .i64 3]) (by simp [results, Try.results30, go_sem, z0, z1, z2]) rfl ⟨rfl, sz9⟩
set_option maxRecDepth 100000 in
set_option maxHeartbeats 4000000 in
theorem parse_yes1 {s : ByteArray} {n : Bool} {p q : ByteArray} (hs : s.size ≤ 40000) (hp : Parts s n p q true) (hi : ∀ w, Calls Try.prog 28 #[.agg #[.bool n, .string p, .string q]] w fun e w' => e = .returned (.bool true) ∧ Below w.heap.size w w') (hd : (q.toList == [49]) = false) (w : World) (h0 : Cell0 w) :
    Calls Try.prog 30 #[.string s] w fun e w' => e = .returned (.tuple #[.agg #[.bool n, .string p, .string q], .int .i64 0]) ∧ Below w.heap.size w w' := by
  have HI := Lib.hid hi
  have HP : Hid (∀ w, Calls Try.prog 72 #[.string s, .string ⟨#[45]⟩] w fun e w' => e = .returned (.tuple #[.string ⟨(unsign s.data.toList).2.toArray⟩, .bool n]) ∧ w = w') := fun w => (Try.strings_CutPrefix s ⟨#[45]⟩ w).mono fun e w' ⟨h1, h2⟩ => by
    have hpu := prefix_unsign s.data.toList
    rw [show (⟨#[45]⟩ : ByteArray).data.toList = [45] from rfl, hpu.1, hpu.2, hp.sign] at h1
    exact ⟨h1, h2.symm⟩
  have HC : Hid (∀ w, Cell0 w → Calls Try.prog 73 #[.string ⟨(unsign s.data.toList).2.toArray⟩, .string ⟨#[47]⟩] w fun e w' => e = .returned (.tuple #[.string p, .string q, .bool true]) ∧ Below w.heap.size w w') := fun w hc => by
    obtain ⟨m, hm⟩ := hc
    refine (Try.strings_Cut ⟨(unsign s.data.toList).2.toArray⟩ ⟨#[47]⟩ m w (by have := unsign_le s.data.toList; have e1 : s.data.toList.length = s.size := rfl; show (unsign s.data.toList).2.length < _; omega) hm).mono ?_
    rintro e w' ⟨h1, k, rfl⟩
    rw [show (⟨#[47]⟩ : ByteArray).data.toList = [47] from rfl, show ((⟨(unsign s.data.toList).2.toArray⟩ : ByteArray)).data.toList = (unsign s.data.toList).2 from rfl, cut_slash, hp.some_, ba_of hp.num, ba_of hp.den] at h1
    exact ⟨h1, below_drewN (Below.refl _ _) k⟩
  clear hi hp hs
  generalize (⟨(unsign s.data.toList).2.toArray⟩ : ByteArray) = rr at HP HC
  obtain ⟨o_r, hbw⟩ := new1 w [.bool false, .string ⟨#[]⟩, .string ⟨#[]⟩] 33
  go_enter Try.func30, Try.ntmps30
  go_upto_region 1 with (fail)
  generalize (w.alloc (.cells #[.bool false, .string ⟨#[]⟩, .string ⟨#[]⟩] 33)) = wb at o_r hbw ⊢
  have c0 := h0.below hbw
  go_wp2_with fail
  refine (HP.out _).mono ?_
  rintro e w1 ⟨rfl, rfl⟩
  go_wp2_with fail
  refine (HC.out _ c0).mono ?_
  rintro e w2 ⟨rfl, hb2⟩
  replace o_r := o_r.below hb2 o_r.lt
  replace c0 := c0.below hb2
  replace hbw := below6 hbw hb2
  clear hb2
  have lt_r := o_r.lt
  obtain ⟨o_q, hz3⟩ := new1 w2 [.bool n, .string p, .string q] 33
  replace o_r := o_r.alloc (.cells #[.bool n, .string p, .string q] 33)
  replace c0 := c0.below hz3
  replace hbw := below6 hbw hz3
  clear hz3
  go_wp2_with fail
  generalize (w2.alloc (.cells #[.bool n, .string p, .string q] 33)) = wa4 at o_r o_q hbw c0 ⊢
  generalize w2.heap.size = g4 at o_q ⊢
  refine (HI.out _).mono ?_
  rintro e w9 ⟨rfl, hb9⟩
  replace o_r := o_r.below hb9 o_r.lt
  replace o_q := o_q.below hb9 o_q.lt
  replace hbw := below6 hbw hb9
  clear hb9 c0
  have qq_0 : w9.cell? ⟨g4, 0, none⟩ = some (.bool n) := o_q.cell 0
  have qq_1 : w9.cell? ⟨g4, 1, none⟩ = some (.string p) := o_q.cell 1
  have qq_2 : w9.cell? ⟨g4, 2, none⟩ = some (.string q) := o_q.cell 2
  have qr_0 : w9.cell? ⟨w.heap.size, 0, none⟩ = some (.bool false) := o_r.cell 0
  have qr_1 : w9.cell? ⟨w.heap.size, 1, none⟩ = some (.string ⟨#[]⟩) := o_r.cell 1
  have qr_2 : w9.cell? ⟨w.heap.size, 2, none⟩ = some (.string ⟨#[]⟩) := o_r.cell 2
  have fr_0 := o_r.frozen 0
  have fr_1 := o_r.frozen 1
  have fr_2 := o_r.frozen 2
  have oz := o_r.set3 (.bool n) (.string p) (.string q)
  have sz9 := Below.set3 hbw (g := w.heap.size) (by omega) (.bool n) (.string p) (.string q)
  go_wp2_with fail
  generalize (((w9.setCell ⟨w.heap.size, 0, none⟩ (.bool n)).setCell ⟨w.heap.size, 1, none⟩ (.string p)).setCell ⟨w.heap.size, 2, none⟩ (.string q)) = wz at oz sz9 ⊢
  have z0 : wz.cell? ⟨w.heap.size, 0, none⟩ = some (.bool n) := oz.cell 0
  have z1 : wz.cell? ⟨w.heap.size, 1, none⟩ = some (.string p) := oz.cell 1
  have z2 : wz.cell? ⟨w.heap.size, 2, none⟩ = some (.string q) := oz.cell 2
  exact bodyPost_ret (v := .tuple #[.agg #[.bool n, .string p, .string q], .int .i64 0]) (by simp [results, Try.results30, go_sem, z0, z1, z2]) rfl ⟨rfl, sz9⟩
end Go.Proofs.Ytofijnhkoadfjaa
