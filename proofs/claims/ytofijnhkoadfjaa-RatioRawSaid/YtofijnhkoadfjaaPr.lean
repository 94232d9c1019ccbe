/- The reference's Parse of a ratio. -/
import Derived.Test.YtofijnhkoadfjaaPf
import Derived.Test.YtofijnhkoadfjaaOf
namespace Go.Proofs.Ytofijnhkoadfjaa
set_option linter.unusedSimpArgs false
set_option linter.unusedVariables false
set_option linter.unusedSectionVars false
open Go.RowKit Dg

theorem slash_hit : ∀ {R : List UInt8} {i : Nat}, (∀ j, j < i → R[j]? ≠ some 47) → R[i]? = some 47 → slash R = (R.take i, R.drop (i + 1), true)
  | [], i, _, h => by simp at h
  | c :: l, 0, _, h => by
    have : c = 47 := by simpa using h
    simp [slash, this]
  | c :: l, i + 1, hn, h => by
    have h1 : c ≠ 47 := fun e => hn 0 (by omega) (by simp [e])
    have := slash_hit (R := l) (i := i) (fun j hj => by have := hn (j + 1) (by omega); simpa using this) (by simpa using h)
    simp [slash, h1, this]
theorem slash_all {R : List UInt8} (h : ∀ j, j < R.length → R[j]? ≠ some 47) : slash R = (R, [], false) := by
  refine slash_none fun c hc e => ?_
  obtain ⟨j, hj, rfl⟩ := List.getElem_of_mem hc
  exact h j hj (by rw [List.getElem?_eq_getElem hj, e])
/-- No slash among the first i. -/
def NoSl (R : List UInt8) (i : Nat) : Prop := ∀ j, j < i → R[j]? ≠ some 47
theorem NoSl.succ {R : List UInt8} {i : Nat} (h : NoSl R i) (h2 : R[i]? ≠ some 47) : NoSl R (i + 1) := by
  intro j hj
  by_cases e : j = i
  · subst e; exact h2
  · exact h j (by omega)
theorem byte_at {u : ByteArray} {i : Nat} (h : i < u.size) : u.data.toList[i]? = some (u[i]'h) := by
  rw [Array.getElem?_toList]
  exact Array.getElem?_eq_getElem h
theorem u8_47 {c : UInt8} : c = 47 ↔ c.toNat = 47 := by
  constructor
  · intro h; rw [h]; rfl
  · intro h; exact UInt8.toNat_inj.1 (by rw [h]; rfl)
theorem ex_take {u : ByteArray} {i : Nat} : (u.extract 0 i).data.toList = u.data.toList.take i := by
  rw [Lib.extract_data]; simp
theorem ex_drop {u : ByteArray} {i : Nat} (h : i ≤ u.size) : (u.extract i u.size).data.toList = u.data.toList.drop i := by
  rw [Lib.extract_data, List.take_of_length_le]
  have : u.data.toList.length = u.size := rfl
  simp
theorem unsign_cases {s u : ByteArray} {n : Bool} (h : unsign s.data.toList = (n, u.data.toList)) : (n = true ∧ s.data.toList = 45 :: u.data.toList) ∨ (n = false ∧ s = ⟨#[]⟩ ∧ s = u) ∨ (n = false ∧ ∃ hp : 0 < s.size, (s[0]'hp) ≠ 45 ∧ s = u) := by
  unfold unsign at h
  split at h
  · rename_i l e
    simp only [Prod.mk.injEq] at h
    exact .inl ⟨h.1.symm, by rw [e, h.2]⟩
  · rename_i hno
    simp only [Prod.mk.injEq] at h
    have hsu : s = u := ba_ext h.2
    rcases Nat.eq_zero_or_pos s.size with h0 | h0
    · refine .inr (.inl ⟨h.1.symm, ba_ext ?_, hsu⟩)
      have e1 : s.data.toList.length = s.size := rfl
      rw [h0] at e1
      rw [List.length_eq_zero_iff.1 e1]
    · refine .inr (.inr ⟨h.1.symm, h0, fun e => ?_, hsu⟩)
      have hb := byte_at h0
      rw [e] at hb
      match hl : s.data.toList, hb with
      | x :: l, hb => 
        have : x = 45 := by simpa using hb
        exact hno l (by rw [hl, this])
theorem Own.drw {w : World} {g : Nat} {t : TypeId} {cs : List Value} (h : Own w g t cs) : Own w.drew g t cs := h
theorem Below.drw {B : Nat} {w w' : World} (h : Below B w w') : Below B w w'.drew := below_drewN h 1
theorem head_of {s u : ByteArray} (hu : s.data.toList = 45 :: u.data.toList) : ∃ h : 0 < s.size, (s[0]'h) = 45 := by
  have e1 : s.data.toList.length = s.size := rfl
  have hpos : 0 < s.size := by rw [hu, List.length_cons] at e1; omega
  refine ⟨hpos, ?_⟩
  have hb := byte_at hpos
  rw [hu] at hb
  simpa using hb.symm
theorem ne_of {s : ByteArray} (h : 0 < s.size) : s.toList.isEmpty = false ∧ ¬ s.toList = [] := by
  have hne2 : ¬ s.toList = [] := by
    rw [ByteArray.toList_eq]; intro e
    have e1 : s.data.toList.length = s.size := rfl
    rw [e] at e1; simp at e1; omega
  exact ⟨by simpa using hne2, hne2⟩
theorem em_of {s : ByteArray} (h : s = ⟨#[]⟩) : s.toList.isEmpty = true ∧ s.toList = [] := by
  subst h
  have : (⟨#[]⟩ : ByteArray).toList = [] := by rw [ByteArray.toList_eq]
  exact ⟨by rw [this]; rfl, this⟩
theorem slice1 {s u : ByteArray} (hu : s.data.toList = 45 :: u.data.toList) : ∀ W, (Instr.slice 9 (.string s) (some (.int .i64 1)) none none).run Try.prog W = .ok (.string u) W := fun W => by
  have hsz : s.size = u.size + 1 := by
    have e1 : s.data.toList.length = s.size := rfl
    have e2 : u.data.toList.length = u.size := rfl
    rw [hu, List.length_cons] at e1; omega
  have hex : s.extract 1 s.size = u := ba_ext (by rw [ex_drop (by omega), hu]; rfl)
  rw [run_slice_string_from_if W 9 s .i64 _ Try.underlying9, if_pos ⟨by omega, by omega⟩]
  rw [show (1 : Int).toNat = 1 from rfl, hex]
theorem slice_from {u : ByteArray} {i : Nat} (h : i < u.size) (W : World) : (Instr.slice 9 (.string u) (some (.int .i64 ((i : Int) + 1))) none none).run Try.prog W = .ok (.string (u.extract (i + 1) u.size)) W := by
  rw [run_slice_string_from_if W 9 u .i64 _ Try.underlying9, if_pos ⟨by omega, by omega⟩]
  rw [show ((i : Int) + 1).toNat = i + 1 by omega]
theorem slice_to {u : ByteArray} {i : Nat} (h : i ≤ u.size) (W : World) : (Instr.slice 9 (.string u) none (some (.int .i64 (i : Int))) none).run Try.prog W = .ok (.string (u.extract 0 i)) W := by
  rw [run_slice_string_h W 9 u Try.underlying9 .i64 (i : Int) (by omega) (by omega)]
  rw [show (i : Int).toNat = i by omega]
set_option maxRecDepth 100000 in
set_option maxHeartbeats 4000000 in
theorem parser_core {s u : ByteArray} {n : Bool} {p q d tx : ByteArray} {sm b ff : Bool} {v : Value} (hs : s.size ≤ 40000) (hun : unsign s.data.toList = (n, u.data.toList)) (hp : Parts s n p q sm) (hd : d = if sm then q else ⟨#[49]⟩)
    (hi : ∀ w, Calls Try.prog 39 #[.agg #[.bool n, .string p, .string d]] w fun e w' => e = .returned (.bool b) ∧ Below w.heap.size w w')
    (hf : b = true → ∀ w, Calls Try.prog 41 #[.agg #[.bool n, .string p, .string d]] w fun e w' => e = .returned (.string tx) ∧ Below w.heap.size w w')
    (hw : (tx.toList == s.toList) = ff ∧ (tx.toList != s.toList) = !ff) (hok : b = true → ff = true → Ending.returned (.tuple #[.agg #[.bool n, .string p, .string d], .int .i64 0]) = .returned v) (hno : ¬ (b = true ∧ ff = true) → Ending.returned (.tuple #[Rat0, .int .i64 3]) = .returned v) (w : World) :
    Calls Try.prog 37 #[.string s] w fun e w' => e = .returned v ∧ Below w.heap.size w w' := by
  have HI := Lib.hid hi
  have HF := Lib.hid hf
  have HW := Lib.hid hw
  have HD := Lib.hid hd
  have HOK := Lib.hid hok
  have HNO := Lib.hid hno
  have HPA := Lib.hid hp
  have HUN := Lib.hid hun
  have HC := Lib.hid (unsign_cases hun)
  have hus : u.size ≤ s.size := by
    have e1 : s.data.toList.length = s.size := rfl
    have e2 : u.data.toList.length = u.size := rfl
    have := unsign_le s.data.toList
    rw [hun] at this
    simp only at this
    omega
  clear hi hf hw hd hok hno hp hun
  obtain ⟨o_r, hbw⟩ := new1 w [.bool false, .string ⟨#[]⟩, .string ⟨#[]⟩] 33
  go_enter Try.func37, Try.ntmps37
  go_upto_region 1 with (fail)
  generalize (w.alloc (.cells #[.bool false, .string ⟨#[]⟩, .string ⟨#[]⟩] 33)) = wb at o_r hbw ⊢
  have mt_r := o_r.lt
  have mt_w := hbw.size
  obtain ⟨o_a, hz1⟩ := new1 wb [.bool false, .string s, .string ⟨#[49]⟩] 33
  replace o_r := o_r.alloc (.cells #[.bool false, .string s, .string ⟨#[49]⟩] 33)
  replace hbw := below6 hbw hz1
  clear hz1
  go_upto_region 2 with (fail)
  generalize (wb.alloc (.cells #[.bool false, .string s, .string ⟨#[49]⟩] 33)) = wa2 at o_r o_a hbw ⊢
  generalize wb.heap.size = g2 at o_a mt_r mt_w ⊢
  go_cut [14] (fun s14 wx => s14 = .bool n ∧ wx = wa2)
  case first =>
    rcases HC.out with ⟨hn, hu⟩ | ⟨hn, hu, -⟩ | ⟨hn, hpos, hc, -⟩
    · obtain ⟨hpos, hc⟩ := head_of hu
      obtain ⟨ne1, ne2⟩ := ne_of hpos
      have b1 : ((((s[0]'hpos).toNat : Nat) : Int) == 45) = true := by rw [hc]; rfl
      clear hu hc
      obtain rfl : n = true := hn
      go_wp2_with fail
      go_meet
      exact ⟨rfl, rfl⟩
    · obtain ⟨ne1, ne2⟩ := em_of hu
      clear hu
      obtain rfl : n = false := hn
      go_wp2_with fail
      go_meet
      exact ⟨rfl, rfl⟩
    · obtain ⟨ne1, ne2⟩ := ne_of hpos
      have b1 : ((((s[0]'hpos).toNat : Nat) : Int) == 45) = false := beqI_false (fun e => hc (UInt8.toNat_inj.1 (by have : (45 : UInt8).toNat = 45 := rfl; omega)))
      clear hc
      obtain rfl : n = false := hn
      go_wp2_with fail
      go_meet
      exact ⟨rfl, rfl⟩
  case rest =>
    obtain ⟨rfl, rfl⟩ := hcut
    go_upto_if 14 with (fail)
    go_cut [] (fun wx => Own wx g2 33 [.bool n, .string u, .string ⟨#[49]⟩] ∧ Own wx (w.heap.size) 33 [.bool false, .string ⟨#[]⟩, .string ⟨#[]⟩] ∧ Below w.heap.size w wx)
    case first =>
      rcases HC.out with ⟨hn, hu⟩ | ⟨hn, -, hu⟩ | ⟨hn, -, -, hu⟩
      · obtain rfl : n = true := hn
        have hsl := slice1 hu
        clear hu
        have qa_0 : wc.cell? ⟨g2, 0, none⟩ = some (.bool false) := o_a.cell 0
        have qa_1 : wc.cell? ⟨g2, 1, none⟩ = some (.string s) := o_a.cell 1
        have qa_2 : wc.cell? ⟨g2, 2, none⟩ = some (.string ⟨#[49]⟩) := o_a.cell 2
        have fa_0 := o_a.frozen 0
        have fa_1 := o_a.frozen 1
        have fa_2 := o_a.frozen 2
        have W1 := o_a.set_ 0 (.bool true)
        have W2 := o_a.set_ 1 (.string u)
        have q1 : (wc.setCell ⟨g2, 0, none⟩ (.bool true)).cell? ⟨g2, 1, none⟩ = some (.string s) := W1.cell 1
        have fz1 := W1.frozen 1
        have q2 : (wc.setCell ⟨g2, 1, none⟩ (.string u)).cell? ⟨g2, 0, none⟩ = some (.bool false) := W2.cell 0
        have fz2 := W2.frozen 0
        go_upto_region 3 with (fail)
        go_region
        all_goals (go_wp2_with fail; go_meet)
        all_goals first
          | exact ⟨((o_a.set_ 0 (.bool true)).set_ 1 (.string u)).drw, ((o_r.far (p := ⟨g2, 0, none⟩) (by intro e; have e2 : w.heap.size = g2 := e; omega) (.bool true)).far (p := ⟨g2, 1, none⟩) (by intro e; have e2 : w.heap.size = g2 := e; omega) (.string u)).drw, Below.drw ((hbw.setCell (p := ⟨g2, 0, none⟩) (show w.heap.size ≤ g2 by omega) (.bool true)).setCell (p := ⟨g2, 1, none⟩) (show w.heap.size ≤ g2 by omega) (.string u))⟩
          | exact ⟨((o_a.set_ 1 (.string u)).set_ 0 (.bool true)).drw, ((o_r.far (p := ⟨g2, 1, none⟩) (by intro e; have e2 : w.heap.size = g2 := e; omega) (.string u)).far (p := ⟨g2, 0, none⟩) (by intro e; have e2 : w.heap.size = g2 := e; omega) (.bool true)).drw, Below.drw ((hbw.setCell (p := ⟨g2, 1, none⟩) (show w.heap.size ≤ g2 by omega) (.string u)).setCell (p := ⟨g2, 0, none⟩) (show w.heap.size ≤ g2 by omega) (.bool true))⟩
      · obtain rfl : n = false := hn
        rw [hu] at o_a
        clear hu
        go_wp2_with fail
        go_meet
        exact ⟨o_a, o_r, hbw⟩
      · obtain rfl : n = false := hn
        rw [hu] at o_a
        clear hu
        go_wp2_with fail
        go_meet
        exact ⟨o_a, o_r, hbw⟩
    case rest =>
      clear o_a o_r hbw HC
      obtain ⟨o_a, o_r, hbw⟩ := hcut
      go_wp2_with fail
      go_loopg [5] u.size (fun q v5 wr => ∃ i : Nat, q = u.size - i ∧ i ≤ u.size ∧ v5 = .int .i64 (i : Int) ∧ Hid (NoSl u.data.toList i) ∧ Own wr g2 33 [.bool n, .string u, .string ⟨#[49]⟩] ∧ Own wr (w.heap.size) 33 [.bool false, .string ⟨#[]⟩, .string ⟨#[]⟩] ∧ Below w.heap.size w wr)
      case atStart => exact ⟨0, rfl, Nat.zero_le _, rfl, fun j hj => absurd hj (Nat.not_lt_zero _), o_a, o_r, hbw⟩
      case round =>
        clear o_a o_r hbw
        obtain ⟨i, hq, hi, rfl, HS, o_a, o_r, hbw⟩ := hrel
        have HQ := Lib.hid hq; clear hq
        by_cases hlt : i < u.size
        · by_cases hc : (u[i]'hlt).toNat = 47
          · have HH := Lib.hid (slash_hit HS.out ((byte_at hlt).trans (congrArg some (u8_47.2 hc))))
            have b1 : ((((u[i]'hlt).toNat : Nat) : Int) == 47) = true := by rw [hc]; rfl
            clear hc
            have hp1 := HPA.out.num
            have hp2 := HPA.out.den
            have hp3 := HPA.out.some_
            rw [HUN.out, HH.out] at hp1 hp2 hp3
            obtain rfl : sm = true := hp3.symm
            obtain rfl : d = q := HD.out
            have ex1 : u.extract 0 i = p := ba_ext (by rw [ex_take]; exact hp1)
            have ex2 : u.extract (i + 1) u.size = d := ba_ext (by rw [ex_drop (by omega)]; exact hp2)
            clear hp1 hp2 hp3 HH HS
            have hs1 : ∀ W, (Instr.slice 9 (.string u) none (some (.int .i64 (i : Int))) none).run Try.prog W = .ok (.string p) W := fun W => by
              rw [slice_to hi]; rw [ex1]
            have hs2 : ∀ W, (Instr.slice 9 (.string u) (some (.int .i64 ((i : Int) + 1))) none none).run Try.prog W = .ok (.string d) W := fun W => by
              rw [slice_from hlt]; rw [ex2]
            clear ex1 ex2
            have zi : IntKind.i64.wrap ((i : Int) + 1) = (i : Int) + 1 := IntWalk.i64_in _ (by omega)
            have qa_0 : wr.cell? ⟨g2, 0, none⟩ = some (.bool n) := o_a.cell 0
            have qa_1 : wr.cell? ⟨g2, 1, none⟩ = some (.string u) := o_a.cell 1
            have qa_2 : wr.cell? ⟨g2, 2, none⟩ = some (.string ⟨#[49]⟩) := o_a.cell 2
            have fa_0 := o_a.frozen 0
            have fa_1 := o_a.frozen 1
            have fa_2 := o_a.frozen 2
            have W1 := o_a.set_ 1 (.string p)
            have W2 := o_a.set_ 2 (.string d)
            have q1 : (wr.setCell ⟨g2, 1, none⟩ (.string p)).cell? ⟨g2, 2, none⟩ = some (.string ⟨#[49]⟩) := W1.cell 2
            have fz1 := W1.frozen 2
            have q2 : (wr.setCell ⟨g2, 2, none⟩ (.string d)).cell? ⟨g2, 1, none⟩ = some (.string u) := W2.cell 1
            have fz2 := W2.frozen 1
            go_upto_region 8 with (fail)
            have o2_a := ((o_a.set_ 1 (.string p)).set_ 2 (.string d)).drw
            have o2_r := ((o_r.far (p := ⟨g2, 1, none⟩) (by intro e; have e2 : w.heap.size = g2 := e; omega) (.string p)).far (p := ⟨g2, 2, none⟩) (by intro e; have e2 : w.heap.size = g2 := e; omega) (.string d)).drw
            have hbw2 := Below.drw ((hbw.setCell (p := ⟨g2, 1, none⟩) (show w.heap.size ≤ g2 by omega) (.string p)).setCell (p := ⟨g2, 2, none⟩) (show w.heap.size ≤ g2 by omega) (.string d))
            go_region
            generalize ((wr.setCell ⟨g2, 1, none⟩ (.string p)).setCell ⟨g2, 2, none⟩ (.string d)).drew = wy at o2_a o2_r hbw2 ⊢
            clear qa_0 qa_1 qa_2 fa_0 fa_1 fa_2 W1 W2 q1 fz1 q2 fz2 o_a o_r hbw hs1 hs2 zi b1
            have o_a := o2_a
            have o_r := o2_r
            have hbw := hbw2
            clear o2_a o2_r hbw2
            cases b with
            | false =>
              have qa_0 : wy.cell? ⟨g2, 0, none⟩ = some (.bool n) := o_a.cell 0
              have qa_1 : wy.cell? ⟨g2, 1, none⟩ = some (.string p) := o_a.cell 1
              have qa_2 : wy.cell? ⟨g2, 2, none⟩ = some (.string d) := o_a.cell 2
              go_wp2_with fail
              clear qa_0 qa_1 qa_2
              refine (HI.out _).mono ?_
              rintro e w3 ⟨rfl, hb_3⟩
              replace o_a := o_a.below hb_3 o_a.lt
              replace o_r := o_r.below hb_3 o_r.lt
              replace hbw := below6 hbw hb_3
              clear hb_3
              have qr_0 : w3.cell? ⟨w.heap.size, 0, none⟩ = some (.bool false) := o_r.cell 0
              have qr_1 : w3.cell? ⟨w.heap.size, 1, none⟩ = some (.string ⟨#[]⟩) := o_r.cell 1
              have qr_2 : w3.cell? ⟨w.heap.size, 2, none⟩ = some (.string ⟨#[]⟩) := o_r.cell 2
              have fr_0 := o_r.frozen 0
              have fr_1 := o_r.frozen 1
              have fr_2 := o_r.frozen 2
              have oz := o_r.set3 (.bool false) (.string ⟨#[]⟩) (.string ⟨#[]⟩)
              have sz9 := Below.set3 hbw (g := w.heap.size) (by omega) (.bool false) (.string ⟨#[]⟩) (.string ⟨#[]⟩)
              go_wp2_with fail
              generalize (((w3.setCell ⟨w.heap.size, 0, none⟩ (.bool false)).setCell ⟨w.heap.size, 1, none⟩ (.string ⟨#[]⟩)).setCell ⟨w.heap.size, 2, none⟩ (.string ⟨#[]⟩)) = wz at oz sz9 ⊢
              have z0 : wz.cell? ⟨w.heap.size, 0, none⟩ = some (.bool false) := oz.cell 0
              have z1 : wz.cell? ⟨w.heap.size, 1, none⟩ = some (.string ⟨#[]⟩) := oz.cell 1
              have z2 : wz.cell? ⟨w.heap.size, 2, none⟩ = some (.string ⟨#[]⟩) := oz.cell 2
              exact bodyPost_ret (v := .tuple #[.agg #[.bool false, .string ⟨#[]⟩, .string ⟨#[]⟩], .int .i64 3]) (by simp [results, Try.results37, go_sem, z0, z1, z2]) rfl ⟨HNO.out (by simp), sz9⟩
            | true =>
              cases ff with
              | false =>
                have HFF := HW.out
                have f1 : (tx.toList == s.toList) = false := HFF.1
                have f2 : (tx.toList != s.toList) = true := HFF.2
                have f3 : ¬ (tx.toList = s.toList) := by simpa using f1
                clear HFF
                have qa_0 : wy.cell? ⟨g2, 0, none⟩ = some (.bool n) := o_a.cell 0
                have qa_1 : wy.cell? ⟨g2, 1, none⟩ = some (.string p) := o_a.cell 1
                have qa_2 : wy.cell? ⟨g2, 2, none⟩ = some (.string d) := o_a.cell 2
                go_wp2_with fail
                clear qa_0 qa_1 qa_2
                refine (HI.out _).mono ?_
                rintro e w3 ⟨rfl, hb_3⟩
                replace o_a := o_a.below hb_3 o_a.lt
                replace o_r := o_r.below hb_3 o_r.lt
                replace hbw := below6 hbw hb_3
                clear hb_3
                have qa_0 : w3.cell? ⟨g2, 0, none⟩ = some (.bool n) := o_a.cell 0
                have qa_1 : w3.cell? ⟨g2, 1, none⟩ = some (.string p) := o_a.cell 1
                have qa_2 : w3.cell? ⟨g2, 2, none⟩ = some (.string d) := o_a.cell 2
                go_wp2_with fail
                clear qa_0 qa_1 qa_2
                refine (HF.out (by simp) _).mono ?_
                rintro e w4 ⟨rfl, hb_4⟩
                replace o_a := o_a.below hb_4 o_a.lt
                replace o_r := o_r.below hb_4 o_r.lt
                replace hbw := below6 hbw hb_4
                clear hb_4
                have qr_0 : w4.cell? ⟨w.heap.size, 0, none⟩ = some (.bool false) := o_r.cell 0
                have qr_1 : w4.cell? ⟨w.heap.size, 1, none⟩ = some (.string ⟨#[]⟩) := o_r.cell 1
                have qr_2 : w4.cell? ⟨w.heap.size, 2, none⟩ = some (.string ⟨#[]⟩) := o_r.cell 2
                have fr_0 := o_r.frozen 0
                have fr_1 := o_r.frozen 1
                have fr_2 := o_r.frozen 2
                have oz := o_r.set3 (.bool false) (.string ⟨#[]⟩) (.string ⟨#[]⟩)
                have sz9 := Below.set3 hbw (g := w.heap.size) (by omega) (.bool false) (.string ⟨#[]⟩) (.string ⟨#[]⟩)
                go_wp2_with fail
                generalize (((w4.setCell ⟨w.heap.size, 0, none⟩ (.bool false)).setCell ⟨w.heap.size, 1, none⟩ (.string ⟨#[]⟩)).setCell ⟨w.heap.size, 2, none⟩ (.string ⟨#[]⟩)) = wz at oz sz9 ⊢
                have z0 : wz.cell? ⟨w.heap.size, 0, none⟩ = some (.bool false) := oz.cell 0
                have z1 : wz.cell? ⟨w.heap.size, 1, none⟩ = some (.string ⟨#[]⟩) := oz.cell 1
                have z2 : wz.cell? ⟨w.heap.size, 2, none⟩ = some (.string ⟨#[]⟩) := oz.cell 2
                exact bodyPost_ret (v := .tuple #[.agg #[.bool false, .string ⟨#[]⟩, .string ⟨#[]⟩], .int .i64 3]) (by simp [results, Try.results37, go_sem, z0, z1, z2]) rfl ⟨HNO.out (by simp), sz9⟩
              | true =>
                have HFF := HW.out
                have f1 : (tx.toList == s.toList) = true := HFF.1
                have f2 : (tx.toList != s.toList) = false := HFF.2
                have f3 : tx.toList = s.toList := by simpa using f1
                clear HFF
                have qa_0 : wy.cell? ⟨g2, 0, none⟩ = some (.bool n) := o_a.cell 0
                have qa_1 : wy.cell? ⟨g2, 1, none⟩ = some (.string p) := o_a.cell 1
                have qa_2 : wy.cell? ⟨g2, 2, none⟩ = some (.string d) := o_a.cell 2
                go_wp2_with fail
                clear qa_0 qa_1 qa_2
                refine (HI.out _).mono ?_
                rintro e w3 ⟨rfl, hb_3⟩
                replace o_a := o_a.below hb_3 o_a.lt
                replace o_r := o_r.below hb_3 o_r.lt
                replace hbw := below6 hbw hb_3
                clear hb_3
                have qa_0 : w3.cell? ⟨g2, 0, none⟩ = some (.bool n) := o_a.cell 0
                have qa_1 : w3.cell? ⟨g2, 1, none⟩ = some (.string p) := o_a.cell 1
                have qa_2 : w3.cell? ⟨g2, 2, none⟩ = some (.string d) := o_a.cell 2
                go_wp2_with fail
                clear qa_0 qa_1 qa_2
                refine (HF.out (by simp) _).mono ?_
                rintro e w4 ⟨rfl, hb_4⟩
                replace o_a := o_a.below hb_4 o_a.lt
                replace o_r := o_r.below hb_4 o_r.lt
                replace hbw := below6 hbw hb_4
                clear hb_4
                have qa_0 : w4.cell? ⟨g2, 0, none⟩ = some (.bool n) := o_a.cell 0
                have qa_1 : w4.cell? ⟨g2, 1, none⟩ = some (.string p) := o_a.cell 1
                have qa_2 : w4.cell? ⟨g2, 2, none⟩ = some (.string d) := o_a.cell 2
                have qr_0 : w4.cell? ⟨w.heap.size, 0, none⟩ = some (.bool false) := o_r.cell 0
                have qr_1 : w4.cell? ⟨w.heap.size, 1, none⟩ = some (.string ⟨#[]⟩) := o_r.cell 1
                have qr_2 : w4.cell? ⟨w.heap.size, 2, none⟩ = some (.string ⟨#[]⟩) := o_r.cell 2
                have fr_0 := o_r.frozen 0
                have fr_1 := o_r.frozen 1
                have fr_2 := o_r.frozen 2
                have oz := o_r.set3 (.bool n) (.string p) (.string d)
                have sz9 := Below.set3 hbw (g := w.heap.size) (by omega) (.bool n) (.string p) (.string d)
                go_wp2_with fail
                generalize (((w4.setCell ⟨w.heap.size, 0, none⟩ (.bool n)).setCell ⟨w.heap.size, 1, none⟩ (.string p)).setCell ⟨w.heap.size, 2, none⟩ (.string d)) = wz at oz sz9 ⊢
                have z0 : wz.cell? ⟨w.heap.size, 0, none⟩ = some (.bool n) := oz.cell 0
                have z1 : wz.cell? ⟨w.heap.size, 1, none⟩ = some (.string p) := oz.cell 1
                have z2 : wz.cell? ⟨w.heap.size, 2, none⟩ = some (.string d) := oz.cell 2
                exact bodyPost_ret (v := .tuple #[.agg #[.bool n, .string p, .string d], .int .i64 0]) (by simp [results, Try.results37, go_sem, z0, z1, z2]) rfl ⟨HOK.out (by simp) (by simp), sz9⟩
          · have HS2 := Lib.hid (HS.out.succ (by rw [byte_at hlt]; intro e; exact hc (u8_47.1 (Option.some.inj e))))
            have b1 : ((((u[i]'hlt).toNat : Nat) : Int) == 47) = false := beqI_false (by omega)
            clear hc
            have qa_0 : wr.cell? ⟨g2, 0, none⟩ = some (.bool n) := o_a.cell 0
            have qa_1 : wr.cell? ⟨g2, 1, none⟩ = some (.string u) := o_a.cell 1
            have qa_2 : wr.cell? ⟨g2, 2, none⟩ = some (.string ⟨#[49]⟩) := o_a.cell 2
            go_wp2_with fail
            clear qa_0 qa_1 qa_2
            go_roundg (u.size - (i + 1))
            case measure => have := HQ.out; omega
            case rel => exact ⟨i + 1, rfl, by omega, by go_num, HS2.out, o_a, o_r, hbw⟩
        · obtain rfl : i = u.size := by omega
          have HH := Lib.hid (slash_all HS.out)
          have hp1 := HPA.out.num
          have hp2 := HPA.out.den
          have hp3 := HPA.out.some_
          rw [HUN.out, HH.out] at hp1 hp2 hp3
          obtain rfl : sm = false := hp3.symm
          obtain rfl : d = ⟨#[49]⟩ := HD.out
          obtain rfl : p = u := ba_ext hp1.symm
          clear hp1 hp2 hp3 HH HS hlt hi
          cases b with
          | false =>
            have qa_0 : wr.cell? ⟨g2, 0, none⟩ = some (.bool n) := o_a.cell 0
            have qa_1 : wr.cell? ⟨g2, 1, none⟩ = some (.string p) := o_a.cell 1
            have qa_2 : wr.cell? ⟨g2, 2, none⟩ = some (.string ⟨#[49]⟩) := o_a.cell 2
            go_wp2_with fail
            clear qa_0 qa_1 qa_2
            refine (HI.out _).mono ?_
            rintro e w3 ⟨rfl, hb_3⟩
            replace o_a := o_a.below hb_3 o_a.lt
            replace o_r := o_r.below hb_3 o_r.lt
            replace hbw := below6 hbw hb_3
            clear hb_3
            have qr_0 : w3.cell? ⟨w.heap.size, 0, none⟩ = some (.bool false) := o_r.cell 0
            have qr_1 : w3.cell? ⟨w.heap.size, 1, none⟩ = some (.string ⟨#[]⟩) := o_r.cell 1
            have qr_2 : w3.cell? ⟨w.heap.size, 2, none⟩ = some (.string ⟨#[]⟩) := o_r.cell 2
            have fr_0 := o_r.frozen 0
            have fr_1 := o_r.frozen 1
            have fr_2 := o_r.frozen 2
            have oz := o_r.set3 (.bool false) (.string ⟨#[]⟩) (.string ⟨#[]⟩)
            have sz9 := Below.set3 hbw (g := w.heap.size) (by omega) (.bool false) (.string ⟨#[]⟩) (.string ⟨#[]⟩)
            go_wp2_with fail
            generalize (((w3.setCell ⟨w.heap.size, 0, none⟩ (.bool false)).setCell ⟨w.heap.size, 1, none⟩ (.string ⟨#[]⟩)).setCell ⟨w.heap.size, 2, none⟩ (.string ⟨#[]⟩)) = wz at oz sz9 ⊢
            have z0 : wz.cell? ⟨w.heap.size, 0, none⟩ = some (.bool false) := oz.cell 0
            have z1 : wz.cell? ⟨w.heap.size, 1, none⟩ = some (.string ⟨#[]⟩) := oz.cell 1
            have z2 : wz.cell? ⟨w.heap.size, 2, none⟩ = some (.string ⟨#[]⟩) := oz.cell 2
            exact bodyPost_ret (v := .tuple #[.agg #[.bool false, .string ⟨#[]⟩, .string ⟨#[]⟩], .int .i64 3]) (by simp [results, Try.results37, go_sem, z0, z1, z2]) rfl ⟨HNO.out (by simp), sz9⟩
          | true =>
            cases ff with
            | false =>
              have HFF := HW.out
              have f1 : (tx.toList == s.toList) = false := HFF.1
              have f2 : (tx.toList != s.toList) = true := HFF.2
              have f3 : ¬ (tx.toList = s.toList) := by simpa using f1
              clear HFF
              have qa_0 : wr.cell? ⟨g2, 0, none⟩ = some (.bool n) := o_a.cell 0
              have qa_1 : wr.cell? ⟨g2, 1, none⟩ = some (.string p) := o_a.cell 1
              have qa_2 : wr.cell? ⟨g2, 2, none⟩ = some (.string ⟨#[49]⟩) := o_a.cell 2
              go_wp2_with fail
              clear qa_0 qa_1 qa_2
              refine (HI.out _).mono ?_
              rintro e w3 ⟨rfl, hb_3⟩
              replace o_a := o_a.below hb_3 o_a.lt
              replace o_r := o_r.below hb_3 o_r.lt
              replace hbw := below6 hbw hb_3
              clear hb_3
              have qa_0 : w3.cell? ⟨g2, 0, none⟩ = some (.bool n) := o_a.cell 0
              have qa_1 : w3.cell? ⟨g2, 1, none⟩ = some (.string p) := o_a.cell 1
              have qa_2 : w3.cell? ⟨g2, 2, none⟩ = some (.string ⟨#[49]⟩) := o_a.cell 2
              go_wp2_with fail
              clear qa_0 qa_1 qa_2
              refine (HF.out (by simp) _).mono ?_
              rintro e w4 ⟨rfl, hb_4⟩
              replace o_a := o_a.below hb_4 o_a.lt
              replace o_r := o_r.below hb_4 o_r.lt
              replace hbw := below6 hbw hb_4
              clear hb_4
              have qr_0 : w4.cell? ⟨w.heap.size, 0, none⟩ = some (.bool false) := o_r.cell 0
              have qr_1 : w4.cell? ⟨w.heap.size, 1, none⟩ = some (.string ⟨#[]⟩) := o_r.cell 1
              have qr_2 : w4.cell? ⟨w.heap.size, 2, none⟩ = some (.string ⟨#[]⟩) := o_r.cell 2
              have fr_0 := o_r.frozen 0
              have fr_1 := o_r.frozen 1
              have fr_2 := o_r.frozen 2
              have oz := o_r.set3 (.bool false) (.string ⟨#[]⟩) (.string ⟨#[]⟩)
              have sz9 := Below.set3 hbw (g := w.heap.size) (by omega) (.bool false) (.string ⟨#[]⟩) (.string ⟨#[]⟩)
              go_wp2_with fail
              generalize (((w4.setCell ⟨w.heap.size, 0, none⟩ (.bool false)).setCell ⟨w.heap.size, 1, none⟩ (.string ⟨#[]⟩)).setCell ⟨w.heap.size, 2, none⟩ (.string ⟨#[]⟩)) = wz at oz sz9 ⊢
              have z0 : wz.cell? ⟨w.heap.size, 0, none⟩ = some (.bool false) := oz.cell 0
              have z1 : wz.cell? ⟨w.heap.size, 1, none⟩ = some (.string ⟨#[]⟩) := oz.cell 1
              have z2 : wz.cell? ⟨w.heap.size, 2, none⟩ = some (.string ⟨#[]⟩) := oz.cell 2
              exact bodyPost_ret (v := .tuple #[.agg #[.bool false, .string ⟨#[]⟩, .string ⟨#[]⟩], .int .i64 3]) (by simp [results, Try.results37, go_sem, z0, z1, z2]) rfl ⟨HNO.out (by simp), sz9⟩
            | true =>
              have HFF := HW.out
              have f1 : (tx.toList == s.toList) = true := HFF.1
              have f2 : (tx.toList != s.toList) = false := HFF.2
              have f3 : tx.toList = s.toList := by simpa using f1
              clear HFF
              have qa_0 : wr.cell? ⟨g2, 0, none⟩ = some (.bool n) := o_a.cell 0
              have qa_1 : wr.cell? ⟨g2, 1, none⟩ = some (.string p) := o_a.cell 1
              have qa_2 : wr.cell? ⟨g2, 2, none⟩ = some (.string ⟨#[49]⟩) := o_a.cell 2
              go_wp2_with fail
              clear qa_0 qa_1 qa_2
              refine (HI.out _).mono ?_
              rintro e w3 ⟨rfl, hb_3⟩
              replace o_a := o_a.below hb_3 o_a.lt
              replace o_r := o_r.below hb_3 o_r.lt
              replace hbw := below6 hbw hb_3
              clear hb_3
              have qa_0 : w3.cell? ⟨g2, 0, none⟩ = some (.bool n) := o_a.cell 0
              have qa_1 : w3.cell? ⟨g2, 1, none⟩ = some (.string p) := o_a.cell 1
              have qa_2 : w3.cell? ⟨g2, 2, none⟩ = some (.string ⟨#[49]⟩) := o_a.cell 2
              go_wp2_with fail
              clear qa_0 qa_1 qa_2
              refine (HF.out (by simp) _).mono ?_
              rintro e w4 ⟨rfl, hb_4⟩
              replace o_a := o_a.below hb_4 o_a.lt
              replace o_r := o_r.below hb_4 o_r.lt
              replace hbw := below6 hbw hb_4
              clear hb_4
              have qa_0 : w4.cell? ⟨g2, 0, none⟩ = some (.bool n) := o_a.cell 0
              have qa_1 : w4.cell? ⟨g2, 1, none⟩ = some (.string p) := o_a.cell 1
              have qa_2 : w4.cell? ⟨g2, 2, none⟩ = some (.string ⟨#[49]⟩) := o_a.cell 2
              have qr_0 : w4.cell? ⟨w.heap.size, 0, none⟩ = some (.bool false) := o_r.cell 0
              have qr_1 : w4.cell? ⟨w.heap.size, 1, none⟩ = some (.string ⟨#[]⟩) := o_r.cell 1
              have qr_2 : w4.cell? ⟨w.heap.size, 2, none⟩ = some (.string ⟨#[]⟩) := o_r.cell 2
              have fr_0 := o_r.frozen 0
              have fr_1 := o_r.frozen 1
              have fr_2 := o_r.frozen 2
              have oz := o_r.set3 (.bool n) (.string p) (.string ⟨#[49]⟩)
              have sz9 := Below.set3 hbw (g := w.heap.size) (by omega) (.bool n) (.string p) (.string ⟨#[49]⟩)
              go_wp2_with fail
              generalize (((w4.setCell ⟨w.heap.size, 0, none⟩ (.bool n)).setCell ⟨w.heap.size, 1, none⟩ (.string p)).setCell ⟨w.heap.size, 2, none⟩ (.string ⟨#[49]⟩)) = wz at oz sz9 ⊢
              have z0 : wz.cell? ⟨w.heap.size, 0, none⟩ = some (.bool n) := oz.cell 0
              have z1 : wz.cell? ⟨w.heap.size, 1, none⟩ = some (.string p) := oz.cell 1
              have z2 : wz.cell? ⟨w.heap.size, 2, none⟩ = some (.string ⟨#[49]⟩) := oz.cell 2
              exact bodyPost_ret (v := .tuple #[.agg #[.bool n, .string p, .string ⟨#[49]⟩], .int .i64 0]) (by simp [results, Try.results37, go_sem, z0, z1, z2]) rfl ⟨HOK.out (by simp) (by simp), sz9⟩
end Go.Proofs.Ytofijnhkoadfjaa
