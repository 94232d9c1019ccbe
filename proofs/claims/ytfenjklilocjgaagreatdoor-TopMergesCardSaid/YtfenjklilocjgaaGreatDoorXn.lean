/- Parts of the proof: Xg, Xn. No condition of its own. -/
import Derived.Test.YtfenjklilocjgaaGreatDoorXf
import Derived.Lib.AppendStr
import Derived.Test.YtfenjklilocjgaaGreatDoorXa
import Derived.Maps.OwnIn
set_option linter.unusedSimpArgs false
set_option linter.unusedVariables false
set_option linter.unusedSectionVars false
namespace Go.Proofs.YtfenjklilocjgaaGreatDoor
set_option linter.unusedSimpArgs false
set_option linter.unusedVariables false
set_option linter.unusedSectionVars false
open Go.RowKit

def encStep (st : List UInt8 × ByteArray) (e : ByteArray × Nat) : List UInt8 × ByteArray :=
  (st.1 ++ uv (com st.2 e.1 0) ++ uv (e.1.size - com st.2 e.1 0) ++ (e.1.extract (com st.2 e.1 0) e.1.size).data.toList ++ uv (e.2 - 1), e.1)
def encP (E : List (ByteArray × Nat)) : List UInt8 := (E.foldl encStep (uv E.length, ⟨#[]⟩)).1
def encB (E : List (ByteArray × Nat)) : List UInt8 := encP E ++ b4 (bits .xor .u32 4294967295 (sumV (encP E)))
/-- A lexicon in memory: words and counts. -/
def LexIn (w : World) (p : Nat) (E : List (ByteArray × Nat)) : Prop :=
  ∃ A c A2 c2 rv, Own w p 49 [.slice A E.length c, .slice A2 E.length c2, rv] ∧ Rd w A (E.map fun e => Value.string e.1) ∧ Rd w A2 (E.map fun e => Value.int .i64 (e.2 : Int)) ∧ E.length ≤ c ∧ c ≤ maxLen ∧ E.length ≤ c2 ∧ c2 ≤ maxLen
theorem LexIn.below {w w' : World} {p : Nat} {E : List (ByteArray × Nat)} (h : LexIn w p E) (hb : Below w.heap.size w w') : LexIn w' p E := by
  obtain ⟨A, c, A2, c2, rv, h1, h2, h3, h4⟩ := h
  exact ⟨A, c, A2, c2, rv, h1.below hb h1.lt, h2.below hb, h3.below hb, h4⟩
theorem own_rd {w : World} {base e n : Nat} {A : Option Addr} {c : Nat} {xs : List Value} (h : w.ownsRow base e 1 (.slice A n c) n xs) : Rd w A xs ∧ n ≤ c ∧ c ≤ maxLen := by
  have hx := h.1
  rcases h.2 with ⟨hv, rfl⟩ | ⟨g, cap, cur, hv, hb, hg, h1, h2, h3, h4⟩
  · obtain rfl : xs = [] := List.eq_nil_of_length_eq_zero (by omega)
    injection hv with a b c'
    subst c'
    exact ⟨Rd.nil _ _, Nat.le_refl _, by unfold maxLen; omega⟩
  · injection hv with a b c'
    subst a c'
    refine ⟨fun j u hu => ⟨g, 0, rfl, ?_⟩, h1, h2⟩
    have hj : j < n * 1 := by rw [← hx]; exact (List.getElem?_eq_some_iff.1 hu).1
    rw [Nat.zero_add]
    exact (World.ownsRow.cellAt h j hj).trans hu
theorem ownsRow_b {w w' : World} {base size e n : Nat} {v : Value} {xs : List Value} (h : w.ownsRow base e size v n xs) (hb : Below w.heap.size w w') : w'.ownsRow base e size v n xs := by
  refine ⟨h.1, ?_⟩
  rcases h.2 with hn | ⟨g, cap, cur, hv, hg1, hg, rest⟩
  · exact .inl hn
  · refine .inr ⟨g, cap, cur, hv, hg1, ?_, rest⟩
    have hlt : g < w.heap.size := by
      rcases Nat.lt_or_ge g w.heap.size with h | h
      · exact h
      · rw [Array.getElem?_eq_none h] at hg; cases hg
    rw [hb.block g hlt]; exact hg
theorem enc_eq (l : List UInt8) (b s : ByteArray) (k n : Nat) (hn : n = com b s 0) : encStep (l, b) (s, k) = (l ++ uv n ++ uv (s.size - n) ++ (s.extract n s.size).data.toList ++ uv (k - 1), s) := by rw [hn]; rfl
theorem str_u8c (s : ByteArray) : Lib.strCells s = u8c s.data.toList := rfl
theorem u8c_app (a b : List UInt8) : u8c (a ++ b) = u8c a ++ u8c b := List.map_append
theorem enc_len (e : ByteArray × Nat) (l : List UInt8) (b : ByteArray) (h1 : e.1.size ≤ 1000) (h2 : e.2 ≤ 1000000) (hb : b.size ≤ 1000) : (encStep (l, b) e).1.length ≤ l.length + 1100 := by
  obtain ⟨c1, c2⟩ := com_le b e.1 b.size 0 (by omega) (by omega) (by omega)
  have u1 := uv_len 9 (com b e.1 0) (Nat.lt_of_le_of_lt c1 (Nat.lt_of_le_of_lt hb (by decide)))
  have u2 := uv_len 9 (e.1.size - com b e.1 0) (Nat.lt_of_le_of_lt (Nat.sub_le _ _) (Nat.lt_of_le_of_lt h1 (by decide)))
  have u3 := uv_len 9 (e.2 - 1) (Nat.lt_of_le_of_lt (Nat.sub_le _ _) (Nat.lt_of_le_of_lt h2 (by decide)))
  have u4 : (e.1.extract (com b e.1 0) e.1.size).data.toList.length ≤ e.1.size := by
    rw [Array.length_toList]
    show (e.1.extract (com b e.1 0) e.1.size).size ≤ _
    rw [ByteArray.size_extract]; omega
  unfold encStep
  simp only [List.length_append]
  omega
/-- A number put behind an own row. -/
theorem put_l (A : Option Addr) (l : List UInt8) (c x base : Nat) (hx : x < 18446744073709551616) (hm : l.length ≤ 1000000000) (w : World) (h : w.ownsRow base 5 1 (.slice A l.length c) l.length (u8c l)) :
    Calls Tryz.prog 19 #[.slice A l.length c, .int .u64 (x : Int)] w fun e w' => ∃ A' c' l', l' = l ++ uv x ∧ e = .returned (.slice A' l'.length c') ∧ w'.ownsRow w.heap.size 5 1 (.slice A' l'.length c') l'.length (u8c l') ∧ Below w.heap.size w w' := by
  obtain ⟨h1, h2, h3⟩ := own_rd h
  refine (put_any A l c x h2 h3 hx hm w h1).mono ?_
  rintro e w' ⟨v, rfl, ho, hb⟩
  rw [← List.length_append] at ho
  obtain ⟨A', c', rfl, -, -⟩ := own_form ho
  exact ⟨A', c', _, rfl, rfl, ho, hb⟩
set_option maxRecDepth 100000 in
set_option maxHeartbeats 4000000 in
theorem encode_any (p : Nat) (E : List (ByteArray × Nat)) (hE : E.length ≤ 1000) (hs : ∀ e ∈ E, e.1.size ≤ 1000 ∧ 1 ≤ e.2 ∧ e.2 ≤ 1000000) (w : World) (h : LexIn w p E) :
    Calls Tryz.prog 8 #[.pointer (some ⟨p, 0, none⟩)] w fun e w' => ∃ v, e = .returned v ∧ w'.ownsRow w.heap.size 5 1 v (encB E).length (u8c (encB E)) ∧ Below w.heap.size w w' := by
  obtain ⟨A, c, A2, c2, rv, o_x, hR1, hR2, hc1, hc2, hc3, hc4⟩ := h
  have HR1 := Lib.hid hR1
  have HR2 := Lib.hid hR2
  have HS := Lib.hid hs
  clear hR1 hR2 hs
  obtain ⟨i0, hi0, hy0, hy1, hy2⟩ := u8_parts
  have n0 := o_x.cell 0
  have n1 := o_x.cell 1
  have zn : IntKind.u64.wrap (E.length : Int) = (E.length : Int) := IntWalk.u64_in _ (by omega)
  go_enter Tryz.func8, Tryz.ntmps8
  go_wp2_with fail
  refine (put_any none [] 0 E.length (Nat.le_refl _) (by unfold maxLen; omega) (by omega) (by decide) w (Rd.nil _ _)).mono ?_
  rintro e w1 ⟨v1, rfl, HO1, hb1⟩
  replace HO1 := Lib.hid HO1
  clear n0
  have n0 := (o_x.below hb1 o_x.lt).cell 0
  go_wp2_with fail
  obtain ⟨B, hB⟩ : ∃ B, B = w.heap.size := ⟨_, rfl⟩
  rw [← hB] at HO1
  have HB := Lib.hid hB
  have hb1' : Below B w w1 := by rw [hB]; exact hb1
  clear hB n0 n1 hb1
  obtain ⟨l0, hl0⟩ : ∃ l : List UInt8, l = uv E.length := ⟨_, rfl⟩
  have hl0p : 0 < l0.length := by rw [hl0]; exact uv_pos _
  have hl0' : l0.length ≤ 10 := by rw [hl0]; exact uv_len 9 _ (Nat.lt_of_le_of_lt hE (by decide))
  have HO2 : Hid (w1.ownsRow B 5 1 v1 l0.length (u8c l0)) := by
    have := HO1.out
    rw [← hl0] at this
    show World.ownsRow _ _ _ _ _ _ _
    simpa using this
  have HEN : Hid (encP E = (E.foldl encStep (l0, ⟨#[]⟩)).1) := by show _ = _; rw [hl0]; rfl
  clear hl0 HO1
  go_loopg [3, 4, 20] (E.length + 1) (fun q v3 v4 v20 wr => ∃ (i : Nat) (l : List UInt8) (b : ByteArray), q = E.length + 1 - i ∧ i ≤ E.length ∧ v20 = .int .i64 (i : Int) ∧ v4 = .string b ∧ Hid ((E.take i).foldl encStep (l0, ⟨#[]⟩) = (l, b)) ∧ b.size ≤ 1000 ∧ 0 < l.length ∧ l.length ≤ 10 + 1100 * i ∧ Hid (wr.ownsRow B 5 1 v3 l.length (u8c l)) ∧ Below B w wr)
  case atStart => exact ⟨0, l0, ⟨#[]⟩, rfl, Nat.zero_le _, rfl, rfl, rfl, by decide, hl0p, by omega, HO2, hb1'⟩
  case round =>
    clear hb1' HO2
    obtain ⟨i, l, b, rfl, hi, rfl, rfl, HF, hbz, hlp, hlz, HO, hb⟩ := hrel
    have hbw : Below w.heap.size w wr := by rw [← HB.out]; exact hb
    have hBs : B ≤ wr.heap.size := by rw [HB.out]; exact hb.size
    obtain ⟨A3, c3, rfl, hA1, hA2⟩ := own_form HO.out
    by_cases hlt : i < E.length
    · obtain ⟨hs1, hs2, hs3⟩ := HS.out E[i] (List.getElem_mem hlt)
      have HST : Hid ((E.take (i + 1)).foldl encStep (l0, ⟨#[]⟩) = encStep (l, b) E[i]) := by
        show _ = _
        rw [List.take_add_one, List.getElem?_eq_getElem hlt, List.foldl_append, HF.out]
        rfl
      have HEL := Lib.hid (enc_len E[i] l b hs1 hs3 hbz)
      obtain ⟨bA, oA, hA, k0⟩ := (HR1.out.below hbw) i (.string E[i].1) (by rw [List.getElem?_map, List.getElem?_eq_getElem hlt]; rfl)
      have HK1 := Lib.hid (HR2.out i (.int .i64 (E[i].2 : Int)) (by rw [List.getElem?_map, List.getElem?_eq_getElem hlt]; rfl))
      clear HF HS
      generalize E[i] = ei at *
      obtain ⟨s, k⟩ := ei
      subst hA
      simp only at hs1 hs2 hs3 k0 HK1
      obtain ⟨n, hn⟩ : ∃ n, n = com b s 0 := ⟨_, rfl⟩
      obtain ⟨hn1, hn2⟩ := com_le b s b.size 0 (by omega) (by omega) (by omega)
      rw [← hn] at hn1 hn2
      have c9 := common_any b s (by omega) (by omega) wr
      rw [← hn] at c9
      have HN := Lib.hid hn
      clear hn
      go_wp2_with fail
      refine c9.mono ?_
      rintro e w2 ⟨rfl, hb2⟩
      have zn1 : IntKind.u64.wrap (n : Int) = (n : Int) := IntWalk.u64_in _ (by omega)
      have zn2 : IntKind.u64.wrap ((s.size : Int) - (n : Int)) = ((s.size - n : Nat) : Int) := by rw [IntWalk.u64_in _ (by omega)]; omega
      have zn3 : IntKind.u64.wrap ((k : Int) - 1) = ((k - 1 : Nat) : Int) := by rw [IntWalk.u64_in _ (by omega)]; omega
      clear c9 k0
      have HOa := Lib.hid (ownsRow_b HO.out hb2)
      have hbw2 := hbw.trans (hb2.mono hbw.size)
      clear HO hb2
      go_wp2_with fail
      have HE1 := Lib.hid (enc_eq l b s k n HN.out)
      rw [HE1.out] at HST HEL
      refine (put_l A3 l c3 n B (by omega) (by omega) _ HOa.out).mono ?_
      rintro e w3 ⟨A4, c4, l1, hl1, rfl, ho3, hb3⟩
      have HOb := Lib.hid (ho3.mono (base' := B) (by rw [HB.out]; exact hbw2.size))
      have hbw3 := hbw2.trans (hb3.mono hbw2.size)
      rw [← hl1] at HST HEL
      have hz1 : l1.length ≤ l.length + 1100 := by have := HEL.out; simp only [List.length_append] at this; omega
      clear HOa ho3 hb3 hl1 HE1
      go_wp2_with fail
      refine (put_l A4 l1 c4 (s.size - n) B (by omega) (by omega) _ HOb.out).mono ?_
      rintro e w4 ⟨A5, c5, l2, hl2, rfl, ho4, hb4⟩
      have HOc := Lib.hid (ho4.mono (base' := B) (by rw [HB.out]; exact hbw3.size))
      have hbw4 := hbw3.trans (hb4.mono hbw3.size)
      have hBs4 : B ≤ w4.heap.size := by rw [HB.out]; exact hbw4.size
      rw [← hl2] at HST HEL
      have hz2 : l2.length ≤ l.length + 1100 := by have := HEL.out; simp only [List.length_append] at this; omega
      clear HOb ho4 hb4 hl2
      have hxz : (s.extract n s.size).size = s.size - n := by rw [ByteArray.size_extract]; omega
      have h63 : l2.length + (s.extract n s.size).size ≤ maxLen := by unfold maxLen; omega
      go_wp2_with (at_builtin; refine Lib.wpList_append_own_string _ rfl (.tmp 39) (.tmp 42) 39 9 rfl B 5 i0 Tryz.underlying39 Tryz.underlying9 hi0 hy0 hy1 hy2 _ l2.length (u8c l2) rfl HOc.out (s.extract n s.size) rfl h63 (by omega) hBs4 ?_)
      intro v' w5 hown' hgrow _
      obtain ⟨l3, hl3⟩ : ∃ l3, l3 = l2 ++ (s.extract n s.size).data.toList := ⟨_, rfl⟩
      have hz3 : l3.length = l2.length + (s.size - n) := by rw [hl3, List.length_append, Array.length_toList, ← hxz]; rfl
      rw [str_u8c, ← u8c_app, ← hl3, ← hz3] at hown'
      have hbw5 : Below w.heap.size w w5 := by rw [← HB.out] at hbw4 ⊢; exact hbw4.grown hgrow hBs4 (own_lt HOc.out)
      obtain ⟨A6, c6, rfl, -, -⟩ := own_form hown'
      have HOd := Lib.hid hown'
      rw [← hl3] at HST HEL
      clear HOc hown' hgrow hbw4 hl3 h63
      obtain ⟨bA2, oA2, hA2', k1⟩ := HK1.out
      subst hA2'
      clear HK1
      have n1 := (o_x.below hbw5 o_x.lt).cell 1
      have k2 := below_cell hbw5 k1
      have z3 : l3.length ≤ 1000000000 := by omega
      clear k1 hz3
      go_wp2_with fail
      refine (put_l A6 l3 c6 (k - 1) B (by omega) z3 _ HOd.out).mono ?_
      rintro e w6 ⟨A7, c7, l4, hl4, rfl, ho6, hb6⟩
      have HOe := Lib.hid (ho6.mono (base' := B) (by rw [HB.out]; exact hbw5.size))
      have hbw6 : Below B w w6 := by rw [HB.out]; exact hbw5.trans (hb6.mono hbw5.size)
      have hp4 : 0 < l4.length := by rw [hl4, List.length_append]; have := uv_pos (k - 1); omega
      rw [← hl4] at HST HEL
      have hz4 : l4.length ≤ 10 + 1100 * (i + 1) := by have := HEL.out; omega
      clear HOd ho6 hb6 hl4 n1 k2
      go_wp2_with fail
      go_roundg (E.length + 1 - (i + 1))
      case measure => omega
      case rel => exact ⟨i + 1, l4, s, rfl, by omega, by go_num, rfl, HST, hs1, hp4, hz4, HOe, hbw6⟩
    · have ei : i = E.length := by omega
      subst ei
      rw [List.take_length] at HF
      have HP : Hid (encP E = l) := by show _ = _; rw [HEN.out, HF.out]
      clear HF HEN
      have hr0 := (own_rd HO.out).1
      obtain ⟨b9, off9, rfl, -⟩ := hr0 0 _ (List.getElem?_eq_getElem (by rw [u8c_len]; exact hlp))
      go_wp2_with fail
      refine (seal_any b9 off9 l c3 hA1 hA2 (by omega) _ hr0).mono ?_
      rintro e w8 ⟨v8, rfl, ho8, hb8⟩
      have HX : Hid (w8.ownsRow w.heap.size 5 1 v8 (encB E).length (u8c (encB E))) := by
        show World.ownsRow _ _ _ _ _ _ _
        have e1 : encB E = l ++ b4 (bits .xor .u32 4294967295 (sumV l)) := by unfold encB; rw [HP.out]
        have := ho8.mono (base' := w.heap.size) hbw.size
        rw [e1, List.length_append]
        exact this
      have hbw8 := hbw.trans (hb8.mono hbw.size)
      clear ho8 hb8
      go_wp2
      go_ret
      exact ⟨_, rfl, HX.out, hbw8⟩
set_option linter.unusedSimpArgs false
set_option linter.unusedVariables false
set_option linter.unusedSectionVars false
open Go.RowKit

attribute [local go_sem] Oper.semAt_some

def un3 (u : Nat × Nat × Nat) : List Value := [.int .i32 (u.1 : Int), .int .i64 (u.2.1 : Int), .int .i64 (u.2.2 : Int)]
def unc (L : List (Nat × Nat × Nat)) : List Value := (L.map un3).flatten
theorem unc_app (L : List (Nat × Nat × Nat)) (u : Nat × Nat × Nat) : unc (L ++ [u]) = unc L ++ un3 u := by simp [unc]
theorem unc_get {L : List (Nat × Nat × Nat)} {k : Nat} {u : Nat × Nat × Nat} (hk : L[k]? = some u) {j : Nat} {x : Value} (hx : (un3 u)[j]? = some x) : (unc L)[k * 3 + j]? = some x :=
  flat_get (k := 3) (es := L.map un3) (fun e he => by obtain ⟨u, -, rfl⟩ := List.mem_map.1 he; rfl) k (un3 u) j x (by rw [List.getElem?_map, hk]; rfl) hx
theorem unit3_parts : ∃ i, Tryz.prog.info? 78 = some i ∧ i.zero = some (.agg #[.int .i32 0, .int .i64 0, .int .i64 0]) ∧ i.size = 3 ∧ i.bytes = 24 := by
  obtain ⟨i0, hi0, hz0, hz1, hz2⟩ := info_parts (show (Tryz.prog.info? 78).map (fun i => (i.zero, i.size, i.bytes)) = some (some (.agg #[.int .i32 0, .int .i64 0, .int .i64 0]), 3, 24) by kernel_rfl)
  exact ⟨i0, hi0, hz0, hz1, hz2⟩
theorem ownsRow_o {S : Nat → Prop} {w w' : World} {base size e n : Nat} {v : Value} {xs : List Value} (h : w.ownsRow base e size v n xs) (hc : Chg S w w') (hS : ∀ k, base ≤ k → ¬ S k) : w'.ownsRow base e size v n xs := by
  refine ⟨h.1, ?_⟩
  rcases h.2 with hn | ⟨g, cap, cur, hv, hg1, hg, rest⟩
  · exact .inl hn
  · refine .inr ⟨g, cap, cur, hv, hg1, ?_, rest⟩
    have hlt : g < w.heap.size := by
      rcases Nat.lt_or_ge g w.heap.size with h | h
      · exact h
      · rw [Array.getElem?_eq_none h] at hg; cases hg
    rw [hc.block g hlt (hS g hg1)]; exact hg
def LI (B N : Nat) (w : World) (s : ByteArray) (pre : List (Nat × Nat × Nat)) (W : World) : Prop :=
  ∃ v, Own W B 119 [v] ∧ W.ownsRow (N + 4) 78 3 v pre.length (unc pre) ∧ Own W (B + 1) 9 [.string s] ∧ Below B w W
set_option maxRecDepth 100000 in
set_option maxHeartbeats 4000000 in
theorem list_any (s : ByteArray) (hs : s.size ≤ 1000000) (w : World) :
    Calls Tryz.prog 67 #[.string s] w fun e w' => ∃ v L q, e = .returned v ∧ Chain s 0 L q ∧ s.size ≤ q ∧ w'.ownsRow w.heap.size 78 3 v L.length (unc L) ∧ Below w.heap.size w w' := by
  refine (callsIn_wide (n := 9)).1 ?_
  refine callsIn_of_wp_marks Tryz.func67 rfl trivial ?_ rfl
  simp only [Tryz.ntmps67, List.size_toArray, List.length_cons, List.length_nil, Nat.reduceAdd, Nat.reduceSub, Array.replicate_succ, Array.replicate_zero, List.push_toArray, List.append_toArray, List.nil_append, List.cons_append]
  obtain ⟨i0, hi0, hy0, hy1, hy2⟩ := unit3_parts
  obtain ⟨o_r, hbr⟩ := new1 w [.slice none 0 0] 119
  gi_wp2_with fail
  refine ⟨trivial, ?_⟩
  have hw1 : (w.alloc (.cells #[.slice none 0 0] 119)).heap.size = w.heap.size + 1 := size1 _ _
  refine (callsIn_wide.2 (units_fn s _)).mono ?_
  rintro e V ⟨rfl, o_s, hbs⟩
  rw [hw1] at o_s hbs ⊢
  have o_r2 := o_r.below hbs (by show w.heap.size < w.heap.size + 1; omega)
  have hbw : Below w.heap.size w V := hbr.trans (hbs.mono (by omega))
  have hVs : w.heap.size + 2 ≤ V.heap.size := by have := o_s.lt; omega
  clear o_r hbr hbs
  gi_wp2_with fail
  refine range_all (F := Fence.wide) rfl (by decide) (gf := 55) (lb := #[.pointer (some ⟨w.heap.size + 1, 0, none⟩)]) rfl trivial (enters_of Tryz.func55 (by kernel_rfl) rfl) (encs := uenc) (fun _ => rfl)
    (seq_units Fence.wide 8 trivial rfl (by decide) (w.heap.size + 1) s hs) (LI w.heap.size V.heap.size w s) (fun _ _ _ => False) ?hIH ?hI (fun _ _ _ _ h _ => h) ⟨_, o_r2, World.ownsRow_nil _ _ _ _, o_s, hbw⟩ ?round ?done (fun _ _ _ _ _ _ h _ => h.elim)
  case hIH => exact fun pre A ⟨_, _, _, h3, _⟩ => h3.cell 0
  case hI =>
    intro pre A B h hc
    obtain ⟨v, h1, h2, h3, h4⟩ := h
    exact ⟨v, own_its h1 hc (by omega), ownsRow_o h2 hc (fun k hk e => by have := e.2; omega), own_its h3 hc (by omega), below_chg h4 hc (by omega) (Nat.le_refl _)⟩
  case round =>
    rintro l pre ⟨r, a, n⟩ W K hl1 hl2 ⟨v, g1, g2, g3, g4⟩ ⟨q, hch⟩ hk
    have hpl : pre.length + 1 ≤ 1000000 := by
      have h1 := chain_len hch
      have h2 := chain_top hch (Nat.zero_le _)
      rw [List.length_append, List.length_singleton] at h1
      omega
    clear hch
    simp only [uenc]
    gi_wp2
    have hA := (Below.refl W.heap.size W).alloc (Nat.le_refl _) (.cells #[.int .i32 (r : Int), .int .i64 (a : Int), .int .i64 (n : Int)] 78)
    refine hk _ _ hA ?_
    intro W2 hc2 hz2
    have hs1 := size1 W (.cells #[.int .i32 (r : Int), .int .i64 (a : Int), .int .i64 (n : Int)] 78)
    have g1a := g1.below hA g1.lt
    have g2a := ownsRow_b g2 hA
    have g3a := g3.below hA g3.lt
    have ou := Own.new W 78 [.int .i32 (r : Int), .int .i64 (a : Int), .int .i64 (n : Int)]
    have g4a := g4.trans (hA.mono g4.size)
    have hlB : w.heap.size + 2 ≤ l := Nat.le_trans hVs hl1.1
    have hlW : l < W.heap.size := by have := hl1.2; omega
    have hl4 : l < V.heap.size + 4 := hl1.2
    have g1b : Own W2 w.heap.size 119 [v] := (hc2.block _ g1a.lt (by omega)).trans g1a
    have g2b : W2.ownsRow (V.heap.size + 4) 78 3 v pre.length (unc pre) := ownsRow_o g2a hc2 (fun k hk e => by omega)
    have g3b : Own W2 (w.heap.size + 1) 9 [.string s] := (hc2.block _ g3a.lt (by omega)).trans g3a
    have o_u : Own W2 W.heap.size 78 [.int .i32 (r : Int), .int .i64 (a : Int), .int .i64 (n : Int)] := (hc2.block _ (by rw [hs1]; omega) (by omega)).trans ou
    have g4b : Below w.heap.size w W2 := ⟨hc2.os.trans g4a.os, hc2.tape.trans g4a.tape, hc2.output.trans g4a.output, Nat.le_trans g4a.size hc2.size, fun k hk => (hc2.block k (by have := g4a.size; omega) (by omega)).trans (g4a.block k hk)⟩
    have hz3 : V.heap.size + 4 ≤ W2.heap.size := by omega
    have p0 : W2.cell? ⟨w.heap.size, 0, none⟩ = some v := g1b.cell 0
    have q0 : W2.cell? ⟨W.heap.size, 0, none⟩ = some (.int .i32 (r : Int)) := o_u.cell 0
    have q1 : W2.cell? ⟨W.heap.size, 1, none⟩ = some (.int .i64 (a : Int)) := o_u.cell 1
    have q2 : W2.cell? ⟨W.heap.size, 2, none⟩ = some (.int .i64 (n : Int)) := o_u.cell 2
    have hvn : v.ownBlock ≠ some w.heap.size := fun e => by have := (own_lt g2b) _ e; omega
    clear hk hA g1 g2 g3 g1a g2a g3a g4a ou hs1 hc2 hz2
    gi_wp2_with (gi_at_builtin; refine wpListIn_append_own_at _ rfl (.tmp 8) (.tmp 10) 119 rfl (V.heap.size + 4) 78 i0 _ 3 24 Tryz.underlying119 hi0 hy0 hy1 hy2 rfl (by decide) _ pre.length (unc pre) rfl (g2b.alloc _) ⟨W2.heap.size, 0, none⟩ 1 1 [.int .i32 (r : Int), .int .i64 (a : Int), .int .i64 (n : Int)] rfl rfl (new_cells _ _ [_, _, _] _ rfl) (by simp [Value.oneCell']) (by unfold maxLen; omega) (by omega) (by rw [size1]; omega) ?_)
    intro v' W3 hown' hgrow _ _
    have hz4 : (W2.alloc (.cells #[.int .i32 (r : Int), .int .i64 (a : Int), .int .i64 (n : Int)] 78)).heap.size = W2.heap.size + 1 := size1 _ _
    have hsz := hgrow.size
    have hold : ∀ k, k < V.heap.size + 4 → W3.heap[k]? = W2.heap[k]? := fun k hk => (hgrow.block k (by omega) (fun e => by have := own_lt g2b k e.symm; omega)).trans (Below.heap_alloc _ _ _ (by omega))
    have g1c : Own W3 w.heap.size 119 [v] := (hold _ (by omega)).trans g1b
    have g3c : Own W3 (w.heap.size + 1) 9 [.string s] := (hold _ (by omega)).trans g3b
    have g4c : Below w.heap.size w W3 := ⟨hgrow.os.trans g4b.os, hgrow.tape.trans g4b.tape, hgrow.output.trans g4b.output, Nat.le_trans g4b.size (by omega), fun k hk => (hold k (by omega)).trans (g4b.block k hk)⟩
    have kp : KeepS (ItS V.heap.size (2 + 2)) W2 W3 := ⟨by omega, fun k hk => hold k hk.2⟩
    have y0 := g1c.frozen 0
    have z0 : W3.cell? ⟨w.heap.size, 0, none⟩ = some v := g1c.cell 0
    have hvn : v'.ownBlock ≠ some w.heap.size := fun e => by have := (own_lt hown') _ e; omega
    have HO9 : Hid (W3.ownsRow (V.heap.size + 4) 78 3 v' (pre.length + 1) (unc (pre ++ [(r, a, n)]))) := by
      show World.ownsRow _ _ _ _ _ _ _
      rw [unc_app]; exact hown'
    obtain ⟨A', c', rfl, -, -⟩ := own_form hown'
    clear hgrow hown' hold p0 q0 q1 q2 hz4
    gi_wp2
    refine ⟨⟨Nat.le_trans kp.size (by simp), fun k hk => (Below.heap_setCell _ _ _ _ (by show k ≠ w.heap.size; have := hk.1; omega)).trans (kp.keep k hk)⟩, _, g1c.set_ 0 _, ?_, g3c.far (by show w.heap.size + 1 ≠ w.heap.size; omega) _, g4c.setCell (p := ⟨w.heap.size, 0, none⟩) (Nat.le_refl _) _⟩
    rw [List.length_append, List.length_singleton]
    exact HO9.out.kept (grownBy_setCell W3 ⟨w.heap.size, 0, none⟩ _) (.inr hvn)
  case done =>
    rintro D xs W hD ⟨q, hch, hq⟩ ⟨v, g1, g2, g3, g4⟩ hK
    have hDB : w.heap.size + 2 ≤ D := Nat.le_trans hVs hD.1
    have q0 : W.cell? ⟨w.heap.size, 0, none⟩ = some v := g1.cell 0
    gi_wp2
    refine ⟨by simp, .inl ⟨_, _, rfl, run_takeDeferred hK, ?_⟩⟩
    have g7 : Below w.heap.size w (W.putObj D (.deferred none)) := g4.trans ((Below.refl w.heap.size W).grown (grownBy_putObj' W D _) (by have := g4.size; omega) (fun k e => by cases e; omega))
    refine ⟨v, by simp [results, Tryz.results67, go_sem], v, xs, q, rfl, hch, hq, (g2.kept (grownBy_putObj' W D _) (.inr fun e => by have := own_lt g2 _ e; have := hD.2; omega)).mono (by omega), g7⟩
end Go.Proofs.YtfenjklilocjgaaGreatDoor
