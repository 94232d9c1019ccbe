/- Parts of the proof: Xx. No condition of its own. -/
import Derived.Test.YtfenjklilocjgaaGreatDoorXw
set_option linter.unusedSimpArgs false
set_option linter.unusedVariables false
set_option linter.unusedSectionVars false
namespace Go.Proofs.YtfenjklilocjgaaGreatDoor
set_option linter.unusedSimpArgs false
set_option linter.unusedVariables false
set_option linter.unusedSectionVars false
open Go.RowKit

/-- What Build has made. -/
structure BuiltR (ws : List ByteArray) (w : World) (p : Nat) (D : List ByteArray) (nv : Value) (w' : World) : Prop where
  lex : Lex D ws
  mem : LexIn w' p (D.map fun s => (s, cn ws s))
  num : w'.ownsRow w.heap.size 3 1 nv ws.length (ints (ws.map (idx D)))
  new : w.heap.size ≤ p
  below : Below w.heap.size w w'
theorem RdOut.weak9 {S S' : Nat → Prop} {w : World} {A : Option Addr} {xs : List Value} (h : RdOut S w A xs) (hs : ∀ k, S' k → S k) : RdOut S' w A xs := fun j u hu => let ⟨b, off, e, hn, hc⟩ := h j u hu; ⟨b, off, e, fun x => hn (hs _ x), hc⟩
def numsTo (ws : List ByteArray) (f : ByteArray → Nat) (i : Nat) : List Value := ints ((ws.take i).map f) ++ zeros (ws.length - i)
theorem numsTo_set (ws : List ByteArray) (f : ByteArray → Nat) (i : Nat) (hi : i < ws.length) : (numsTo ws f i).set i (.int .i64 (f ws[i] : Int)) = numsTo ws f (i + 1) := by
  obtain ⟨q, hq⟩ : ∃ q, ws.length - i = q + 1 := ⟨ws.length - i - 1, by omega⟩
  have h2 : ws.length - (i + 1) = q := by omega
  unfold numsTo
  have hl : (ints ((ws.take i).map f)).length = i := by unfold ints; rw [List.length_map, List.length_map, List.length_take]; omega
  rw [List.set_append_right _ _ (by omega), hl, Nat.sub_self, hq, h2]
  have e1 : (ws.take (i + 1)).map f = (ws.take i).map f ++ [f ws[i]] := by rw [List.take_add_one, List.getElem?_eq_getElem hi, List.map_append]; rfl
  have e2 : ints ((ws.take (i + 1)).map f) = ints ((ws.take i).map f) ++ [.int .i64 (f ws[i] : Int)] := by rw [e1]; simp [ints]
  rw [e2, List.append_assoc]
  rfl
theorem numsTo_len (ws : List ByteArray) (f : ByteArray → Nat) (i : Nat) (hi : i ≤ ws.length) : (numsTo ws f i).length = ws.length := by
  unfold numsTo ints
  rw [List.length_append, List.length_map, List.length_map, List.length_take, zeros_length]; omega
theorem own_row1 {w : World} {g base n : Nat} {t : TypeId} {cs : List Value} (h : Own w g t cs) (hb : base ≤ g) (hl : cs.length = n) (hn : n ≤ maxLen) : w.ownsRow base t 1 (.slice (some ⟨g, 0, none⟩) n n) n cs :=
  ⟨by omega, .inr ⟨g, n, cs.toArray, rfl, hb, h, Nat.le_refl _, hn, by simpa using hl, by simp [← hl]⟩⟩
theorem chg_below {B : Nat} {w w1 w2 : World} {S : Nat → Prop} (h : Below B w w1) (hB : B ≤ w.heap.size) (hc : Chg S w1 w2) (hs : ∀ k, S k → B ≤ k) : Below B w w2 :=
  h.trans (hc.below (fun k hk e => by have := hs k e; omega) (Nat.le_trans hB h.size))
theorem chg_none {w w' : World} {S : Nat → Prop} {k : Nat} (h : w.grownBy w' (some k)) (hk : S k) : Chg S w w' := chg_grown h fun j e => by injection e with e; exact e ▸ hk
theorem lexIn_of {w : World} {p : Nat} {ws D : List ByteArray} {A A2 : Option Addr} {c c2 : Nat} {rv : Value} (o : Own w p 49 [.slice A D.length c, .slice A2 D.length c2, rv]) (h1 : Rd w A (strs D)) (h2 : Rd w A2 (ints (D.map (cn ws)))) (l1 : D.length ≤ c) (l2 : c ≤ maxLen) (l3 : D.length ≤ c2) (l4 : c2 ≤ maxLen) : LexIn w p (D.map fun s => (s, cn ws s)) := by
  refine ⟨A, c, A2, c2, rv, by rw [List.length_map]; exact o, ?_, ?_, by rw [List.length_map]; exact l1, l2, by rw [List.length_map]; exact l3, l4⟩
  · have e : (D.map fun s => (s, cn ws s)).map (fun e => Value.string e.1) = strs D := by rw [List.map_map]; rfl
    rw [e]; exact h1
  · have e : (D.map fun s => (s, cn ws s)).map (fun e => Value.int .i64 (e.2 : Int)) = ints (D.map (cn ws)) := by unfold ints; rw [List.map_map, List.map_map]; rfl
    rw [e]; exact h2
set_option maxRecDepth 100000 in
set_option maxHeartbeats 8000000 in
theorem build_any (A : Option Addr) (c : Nat) (ws : List ByteArray) (hn : ws.length ≤ 1000) (hs : ∀ s ∈ ws, s.size ≤ 120 ∧ VU s) (w : World) (h : Rd w A (strs ws)) :
    Calls Tryz.prog 6 #[.slice A ws.length c] w fun e w' => ∃ (p : Nat) (D : List ByteArray) (nv : Value), e = .returned (.tuple #[.pointer (some ⟨p, 0, none⟩), nv, .int .i64 0]) ∧ BuiltR ws w p D nv w' := by
  have HR := Lib.hid h
  have HS := Lib.hid hs
  clear h hs
  obtain ⟨is, his, hs0, hs1, hs2⟩ := str_parts
  obtain ⟨ii, hii, hj0, hj1, hj2⟩ := int_parts
  have hmm := @run_makeMap Tryz.prog
  have HM0 : Hid (MapW (w.alloc (.map #[] 0)) w.heap.size 0 (ws.take 0)) := ⟨.map [], World.ownsMap_made w _ _ _, Cnt.start⟩
  have hbm : Below w.heap.size w (w.alloc (.map #[] 0)) := (Below.refl _ _).alloc (Nat.le_refl _) _
  have hsm : (w.alloc (.map #[] 0)).heap.size = w.heap.size + 1 := by simp
  have d1 : decide ((4096 : Int) < (ws.length : Int)) = false := decide_eq_false (by omega)
  have d1n : decide (4096 < ws.length) = false := decide_eq_false (by omega)
  go_enter Tryz.func6, Tryz.ntmps6
  go_wp2_with fail
  clear d1 d1n hmm
  generalize (w.alloc (.map #[] 0)) = wm at HM0 hbm hsm ⊢
  obtain ⟨B, hB⟩ : ∃ B, B = w.heap.size := ⟨_, rfl⟩
  rw [← hB] at HM0 hsm hbm ⊢
  have HB := Lib.hid hB
  clear hB
  go_loopg [21] (ws.length + 1) (fun q9 v9 wr => ∃ i : Nat, q9 = ws.length + 1 - i ∧ i ≤ ws.length ∧ v9 = .int .i64 (i : Int) ∧ Hid (MapW wr B i (ws.take i)) ∧ Below B w wr ∧ B + 1 ≤ wr.heap.size)
  case atStart => exact ⟨0, rfl, Nat.zero_le _, rfl, HM0, hbm, by omega⟩
  case round =>
    clear HM0 hbm hsm
    obtain ⟨i, rfl, hi, rfl, HM, hb, hwr⟩ := hrel
    have hbw : Below w.heap.size w wr := HB.out ▸ hb
    by_cases hlt : i < ws.length
    · obtain ⟨W0, hW0⟩ : ∃ W0, W0 = ws.take i := ⟨_, rfl⟩
      rw [← hW0] at HM
      obtain ⟨D, hown, hC⟩ := HM.out
      obtain ⟨hz, hvu⟩ := HS.out ws[i] (List.getElem_mem hlt)
      have hput : Hid (ws.take (i + 1) = W0 ++ [ws[i]]) := by
        show _ = _
        rw [List.take_add_one, List.getElem?_eq_getElem hlt, ← hW0]; rfl
      obtain ⟨bA, oA, hA, k0⟩ := (HR.out.below hbw) i (.string ws[i]) (by unfold strs; rw [List.getElem?_map, List.getElem?_eq_getElem hlt]; rfl)
      have hcl0 : ∀ s, cn W0 s ≤ i := fun s => Nat.le_trans (cn_le W0 s) (by rw [hW0, List.length_take]; omega)
      generalize ws[i] = s at hz hvu hput k0
      subst hA
      have hky := kyS_key (show s.size ≤ maxLen by unfold maxLen; omega)
      have hcl := hcl0 s
      have hv9 : ∀ c : Int, D.atKey (kyS s) (.lit (.int .i64 0)) = .lit (.int .i64 c) → c = ((cn W0 s : Nat) : Int) := fun c h => hC.val h
      have hC2 := hC.put s
      clear hW0 hC HM hcl0
      generalize cn W0 s = c0 at hcl hv9 hC2
      have hi9 : c0 ≤ 1000000 := by omega
      have hpl := plain_succ9 hi9
      have d2 : decide ((120 : Int) < (s.size : Int)) = false := decide_eq_false (by omega)
      have d2n : decide (120 < s.size) = false := decide_eq_false (by omega)
      clear hbw
      go_wp2_with fail
      refine (cpvalid_any s (by omega) wr).mono ?_
      rintro e w2 ⟨(⟨-, rfl⟩ | ⟨hv, rfl⟩), hb2⟩
      · have hown2 := hown.kept (w' := w2) (row := none) ⟨hb2.os, hb2.tape, hb2.output, hb2.size, fun k hk _ => hb2.block k hk⟩ (by simp)
        have hbB2 := hb.trans (hb2.mono (show B ≤ wr.heap.size by omega))
        have hw2 := hb2.size
        clear hown hb2 hb
        obtain ⟨c, hlk, hat, -⟩ := hown2.lookup_int keyS Tryz.underlying46 Tryz.underlying3 (zeroI _) hky
        obtain rfl := hv9 c hat
        obtain ⟨w3, hup, hown3, hgr3⟩ := hown2.update keyS Tryz.underlying46 (by unfold maxLen; omega) hky hpl
        have HM3 : Hid (MapW w3 B (i + 1) (ws.take (i + 1))) := hput.out ▸ ⟨_, hown3, hC2⟩
        have hb3 : Below B w w3 := chg_below hbB2 (by have := HB.out; omega) (chg_none (S := fun k => B ≤ k) hgr3 (Nat.le_refl _)) fun _ e => e
        have hw3 := hgr3.size
        clear hown3 hC2 hgr3 hown2 hat hv9 hput hpl d2 d2n
        go_wp2
        clear hlk hup hky k0
        go_roundg (ws.length + 1 - (i + 1))
        case measure => omega
        case rel => exact ⟨i + 1, rfl, by omega, by go_num, HM3, hb3, by omega⟩
      · exact absurd hvu hv
    · have ei : i = ws.length := by omega
      subst ei
      rw [List.take_length] at HM
      obtain ⟨DD, hown, hC⟩ := HM.out
      have HC2 := Lib.hid hC
      have hroom := ranges_room hown
      have hln := fun ty => hown.len Tryz.underlying46 ty
      have d3 : decide ((1024 : Int) < ((Maps.size DD : Nat) : Int)) = false := decide_eq_false (by omega)
      have d3n : decide (1024 < Maps.size DD) = false := decide_eq_false (by omega)
      obtain ⟨o_p, hbp⟩ := new1 wr [.slice none 0 0, .slice none 0 0, .slice none 0 0] 49
      have hown2 := hown.kept (w' := wr.alloc (.cells #[.slice none 0 0, .slice none 0 0, .slice none 0 0] 49)) (row := none) (World.grownBy_alloc _ _ _) (by simp)
      have HMp := Lib.hid (HM.out.below hbp)
      have hbB := chg_below hb (by have := HB.out; omega) (Chg.grow9 (S := fun k => B ≤ k) hbp) fun _ e => e
      have hsp := size1 wr (.cells #[.slice none 0 0, .slice none 0 0, .slice none 0 0] 49)
      go_upto_region 16 with (fail)
      clear d3 d3n hln hown hC hbp hbw hb HM
      generalize (wr.alloc (.cells #[.slice none 0 0, .slice none 0 0, .slice none 0 0] 49)) = wp at o_p hown2 HMp hbB hsp ⊢
      obtain ⟨p, hp⟩ : ∃ p, p = wr.heap.size := ⟨_, rfl⟩
      rw [← hp] at o_p hwr hsp ⊢
      clear hp
      obtain ⟨w4, hrun, hrg, hgr, hs4⟩ := hown2.range keyS Tryz.underlying46
      have hge : Below wp.heap.size wp w4 := grown_below9 hgr (Nat.le_refl _) (fun k h => nomatch h)
      have HM4 := Lib.hid (HMp.out.below hge)
      have HP4 := Lib.hid (o_p.below hge o_p.lt)
      have HB4 := Lib.hid (chg_below hbB (by have := HB.out; omega) (Chg.grow9 (S := fun k => B ≤ k) hge) fun _ e => e)
      clear hown2 HMp o_p hbB hgr hge
      go_wp2_with fail
      clear hrun
      rw [hsp] at hrg hs4
      obtain ⟨R, hR⟩ : ∃ R, R = p + 1 := ⟨_, rfl⟩
      rw [← hR]
      rw [← hR] at hrg hs4
      have HRR := Lib.hid hR
      clear hsp hR
      go_loopg [9] (Maps.size DD + 1) (fun q9 v9 wr => ∃ (left : Lit → Bool) (cnt : Nat) (ss : List ByteArray) (v : Value), q9 = cnt + 1 ∧ ss.length + cnt ≤ Maps.size DD ∧ Hid (wr.ranges Tryz.prog 9 (plainElem Tryz.prog 3) B R ws.length DD left cnt) ∧ Hid (Come DD left ss) ∧ Hid (Own wr p 49 [v, .slice none 0 0, .slice none 0 0]) ∧ Hid (wr.ownsRow (R + 1) 9 1 v ss.length (strs ss)) ∧ Hid (MapW wr B ws.length ws) ∧ Hid (Below B w wr) ∧ R + 1 ≤ wr.heap.size)
      case atStart => exact ⟨_, _, [], _, rfl, by simp, hrg, Come.start DD, HP4, World.ownsRow_nil _ _ _ _, HM4, HB4, by omega⟩
      case round =>
        clear hrg HP4 HM4 HB4 hs4
        obtain ⟨left, cnt, ss, v, rfl, hcnt, HRG, HCM, HP, HO, HM, HBL, hwr9⟩ := hrel
        rcases next_words HRG.out HC2.out 0 with ⟨h0, hl, hrun⟩ | ⟨sw, w5, cnt', hsw, hlk, hatk, hrun, hrg5, hlt5, hgr5, hs5, hen⟩
        · have HMEM : Hid (∀ s, s ∈ ss ↔ s ∈ ws) := HCM.out.all hl HC2.out
          have HND := Lib.hid HCM.out.1
          have n0 : wr.cell? ⟨p, 0, none⟩ = some v := HP.out.cell 0
          clear hl h0
          go_wp2_with fail
          clear hrun n0
          refine (sort_strs (R + 1) v ss HND.out (by omega) wr HO.out).mono ?_
          rintro e w6 ⟨rfl, ⟨D, hS, hm, hDl, ho6⟩, hc6⟩
          have HLX : Hid (Lex D ws) := ⟨hS, fun s => (hm s).trans (HMEM.out s)⟩
          have hDn : D.length ≤ 1000 := Nat.le_trans HLX.out.len hn
          have HP6 := Lib.hid (hc6.own HP.out (show ¬ R + 1 ≤ p by have := HRR.out; omega))
          have HM6 := Lib.hid (HM.out.chg hc6 (show ¬ R + 1 ≤ B by have := HRR.out; omega))
          have HB6 := Lib.hid (chg_below HBL.out (by have := HB.out; omega) hc6 fun k e => by have := HRR.out; omega)
          have hw6 := hc6.size
          clear hS hm hDl hc6 HRG HCM HP HO HM HBL HMEM HND hcnt
          obtain ⟨B7, hB7⟩ : ∃ B7, B7 = w6.heap.size := ⟨_, rfl⟩
          obtain ⟨Av, cv, rfl, l6, u6, hrw⟩ := own_out ho6 (S := fun k => k = p ∨ B7 ≤ k) (fun k hk e => by
            have h1 := ho6.lt k hk
            have := HRR.out
            rcases e with e | e
            · omega
            · omega)
          have HRW := Lib.hid hrw
          have hp7 : p < B7 := by rw [hB7]; exact HP6.out.lt
          have n0 : w6.cell? ⟨p, 0, none⟩ = some (.slice Av D.length cv) := HP6.out.cell 0
          have HB7 := Lib.hid hB7
          clear ho6 hrw hB7
          go_wp2_with fail
          clear n0
          go_loopg [69] (D.length + 1) (fun q9 v9 wr => ∃ (i : Nat) (v1 : Value), q9 = D.length + 1 - i ∧ i ≤ D.length ∧ v9 = .int .i64 (i : Int) ∧ Hid (Own wr p 49 [.slice Av D.length cv, v1, .slice none 0 0]) ∧ Hid (wr.ownsRow B7 3 1 v1 i (ints ((D.take i).map (cn ws)))) ∧ Hid (Chg (fun k => k = p ∨ B7 ≤ k) w6 wr) ∧ B7 ≤ wr.heap.size)
          case atStart => exact ⟨0, _, rfl, Nat.zero_le _, rfl, HP6, World.ownsRow_nil _ _ _ _, Chg.refl _ _, by have := HB7.out; omega⟩
          case round =>
            clear HP6
            obtain ⟨i, v1, rfl, hi, rfl, HP, HO, HC7, hw7⟩ := hrel
            by_cases hlt : i < D.length
            · have hmem : D[i] ∈ ws := (HLX.out.mem _).1 (List.getElem_mem hlt)
              have hz := (HS.out _ hmem).1
              have HX2 : Hid (ints ((D.take (i + 1)).map (cn ws)) = ints ((D.take i).map (cn ws)) ++ [.int .i64 ((cn ws D[i] : Nat) : Int)]) := by
                show _ = _
                rw [List.take_add_one, List.getElem?_eq_getElem hlt, List.map_append]; simp [ints]
              obtain ⟨bA, oA, hA, k0⟩ := (HRW.out.chg HC7.out).rd i (.string D[i]) (by unfold strs; rw [List.getElem?_map, List.getElem?_eq_getElem hlt]; rfl)
              have HMr := Lib.hid (HM6.out.chg HC7.out (show ¬ (B = p ∨ B7 ≤ B) by omega))
              generalize D[i] = s at hmem hz HX2 k0
              subst hA
              obtain ⟨m, hm⟩ : ∃ m, m = cn ws s := ⟨_, rfl⟩
              rw [← hm] at HX2
              have HMM := Lib.hid hm
              obtain ⟨xs, hxs⟩ : ∃ xs, xs = ints ((D.take i).map (cn ws)) := ⟨_, rfl⟩
              rw [← hxs] at HX2 HO
              clear hmem hm hxs
              go_upto_region 24 with (fail)
              refine wp_reg_m (fun a b => Chg (fun k => k = p ∨ B7 ≤ k) a b) (fun L u w8 => AL B7 3 49 p [.slice (some ⟨bA, oA, none⟩) D.length cv, v1, .slice none 0 0] 1 i xs v1 (.int .i64 (m : Int)) (L 8) (L 9) (L 12) (u 8) (u 9) w8 ∧ (L 9 = true → L 4 = true)) ((fun a => Chg.refl _ a)) ((fun _ _ _ h h' => h.trans h')) [some 73, some 74, some 75, some 76, some 77, some 78, some 79, some 80, some 81, some 82, some 83, some 84, none] [isV ?v1_0, isV ?v1_1, isV ?v1_2, isV ?v1_3, isV (v1), isV ?v1_5, isV ?v1_6, isV (.int .i64 (m : Int)), (fun _ _ => True), (fun _ _ => True), isV ?v1_10, isV ?v1_11, anyV] rfl (by kernel_rfl) rfl rfl ?n1 ?k1 ⟨?s1_0, ?s1_1, ?s1_2, ?s1_3, ?s1_4, ?s1_5, ?s1_6, ?s1_7, ?s1_8, ?s1_9, ?s1_10, ?s1_11, ?s1_12, trivial⟩ ?p1
              case s1_0 =>
                intro L9 u9 t9 w9 hT9 hL9 hD9 hV9 hO9 hM9 K9 hK9
                have o9_8 := hO9 8 _ (show List.contains _ _ = false from by kernel_rfl) rfl
                clear hV9 hO9
                clear hL9 hD9
                go_simp
                (refine hK9 _ _ ((fun a => Chg.refl _ a) w9) ?_ hM9; exact rfl)
              case s1_1 =>
                intro L9 u9 t9 w9 hT9 hL9 hD9 hV9 hO9 hM9 K9 hK9
                have o9_8 := hO9 8 _ (show List.contains _ _ = false from by kernel_rfl) rfl
                clear hV9 hO9
                clear hL9 hD9
                go_simp
                (refine hK9 _ _ ((fun a => Chg.refl _ a) w9) ?_ hM9; exact rfl)
              case s1_2 =>
                intro L9 u9 t9 w9 hT9 hL9 hD9 hV9 hO9 hM9 K9 hK9
                obtain ⟨x9_1, p9_1, q9_1⟩ := hV9 1 74 rfl rfl (of_decide_eq_true (by kernel_rfl))
                obtain ⟨q9_1, e9_1⟩ := q9_1
                obtain rfl : x9_1 = ?v1_1 := q9_1
                clear e9_1
                clear hV9 hO9
                clear hL9 hD9
                go_simp
                (refine hK9 _ _ ((fun a => Chg.refl _ a) w9) ?_ hM9; exact rfl)
              case s1_3 =>
                intro L9 u9 t9 w9 hT9 hL9 hD9 hV9 hO9 hM9 K9 hK9
                obtain ⟨x9_2, p9_2, q9_2⟩ := hV9 2 75 rfl rfl (of_decide_eq_true (by kernel_rfl))
                obtain ⟨q9_2, e9_2⟩ := q9_2
                obtain rfl : x9_2 = ?v1_2 := q9_2
                clear e9_2
                clear hV9 hO9
                clear hL9 hD9
                go_simp
                (refine hK9 _ _ ((fun a => Chg.refl _ a) w9) ?_ hM9; exact rfl)
              case s1_4 =>
                intro L9 u9 t9 w9 hT9 hL9 hD9 hV9 hO9 hM9 K9 hK9
                obtain ⟨x9_3, p9_3, q9_3⟩ := hV9 3 76 rfl rfl (of_decide_eq_true (by kernel_rfl))
                obtain ⟨q9_3, e9_3⟩ := q9_3
                obtain rfl : x9_3 = ?v1_3 := q9_3
                clear e9_3
                clear hV9 hO9
                have l9 : L9 9 = false := by cases h : L9 9 with | false => rfl | true => (have := hM9.2 h; rw [hL9] at this; cases this)
                have l12 : L9 12 = false := by cases h : L9 12 with | false => rfl | true => (have := hM9.1.h129 h; rw [l9] at this; cases this)
                have d0 : w9.cell? ⟨p, 1, none⟩ = some v1 := (hM9.1.c0 l12).cell 1
                go_simp
                exact hK9 _ _ (Chg.refl _ w9) rfl ⟨hM9.1, fun _ => rfl⟩
              case s1_5 =>
                intro L9 u9 t9 w9 hT9 hL9 hD9 hV9 hO9 hM9 K9 hK9
                have o9_5 := hO9 5 _ (show List.contains _ _ = false from by kernel_rfl) rfl
                clear hV9 hO9
                clear hL9 hD9
                go_simp
                (refine hK9 _ _ ((fun a => Chg.refl _ a) w9) ?_ hM9; exact rfl)
              case s1_6 =>
                intro L9 u9 t9 w9 hT9 hL9 hD9 hV9 hO9 hM9 K9 hK9
                have o9_11 := hO9 11 _ (show List.contains _ _ = false from by kernel_rfl) rfl
                clear hV9 hO9
                clear hL9 hD9
                go_simp
                (refine hK9 _ _ ((fun a => Chg.refl _ a) w9) ?_ hM9; exact rfl)
              case s1_7 =>
                intro L9 u9 t9 w9 hT9 hL9 hD9 hV9 hO9 hM9 K9 hK9
                obtain ⟨x9_5, p9_5, q9_5⟩ := hV9 5 78 rfl rfl (of_decide_eq_true (by kernel_rfl))
                obtain ⟨q9_5, e9_5⟩ := q9_5
                obtain rfl : x9_5 = ?v1_5 := q9_5
                clear e9_5
                obtain ⟨x9_6, p9_6, q9_6⟩ := hV9 6 79 rfl rfl (of_decide_eq_true (by kernel_rfl))
                obtain ⟨q9_6, e9_6⟩ := q9_6
                obtain rfl : x9_6 = ?v1_6 := q9_6
                clear e9_6
                clear hV9 hO9
                have hlk7 := (MapW.chg (show MapW (World.drew wr) B ws.length ws from HMr.out) hT9 (show ¬ (B = p ∨ B7 ≤ B) by omega)).look (s := s) (by unfold maxLen; omega)
                rw [← HMM.out] at hlk7
                go_simp
                exact hK9 _ _ (Chg.refl _ w9) rfl hM9
              case s1_8 =>
                intro L9 u9 t9 w9 hT9 hL9 hD9 hV9 hO9 hM9 K9 hK9
                obtain ⟨x9_7, p9_7, q9_7⟩ := hV9 7 80 rfl rfl (of_decide_eq_true (by kernel_rfl))
                obtain ⟨q9_7, e9_7⟩ := q9_7
                obtain rfl : x9_7 = (.int .i64 (m : Int)) := q9_7
                clear e9_7
                clear hV9 hO9
                go_simp
                exact hK9 _ _ ((Chg.refl _ w9).alloc _) trivial ⟨hM9.1.a8 hL9, hM9.2⟩
              case s1_9 =>
                intro L9 u9 t9 w9 hT9 hL9 hD9 hV9 hO9 hM9 K9 hK9
                obtain ⟨x9_4, p9_4, q9_4⟩ := hV9 4 77 rfl rfl (of_decide_eq_true (by kernel_rfl))
                obtain ⟨q9_4, e9_4⟩ := q9_4
                obtain rfl : x9_4 = (v1) := q9_4
                clear e9_4
                obtain ⟨x9_8, p9_8, q9_8⟩ := hV9 8 81 rfl rfl (of_decide_eq_true (by kernel_rfl))
                obtain ⟨q9_8, e9_8⟩ := q9_8
                replace q9_8 : ((fun _ _ => True)) x9_8 w9 := q9_8
                clear hV9 hO9
                obtain ⟨g, hg, hog⟩ := hM9.1.r8 (hD9 8 rfl) hL9
                have hrow := hM9.1.r0 hL9
                obtain ⟨v9, w9', hr9, ho9, hg9, -⟩ := run_append_src8 (P := Tryz.prog) w9 B7 27 27 3 ii _ 1 8 Tryz.underlying27 hii hj0 hj1 hj2 rfl (by decide) _ i xs hrow (some ⟨g, 0, none⟩) 1 1 [.int .i64 (m : Int)] rfl hog.rd0 (by simp [Value.oneCell']) (by unfold maxLen; omega) (by omega) hM9.1.hB
                rw [if_pos (wanted_p rfl)]
                exact wp_append_eq8 (.tmp 77) (.tmp 81) 27 rfl _ (.slice (some ⟨g, 0, none⟩) 1 1) v9 (ev_tmp p9_4) (ev_tmp (p9_8.trans (by rw [e9_8, hg]))) hr9 (hK9 _ _ (chg_grown hg9 fun k e => .inr (own_lt hrow k e)) trivial ⟨hM9.1.a9 (hD9 8 rfl) hL9 ho9 hg9, fun _ => hD9 4 rfl⟩)
              case s1_10 =>
                intro L9 u9 t9 w9 hT9 hL9 hD9 hV9 hO9 hM9 K9 hK9
                obtain ⟨x9_0, p9_0, q9_0⟩ := hV9 0 73 rfl rfl (of_decide_eq_true (by kernel_rfl))
                obtain ⟨q9_0, e9_0⟩ := q9_0
                obtain rfl : x9_0 = ?v1_0 := q9_0
                clear e9_0
                clear hV9 hO9
                clear hL9 hD9
                go_simp
                (refine hK9 _ _ ((fun a => Chg.refl _ a) w9) ?_ hM9; exact rfl)
              case s1_11 =>
                intro L9 u9 t9 w9 hT9 hL9 hD9 hV9 hO9 hM9 K9 hK9
                obtain ⟨x9_10, p9_10, q9_10⟩ := hV9 10 83 rfl rfl (of_decide_eq_true (by kernel_rfl))
                obtain ⟨q9_10, e9_10⟩ := q9_10
                obtain rfl : x9_10 = ?v1_10 := q9_10
                clear e9_10
                clear hV9 hO9
                clear hL9 hD9
                go_simp
                (refine hK9 _ _ ((fun a => Chg.refl _ a) w9) ?_ hM9; exact rfl)
              case s1_12 =>
                intro L9 u9 t9 w9 hT9 hL9 hD9 hV9 hO9 hM9 K9 hK9
                obtain ⟨x9_9, p9_9, q9_9⟩ := hV9 9 82 rfl rfl (of_decide_eq_true (by kernel_rfl))
                obtain ⟨q9_9, e9_9⟩ := q9_9
                replace q9_9 : ((fun _ _ => True)) x9_9 w9 := q9_9
                obtain ⟨x9_11, p9_11, q9_11⟩ := hV9 11 84 rfl rfl (of_decide_eq_true (by kernel_rfl))
                obtain ⟨q9_11, e9_11⟩ := q9_11
                obtain rfl : x9_11 = ?v1_11 := q9_11
                clear e9_11
                clear hV9 hO9
                have l9 := hD9 9 rfl
                have hc := hM9.1.c0 hL9
                have HE := hM9.1.s12 l9 hL9
                obtain ⟨A', c', hv, -, -⟩ := own_form (hM9.1.r9 l9)
                have d0 : w9.cell? ⟨p, 1, none⟩ = some v1 := hc.cell 1
                have f0 := hc.frozen 1
                have HE2 : Hid (AL B7 3 49 p [.slice (some ⟨bA, oA, none⟩) D.length cv, v1, .slice none 0 0] 1 i xs v1 (.int .i64 (m : Int)) (L9 8) (L9 9) true (u9 8) (u9 9) (w9.setCell ⟨p, 1, none⟩ (.slice A' (i + 1) c'))) := by
                  have e : w9.setCell ⟨p, 1, none⟩ (.slice A' (i + 1) c') = w9.setCell ⟨p, 1, none⟩ (u9 9) := by rw [hv]
                  show AL _ _ _ _ _ _ _ _ _ _ _ _ _ _ _ _
                  rw [e]; exact HE
                have hcz : Chg (fun k => k = p ∨ B7 ≤ k) w9 (w9.setCell ⟨p, 1, none⟩ (.slice A' (i + 1) c')) := Chg.setCell (S := fun k => k = p ∨ B7 ≤ k) (Chg.refl _ w9) (p := ⟨p, 1, none⟩) (.inl rfl) _
                have h94 := hM9.2
                rw [e9_9, hv] at p9_9
                clear HE hc hM9 hv e9_9
                go_simp
                exact hK9 undef _ hcz trivial ⟨HE2.out, h94⟩
              case n1 =>
                intro L9 u9 h9
                have h1 := h9 8 (by decide)
                have h2 := h9 9 (by decide)
                have h3 := h9 12 (by decide)
                refine ⟨?_, fun e => by rw [h2] at e; cases e⟩
                rw [h1, h2, h3]
                exact AL.start (w := World.drew wr) HO.out HP.out hw7 hp7 _ _
              case k1 =>
                intro i9 v9 w9 x9 h9 g9
                match i9, h9 with
                | 0, h9 => exact h9
                | 1, h9 => exact h9
                | 2, h9 => exact h9
                | 3, h9 => exact h9
                | 4, h9 => exact h9
                | 5, h9 => exact h9
                | 6, h9 => exact h9
                | 7, h9 => exact h9
                | 8, h9 => (replace h9 : (fun _ _ => True) v9 w9 := h9); exact trivial
                | 9, h9 => (replace h9 : (fun _ _ => True) v9 w9 := h9); exact trivial
                | 10, h9 => exact h9
                | 11, h9 => exact h9
                | 12, h9 => exact h9
                | _ + 13, h9 => exact trivial
              intro u9 w9 hE9 hM9 hu9
              have r9_0 : u9 0 = ?v1_0 := hu9 0 (by decide)
              have r9_1 : u9 1 = ?v1_1 := hu9 1 (by decide)
              have r9_2 : u9 2 = ?v1_2 := hu9 2 (by decide)
              have r9_3 : u9 3 = ?v1_3 := hu9 3 (by decide)
              have r9_4 : u9 4 = (v1) := hu9 4 (by decide)
              have r9_5 : u9 5 = ?v1_5 := hu9 5 (by decide)
              have r9_6 : u9 6 = ?v1_6 := hu9 6 (by decide)
              have r9_7 : u9 7 = (.int .i64 (m : Int)) := hu9 7 (by decide)
              have r9_8 : (fun _ _ => True) (u9 8) w9 := hu9 8 (by decide)
              have r9_9 : (fun _ _ => True) (u9 9) w9 := hu9 9 (by decide)
              have r9_10 : u9 10 = ?v1_10 := hu9 10 (by decide)
              have r9_11 : u9 11 = ?v1_11 := hu9 11 (by decide)
              clear hu9
              simp only [putAll, Act.put, List.setIfInBounds_toArray, List.set_cons_succ, List.set_cons_zero, List.getD_cons_succ, List.getD_cons_zero, Nat.reduceAdd, Nat.zero_add]
              simp only [r9_0, r9_1, r9_2, r9_3, r9_4, r9_5, r9_6, r9_7, r9_10, r9_11]
              clear r9_0 r9_1 r9_2 r9_3 r9_4 r9_5 r9_6 r9_7 r9_10 r9_11
              have HC9 := Lib.hid (HC7.out.trans (show Chg (fun k => k = p ∨ B7 ≤ k) wr w9 from ⟨hE9.os, hE9.tape, hE9.output, hE9.size, hE9.block⟩))
              have HO9 := Lib.hid (hM9.1.r9 rfl)
              have HP9 : Hid (Own w9 p 49 [.slice (some ⟨bA, oA, none⟩) D.length cv, u9 9, .slice none 0 0]) := hM9.1.c1 rfl
              have hw9 : B7 ≤ w9.heap.size := hM9.1.hB
              rw [← HX2.out] at HO9
              generalize u9 9 = z9 at HO9 HP9 ⊢
              clear hM9 hE9 k0 HMr HP HO HC7 HX2
              go_wp2
              go_roundg (D.length + 1 - (i + 1))
              case measure => omega
              case rel => exact ⟨i + 1, z9, rfl, by omega, by go_num, HP9, HO9, HC9, hw9⟩
            · have ei : i = D.length := by omega
              subst ei
              rw [List.take_length] at HO
              obtain ⟨A1, c1, rfl, l7, u7⟩ := own_form HO.out
              have HRc := Lib.hid (HRW.out.chg HC7.out)
              have hDs : Hid (∀ s ∈ D, s.size ≤ 1000) := fun s hs => Nat.le_trans (HS.out s ((HLX.out.mem s).1 hs)).1 (by decide)
              go_wp2_with fail
              refine (finish_any p D Av A1 cv D.length c1 hDn hDs.out wr HP.out HRc.out.rd).mono ?_
              rintro e w8 ⟨rfl, ⟨rv, o_p8⟩, hc8⟩
              have HL8 : Hid (LexIn w8 p (D.map fun s => (s, cn ws s))) := lexIn_of o_p8 ((HRc.out.weak9 fun k e => .inl e).chg hc8).rd (Rd.of_own (ownsRow_o HO.out hc8 fun k hk e => by omega)) l6 u6 l7 u7
              have HB8 := Lib.hid (chg_below (chg_below HB6.out (by have := HB.out; omega) HC7.out fun k e => by have := HB7.out; have := HRR.out; omega) (by have := HB.out; omega) hc8 fun k e => by have := HRR.out; omega)
              have hw8 := hc8.size
              clear o_p8 hc8 HRc HP HO HC7 HM6 HB6 hDs
              have hmk := run_make_ints (P := Tryz.prog) Tryz.underlying27 (show (Tryz.prog.info? 3).map (fun i => (i.zero, i.size, i.bytes)) = some (some (.int .i64 0), 1, 8) by kernel_rfl) ws.length (by omega) w8
              obtain ⟨o_n, hbn⟩ := new1 w8 (zeros ws.length) 3
              go_wp2_with fail
              clear hmk
              generalize (w8.alloc (.cells (zeros ws.length).toArray 3)) = wn at o_n hbn ⊢
              obtain ⟨G, hG⟩ : ∃ G, G = w8.heap.size := ⟨_, rfl⟩
              rw [← hG] at o_n hbn hw8 ⊢
              have HG := Lib.hid hG
              clear hG
              have HN : Hid (Own wn G 3 (numsTo ws (idx D) 0)) := o_n
              clear o_n
              go_loopg [93] (ws.length + 1) (fun q9 v9 wr => ∃ i : Nat, q9 = ws.length + 1 - i ∧ i ≤ ws.length ∧ v9 = .int .i64 (i : Int) ∧ Hid (Own wr G 3 (numsTo ws (idx D) i)) ∧ Below G w8 wr)
              case atStart => exact ⟨0, rfl, Nat.zero_le _, rfl, HN, hbn⟩
              case round =>
                clear HN hbn
                obtain ⟨i, rfl, hi, rfl, HN, hb9⟩ := hrel
                have hb8 : Below w8.heap.size w8 wr := HG.out ▸ hb9
                have hbB9 := HB8.out.trans (hb9.mono (by omega))
                have hL9 := HL8.out.below hb8
                by_cases hlt : i < ws.length
                · have hat := (HLX.out.at_ (List.getElem_mem hlt)).2
                  have HX2 := Lib.hid (numsTo_set ws (idx D) i hlt)
                  have nc : wr.cell? ⟨G, i, none⟩ = some ((numsTo ws (idx D) i)[i]'(by rw [numsTo_len ws (idx D) i hi]; exact hlt)) := by rw [HN.out.cell]; exact List.getElem?_eq_getElem _
                  obtain ⟨bA, oA, hA, k0⟩ := (HR.out.below (HB.out ▸ hbB9)) i (.string ws[i]) (by unfold strs; rw [List.getElem?_map, List.getElem?_eq_getElem hlt]; rfl)
                  have hnum := number_any p (D.map fun s => (s, cn ws s)) D (by rw [List.map_map]; exact List.map_id' D) HLX.out.srt hDn ws[i] hat wr hL9
                  have HNUM := Lib.hid hnum
                  generalize ws[i] = s at hat HX2 k0 HNUM
                  subst hA
                  obtain ⟨m, hm⟩ : ∃ m, m = idx D s := ⟨_, rfl⟩
                  rw [← hm] at HX2 HNUM
                  clear hnum hat hm hL9 hb8
                  go_wp2_with fail
                  refine HNUM.out.mono ?_
                  rintro e wz ⟨rfl, hbz⟩
                  have HNz := Lib.hid (HN.out.below hbz HN.out.lt)
                  have nz : wz.cell? ⟨G, i, none⟩ = _ := (hbz.cell (World.block_lt_of_cell? wr _ nc)).trans nc
                  have fz := HNz.out.frozen i
                  have hb9z := hb9.trans (hbz.mono (by have := hb9.size; have := HG.out; omega))
                  have HNs : Hid (Own (wz.setCell ⟨G, i, none⟩ (.int .i64 (m : Int))) G 3 (numsTo ws (idx D) (i + 1))) := by
                    show Own _ _ _ _
                    rw [← HX2.out]; exact HNz.out.set_ i _
                  have hb9s := hb9z.setCell (p := ⟨G, i, none⟩) (Nat.le_refl _) (.int .i64 (m : Int))
                  generalize (numsTo ws (idx D) i)[i]'_ = old at nz
                  clear nc HNUM HN HNz hbz hb9 hbB9 HX2 hb9z
                  go_wp2
                  clear k0 nz fz
                  go_roundg (ws.length + 1 - (i + 1))
                  case measure => omega
                  case rel => exact ⟨i + 1, rfl, by omega, by go_num, HNs, hb9s⟩
                · have ei : i = ws.length := by omega
                  have HNe : Hid (Own wr G 3 (ints (ws.map (idx D)))) := by
                    have e : numsTo ws (idx D) i = ints (ws.map (idx D)) := by unfold numsTo; rw [ei, List.take_length, Nat.sub_self]; show _ ++ [] = _; rw [List.append_nil]
                    show Own _ _ _ _
                    rw [← e]; exact HN.out
                  go_wp2
                  go_ret3
                  refine ⟨p, D, _, rfl, HLX.out, hL9, own_row1 HNe.out (by have := HB.out; omega) (by simp [ints]) (by unfold maxLen; omega), by have := HB.out; omega, HB.out ▸ hbB9⟩
        · have hcz1 : Chg (fun k => k = R) wr w5 := chg_none hgr5 rfl
          have HP5 := Lib.hid (hcz1.own HP.out (show ¬ p = R by have := HRR.out; omega))
          have HO5 := Lib.hid (ownsRow_o HO.out hcz1 (fun k hk e => by omega))
          have HCM5 := Lib.hid (HCM.out.step hlk hatk)
          have n0 : w5.cell? ⟨p, 0, none⟩ = some v := HP5.out.cell 0
          have HRG5 := Lib.hid hrg5
          have hw5 : R + 1 ≤ w5.heap.size := by omega
          clear hrg5 hgr5 HRG HCM HP HO hlk hatk hs5
          go_wp2_with (at_builtin; refine wpList_append_own_at _ rfl (.tmp 53) (.tmp 55) 28 rfl (R + 1) 9 is _ 1 16 Tryz.underlying28 his hs0 hs1 hs2 rfl (by decide) _ ss.length (strs ss) rfl (HO5.out.alloc _) ⟨w5.heap.size, 0, none⟩ 1 1 [.string sw] rfl rfl (cells_u8 _ _ _) (by simp [Value.oneCell']) (by unfold maxLen; omega) (by omega) (by rw [size1]; omega) ?_)
          intro v' w' hown' hgrow _ _
          have hca : Chg (fun k => R + 1 ≤ k) w5 w' := ((Chg.refl _ w5).alloc _).trans (chg_grown hgrow fun k e => own_lt HO5.out k e)
          have o_pa := hca.own HP5.out (show ¬ R + 1 ≤ p by have := HRR.out; omega)
          have hrga := (HRG5.out.alloc (.cells #[.string sw] 9)).kept hgrow (fun e => by have := own_lt HO5.out _ e.symm; have := HRR.out; omega) (fun e => by have := own_lt HO5.out _ e.symm; omega)
          obtain ⟨A', c', rfl, -, -⟩ := own_form hown'
          have n3 : w'.cell? ⟨p, 0, none⟩ = some v := o_pa.cell 0
          have f3 := o_pa.frozen 0
          have hnb : (Value.slice A' (ss.length + 1) c').ownBlock ≠ some p := fun e => by have := own_lt hown' _ e; have := HRR.out; omega
          have HPb := Lib.hid (o_pa.set_ 0 (.slice A' (ss.length + 1) c'))
          have HOb : Hid ((w'.setCell ⟨p, 0, none⟩ (.slice A' (ss.length + 1) c')).ownsRow (R + 1) 9 1 (.slice A' (ss.length + 1) c') (ss ++ [sw]).length (strs (ss ++ [sw]))) := by
            have e : strs (ss ++ [sw]) = strs ss ++ [.string sw] := by simp [strs]
            show World.ownsRow _ _ _ _ _ _ _
            rw [e, List.length_append, List.length_singleton]
            exact hown'.kept (grownBy_setCell w' ⟨p, 0, none⟩ _) (.inr hnb)
          have hrgb := Lib.hid (hrga.kept (grownBy_setCell w' ⟨p, 0, none⟩ (.slice A' (ss.length + 1) c')) (by show some B ≠ some p; intro e; injection e with e; omega) (by show some R ≠ some p; intro e; injection e with e; have := HRR.out; omega))
          have hcz : Chg (fun k => k = p ∨ R ≤ k) wr (w'.setCell ⟨p, 0, none⟩ (.slice A' (ss.length + 1) c')) := Chg.setCell (S := fun k => k = p ∨ R ≤ k) ((hcz1.mono (fun k _ e => .inr (by omega))).trans (hca.mono fun k _ e => .inr (by omega))) (p := ⟨p, 0, none⟩) (.inl rfl) _
          have HMb := Lib.hid (HM.out.chg hcz (show ¬ (B = p ∨ R ≤ B) by have := HRR.out; omega))
          have HBb := Lib.hid (chg_below HBL.out (by have := HB.out; omega) hcz fun k e => by have := HRR.out; omega)
          have hwb : R + 1 ≤ (w'.setCell ⟨p, 0, none⟩ (.slice A' (ss.length + 1) c')).heap.size := by have := hcz.size; omega
          have hcb : (ss ++ [sw]).length + cnt' ≤ Maps.size DD := by rw [List.length_append, List.length_singleton]; omega
          clear hgrow hown' hca hrga o_pa hcz hcz1 HO5 HP5 HRG5 HM HBL hnb hsw hcnt hw5
          go_wp2_with fail
          clear hen hrun n0 n3 f3
          go_roundg (cnt' + 1)
          case measure => omega
          case rel => exact ⟨_, cnt', ss ++ [sw], _, rfl, hcb, hrgb, HCM5, HPb, HOb, HMb, HBb, hwb⟩
end Go.Proofs.YtfenjklilocjgaaGreatDoor
