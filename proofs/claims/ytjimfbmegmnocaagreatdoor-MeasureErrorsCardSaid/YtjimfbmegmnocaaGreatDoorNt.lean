/- Parts of the proof: Nt. No condition of its own. -/
import Derived.Test.YtjimfbmegmnocaaGreatDoorNp
import Derived.Laws.IdiomStrings
set_option linter.unusedSimpArgs false
set_option linter.unusedVariables false
set_option maxRecDepth 100000
set_option maxHeartbeats 4000000
namespace Go.Proofs.YtjimfbmegmnocaaGreatDoor
open Go.RowKit Dg

abbrev cdig (l : List Nat) : List Value := l.map fun (d : Nat) => Value.int .u8 ((48 + d : Nat) : Int)
theorem str_step {n q k R : Nat} {T : List Nat} (hk : k < 9) (h : dg 10 n = T ++ dg 10 (q * 10 ^ (9 - k) + R)) (hpos : 0 < q \/ 0 < R) (hR : R < 10 ^ (9 - k)) :
  dg 10 n = (T ++ [R % 10]) ++ dg 10 (q * 10 ^ (9 - (k + 1)) + R / 10) /\ R / 10 < 10 ^ (9 - (k + 1)) := by
 have e : 9 - k = (9 - (k + 1)) + 1 := by omega
 have e1 : q * 10 ^ (9 - k) = 10 * (q * 10 ^ (9 - (k + 1))) := by rw [e, Nat.pow_succ, <- Nat.mul_assoc, Nat.mul_comm]
 have hY : 0 < q * 10 ^ (9 - k) + R := by
  rcases hpos with h1 | h1
  ·have := Nat.mul_pos h1 (Nat.pow_pos (n := 9 - k) (show 0 < 10 by decide)); omega
  ·omega
 rw [dg_pos b10 hY] at h; have e2 : (q * 10 ^ (9 - k) + R) % 10 = R % 10 := by rw [e1]; omega
 have e3 : (q * 10 ^ (9 - k) + R) / 10 = q * 10 ^ (9 - (k + 1)) + R / 10 := by rw [e1]; omega
 rw [e2, e3] at h; refine ⟨by rw [h, List.append_assoc]; rfl, ?_⟩; rw [e, Nat.pow_succ] at hR
 omega
theorem dg10_len {n : Nat} : (dg 10 n).length <= 32 * (dw n).length := by
 refine dg_le b10 ?_; have h1 : n < 4294967296 ^ (dw n).length := dg_lt b32 n; have h2 : (4294967296 : Nat) ^ (dw n).length <= 10 ^ (32 * (dw n).length) := by
  rw [Nat.pow_mul]; exact Nat.pow_le_pow_left (by decide) _
 omega
def Rev (T O : List Nat) (i : Nat) : Prop := O.length = T.length /\ ∀ j (h : j < T.length) (h2 : j < O.length), O[j] = if j < i \/ T.length - 1 - i < j then T[T.length - 1 - j]'(by omega) else T[j]
theorem Rev.start (T : List Nat) : Rev T T 0 := ⟨rfl, fun j h h2 => by rw [if_neg (by omega)]⟩
theorem Rev.step {T O : List Nat} {i k : Nat} (h : Rev T O i) (hk : k = T.length - 1 - i) (hi : i < k) (h1 : i < O.length) (h2 : k < O.length) : Rev T ((O.set i O[k]).set k O[i]) (i + 1) := by
 obtain ⟨hl, hv⟩ := h; refine ⟨by simp [hl], fun j hj hj2 => ?_⟩; have hvi := hv i (by omega) h1; have hvk := hv k (by omega) h2; rw [if_neg (by omega)] at hvi hvk
 by_cases e1 : j = k
 ·subst e1; rw [List.getElem_set_self, hvi, if_pos (by omega)]
  congr 1; omega
 ·rw [List.getElem_set_ne (by omega)]
  by_cases e2 : j = i
  ·subst e2; rw [List.getElem_set_self, hvk, if_pos (by omega)]
   congr 1
  ·rw [List.getElem_set_ne (by omega), hv j hj (by omega)]
   by_cases e3 : j < i \/ T.length - 1 - i < j
   ·rw [if_pos e3, if_pos (by omega)]
   ·rw [if_neg e3, if_neg (by omega)]
theorem Rev.done {T O : List Nat} {i : Nat} (h : Rev T O i) (hi : T.length <= 2 * i + 1) : O = T.reverse := by
 obtain ⟨hl, hv⟩ := h
 apply List.ext_getElem
 ·simp [hl]
 ·intro j h1 h2; rw [hv j (by omega) h1, List.getElem_reverse]
  split
  ·rfl
  ·have : j = T.length - 1 - j := by omega
   congr 1
theorem cdig_get {O : List Nat} {j : Nat} (h : j < O.length) : (cdig O)[j]? = some (.int .u8 ((48 + O[j] : Nat) : Int)) := by simp [cdig, h]
theorem own_below1 {w w' : World} {base size n : Nat} {e : TypeId} {v : Value} {xs : List Value} (h : w.ownsRow base e size v n xs) (hb : Below w.heap.size w w') : w'.ownsRow base e size v n xs :=
 h.kept (row := none) ⟨hb.os, hb.tape, hb.output, hb.size, fun i hi _ => hb.block i hi⟩ (by cases v.ownBlock <;> simp)
theorem wds_grown {w w' : World} {row : Option Nat} {g : Nat} {l : List Nat} (h : Wds w (some ⟨g, 0, none⟩) l) (hg : w.grownBy w' row) (hne : some g ≠ row) (hl : g < w.heap.size) : Wds w' (some ⟨g, 0, none⟩) l := by
 intro j u hu; obtain ⟨b, off, e, hc⟩ := h j u hu
 injection e with e
 injection e with e1 e2
 subst e1 e2; exact ⟨_, _, rfl, (World.cell?_of_block (a := ⟨g, 0 + j, none⟩) (hg.block g hl hne)).trans hc⟩
theorem wds_alloc {w : World} {g : Nat} {l : List Nat} (h : Wds w (some ⟨g, 0, none⟩) l) (o : Obj) : Wds (w.alloc o) (some ⟨g, 0, none⟩) l := h.below ((Below.refl _ _).alloc (Nat.le_refl _) _)
theorem byte_info : (Tryz.prog.info? 5).map (fun i => (i.zero, i.size, i.bytes)) = some (some (.int .u8 0), 1, 1) := by kernel_rfl

theorem string_any {v : Value} {n : Nat} (w : World) (hv : NatV w v n) (hl : (dw n).length <= 1048000) :
  Calls Tryz.prog 136 #[v] w fun e w' => e = .returned (.string (S n)) /\ Below w.heap.size w w' := by
 rcases Nat.eq_zero_or_pos n with rfl | hn0
 ·obtain ⟨A, c, rfl, hc1, hc2, -⟩ := hv; have hz : (dw 0).length = 0 := rfl; have hS : (⟨#[48]⟩ : ByteArray) = S 0 := rfl; rw [hz, <- hS]; clear hz hc1 hS
  go_enter Tryz.func136, Tryz.ntmps136
  go_wp2
  go_ret
  exact ⟨rfl, Below.refl _ _⟩
 ·have HV0 := Z' hv; obtain ⟨A, c, rfl, hc1, hc2, -⟩ := hv; unfold maxLen at hc2; have hlp : 0 < (dw n).length := by
   have : dw n ≠ [] := fun e => by have := (dg_nil b32).1 e; omega
   exact List.length_pos_iff.2 this
  have b0 : (((dw n).length : Int) == 0) = false := beq_eq_false_iff_ne.2 (by omega); have HL10 : Hid ((dg 10 n).length <= 33536000) := Nat.le_trans dg10_len (by omega); obtain ⟨i0, hi0, hz0, hz1, hz2⟩ := info_parts byte_info
  go_enter Tryz.func136, Tryz.ntmps136
  go_wp2_with fail
  go_loopg [0, 3] n (fun q s0 s3 wr => ∃ (X : Nat) (T : List Nat), q = X /\ NatV wr s0 X /\ (dw X).length <= 1048000 /\ Hid (dg 10 n = T ++ dg 10 X) /\ wr.ownsRow w.heap.size 5 1 s3 T.length (cdig T) /\ Below w.heap.size w wr)
  case atStart => exact ⟨n, [], rfl, HV0.out, hl, rfl, World.ownsRow_nil _ _ _ _, Below.refl _ _⟩
  case round =>
   obtain ⟨X, T, hq, hX, hXl, HT, hown, hbw⟩ := hrel; have HQ := Z' hq; clear hq
   have HX := Z' hX; obtain ⟨A2, c2, rfl, hd1, hd2, -⟩ := hX; unfold maxLen at hd2
   rcases Nat.eq_zero_or_pos X with rfl | hX0
   ·have hz : (dw 0).length = 0 := rfl; have hTT : T = dg 10 n := by have := HT.out; rw [dg_zero, List.append_nil] at this; exact this.symm
    have hTl : T.length <= 33536000 := by rw [hTT]; exact HL10.out
    have hTp : 0 < T.length := by
     rw [hTT]; exact List.length_pos_iff.2 fun e => by have := (dg_nil b10).1 e; omega
    have HTT := Z' hTT; obtain ⟨g, cap, hs3, hgb, hgl⟩ := hown.form hTp; obtain ⟨u3', hu3⟩ : ∃ u3', u3' = u3 := ⟨_, rfl⟩; subst hs3; clear hu3 hTT HT HX; rw [hz]; have hTI : (0 : Int) <= (T.length : Int) - 1 := by omega
    clear hz
    go_wp2_with fail
    go_loopg [6, 7] T.length (fun q s6 s7 wr => ∃ (i : Nat) (z : Int) (O : List Nat), q = T.length - i /\ i <= T.length /\ s6 = .int .i64 i /\ s7 = .int .i64 z /\ z = (T.length : Int) - 1 - i /\ Hid (Rev T O i) /\ wr.ownsRow w.heap.size 5 1 (.slice (some ⟨g, 0, none⟩) T.length cap) T.length (cdig O) /\ Below w.heap.size w wr)
    case atStart => exact ⟨0, _, T, rfl, Nat.zero_le _, rfl, rfl, by omega, Rev.start T, hown, hbw⟩
    case round =>
     clear hown hbw; obtain ⟨i, z, O, hq2, hi, rfl, rfl, hz, HRV, hown, hbw⟩ := hrel; have HQ2 := Z' hq2; clear hq2
     have hOl := HRV.out.1; have hO1 : O.length <= T.length := by omega
     have hO2 : T.length <= O.length := by omega
     clear hOl
     by_cases hlt : (i : Int) < z
     ·obtain ⟨k, hk⟩ : ∃ k : Nat, z = (k : Int) := ⟨z.toNat, by omega⟩; subst hk; have hkk : k = T.length - 1 - i := by omega
      have hik : i < k := by omega
      have hiO : i < O.length := by omega
      have hkO : k < O.length := by omega
      have HST : Hid (Rev T ((O.set i O[k]).set k O[i]) (i + 1)) := HRV.out.step hkk hik hiO hkO; have ci : wr.cell? ⟨g, i, none⟩ = some (.int .u8 ((48 + O[i] : Nat) : Int)) := by
       rw [hown.cellAt i (by omega)]; exact cdig_get hiO
      have ck : wr.cell? ⟨g, k, none⟩ = some (.int .u8 ((48 + O[k] : Nat) : Int)) := by
       rw [hown.cellAt k (by omega)]; exact cdig_get hkO
      have fi := hown.frozenAt i; have fk := hown.frozenAt k; obtain ⟨h1, -⟩ := hown.stored i (.int .u8 ((48 + O[k] : Nat) : Int)); obtain ⟨h2, -⟩ := h1.stored k (.int .u8 ((48 + O[i] : Nat) : Int)); have hcs : ((cdig O).set i (.int .u8 ((48 + O[k] : Nat) : Int))).set k (.int .u8 ((48 + O[i] : Nat) : Int)) = cdig ((O.set i O[k]).set k O[i]) := by simp [cdig, List.map_set]
      rw [hcs] at h2; have hb2 : Below w.heap.size w ((wr.setCell ⟨g, i, none⟩ (.int .u8 ((48 + O[k] : Nat) : Int))).setCell ⟨g, k, none⟩ (.int .u8 ((48 + O[i] : Nat) : Int))) := (hbw.setCell hgb _).setCell hgb _; have hne : i ≠ k := by omega
      generalize hxk : (48 + O[k] : Nat) = xk at ck h2 hb2; generalize hxi : (48 + O[i] : Nat) = xi at ci h2 hb2; have H2 := Z' h2; have hkI : (k : Int) < (T.length : Int) := by omega
      have hiI : (i : Int) < (T.length : Int) := by omega
      have hk0 : (0 : Int) <= (k : Int) := by omega
      have hi0' : (0 : Int) <= (i : Int) := by omega
      have hzz : (k : Int) - 1 = (T.length : Int) - 1 - ((i + 1 : Nat) : Int) := by omega
      have HZZ := Z' hzz; clear hxk hxi h1 h2 hcs hkk hown hzz hz
      go_wp2_with fail
      go_region
      go_wp2_with fail
      go_roundg (T.length - (i + 1))
      case measure => have := HQ2.out; omega
      case rel => exact ⟨i + 1, _, _, rfl, by omega, by go_num, rfl, HZZ.out, HST, H2.out.drew, hb2.drew⟩
     ·have hfin := HRV.out.done (by omega); have hdec : T.reverse = dec n := by rw [HTT.out]; unfold dec; rw [if_neg (by omega)]
      have hO : O = dec n := by rw [hfin, hdec]
      have hlO : (asc (dec n)).length = T.length := by rw [asc_length, <- hdec, List.length_reverse]
      have hback : (convert 198 9 (.slice (some ⟨g, 0, none⟩) T.length cap)).run Tryz.prog wr = .ok (.string (S n)) wr := by
       have h := run_convert_bytes_back (P := Tryz.prog) wr 198 9 5 ⟨g, 0, none⟩ cap (asc (dec n)) Tryz.underlying198 Tryz.underlying5 Tryz.underlying9 (by
        intro j hj; have hj2 : j < O.length := by rw [hO]; simpa [asc] using hj
        rw [Addr.add_lit, Nat.zero_add, hown.cellAt j (by omega)]; rw [cdig_get hj2]; have hdj : O[j] < 10 := by
         have : O[j] ∈ dec n := by rw [<- hO]; exact List.getElem_mem hj2
         exact dec_dig n _ this
        have e : (asc (dec n))[j] = (48 + O[j]).toUInt8 := by simp only [asc, List.getElem_map, hO]
        rw [e, asc_toNat hdj])
       rw [hlO] at h; exact h
      clear hfin hdec hO hlO hown hz
      go_wp2_with fail
      go_ret
      exact ⟨rfl, hbw⟩
   ·have hXp : 0 < (dw X).length := by
     have : dw X ≠ [] := fun e => by have := (dg_nil b32).1 e; omega
     exact List.length_pos_iff.2 this
    have hqlt : X / 1000000000 < X := Nat.div_lt_self hX0 (by decide); have HQL := Z' hqlt; have hql : (dw (X / 1000000000)).length <= 1048000 := Nat.le_trans (dg_mono b32 (Nat.div_le_self _ _)) hXl; have HSM := Z' (small_at wr HX.out (by omega) (show 0 < 1000000000 by decide) (show 1000000000 < 4294967296 by decide)); have HR0 : Hid (X % 1000000000 < 10 ^ (9 - 0)) := Nat.mod_lt _ (by decide); have HT0 : Hid (dg 10 n = T ++ dg 10 (X / 1000000000 * 10 ^ (9 - 0) + X % 1000000000)) := by
     show _ = _
     have e : X / 1000000000 * 10 ^ (9 - 0) + X % 1000000000 = X := by
      show X / 1000000000 * 1000000000 + X % 1000000000 = X
      omega
     rw [e]; exact HT.out
    have hr0 : X % 1000000000 < 1000000000 := Nat.mod_lt _ (by decide); have hnb0 : u3.ownBlock ≠ some wr.heap.size := fun e => by have := (hown.lt _ e).2; omega
    clear hqlt
    go_wp2_with fail
    refine HSM.out.mono ?_; clear HSM; rintro e w1 ⟨rfl, hvq, hb1, hgv⟩; generalize X / 1000000000 = qq at hvq hql HT0 HQL |-; generalize X % 1000000000 = rr at HR0 HT0 hr0 |-; have hown1 := own_below1 hown hb1; obtain ⟨_, _, e, he1, he2, hWq⟩ := hvq
    cases e
    unfold maxLen at he2; have hszo := hbw.size; have hbw1 := hbw.trans (hb1.mono hbw.size); clear hown hbw HT; obtain ⟨gv, hgvv⟩ : ∃ gv, gv = wr.heap.size := ⟨_, rfl⟩; rw [<- hgvv] at hWq hnb0 hgv |-; clear hb1; clear hgvv
    go_wp2_with fail
    go_loopg [3, 4, 5] 9 (fun q s3 s4 s5 wr => ∃ (k R : Nat) (T : List Nat), q = 9 - k /\ k <= 9 /\ s5 = .int .i64 k /\ s4 = .int .u32 R /\ R < 1000000000 /\ Hid (R < 10 ^ (9 - k)) /\ Hid (dg 10 n = T ++ dg 10 (qq * 10 ^ (9 - k) + R)) /\ wr.ownsRow w.heap.size 5 1 s3 T.length (cdig T) /\ s3.ownBlock ≠ some gv /\ Wds wr (some ⟨gv, 0, none⟩) (dw qq) /\ w1.heap.size <= wr.heap.size /\ Below w.heap.size w wr)
    case atStart => exact ⟨0, rr, T, rfl, Nat.zero_le _, rfl, rfl, hr0, HR0.out, HT0.out, hown1, hnb0, hWq, Nat.le_refl _, hbw1⟩
    case round =>
     clear hown1 hr0 hnb0 hWq hbw1 HT0 HR0 T; obtain ⟨k, R, T, hq2, hk, rfl, rfl, hRb, HR, HT, hown, hnb, hWq, hsw, hbw⟩ := hrel; have HQ2 := Z' hq2; clear hq2
     have HNB := Z' hnb; clear hnb; have fin : (k = 9 \/ (qq = 0 /\ R = 0)) -> Hid (dg 10 n = T ++ dg 10 qq) := by
      intro h
      show _ = _
      rw [HT.out]
      rcases h with h | ⟨h1, h2⟩
      ·subst h; have : R < 1 := HR.out; have e : qq * 10 ^ (9 - 9) + R = qq := by rw [Nat.sub_self, Nat.pow_zero]; omega
       rw [e]
      ·subst h1 h2; rw [Nat.zero_mul]
     by_cases hk9 : k < 9
     ·by_cases hc : 0 < qq \/ 0 < R
      ·obtain ⟨st1, st2⟩ := str_step hk9 HT.out hc HR.out; have HST1 := Z' st1; have HST2 := Z' st2; have htl : T.length <= 33536000 := by
        have h1 := HT.out; have h2 := HL10.out; rw [h1, List.length_append] at h2
        omega
       obtain ⟨d, hd⟩ : ∃ d, d = R % 10 := ⟨_, rfl⟩; obtain ⟨R1, hR1⟩ : ∃ R1, R1 = R / 10 := ⟨_, rfl⟩; rw [<- hd, <- hR1] at HST1; rw [<- hR1] at HST2; have g1 : (R : Int) % 10 = (d : Int) := by omega
       have g2 : (R : Int) / 10 = (R1 : Int) := by omega
       have g3 : ((48 : Int) + (d : Int)) % 256 = 48 + (d : Int) := by omega
       have hdb : d < 10 := by omega
       have hR1b : R1 < 1000000000 := by omega
       have h63 : T.length + 1 <= maxLen := by unfold maxLen; omega
       have hszw := hbw.size; clear hd hR1 st1 st2 fin; have hgd : (decide ((0 : Int) < ((dw qq).length : Int)) = true /\ 0 < (dw qq).length) \/ ((dw qq).length = 0 /\ 0 < R) := by
        by_cases h0 : 0 < (dw qq).length
        ·exact .inl ⟨decide_eq_true (by omega), h0⟩
        ·refine .inr ⟨by omega, ?_⟩; have : dw qq = [] := List.length_eq_zero_iff.1 (by omega); have := (dg_nil b32).1 this
         omega
       clear hc
       rcases hgd with ⟨hg, hg0⟩ | ⟨hg, hRp⟩
       ·go_wp2_with (at_builtin; refine wpList_append_own_at _ rfl (.tmp 32) (.tmp 37) 198 rfl w.heap.size 5 i0 _ 1 1 Tryz.underlying198 hi0 hz0 hz1 hz2 rfl (by decide) _ T.length (cdig T) rfl (hown.alloc _) ⟨wr.heap.size, 0, none⟩ 1 1 [.int .u8 (48 + (d : Int))] rfl rfl (new_cells _ _ _ _ rfl) (by simp [Value.oneCell']) h63 (by omega) (by rw [size1]; omega) ?_)
        intro v' w' hown' hgrow _ hat; have hbw' : Below w.heap.size w w' := (hbw.alloc hbw.size _).grown hgrow (by rw [size1]; omega) (own_lt hown); have hgs := hgrow.size; rw [size1] at hgs; have hgvl : gv < wr.heap.size := by omega
        have hWq' := wds_grown (wds_alloc hWq _) hgrow (fun e => HNB.out e.symm) (by rw [size1]; omega); have hnb' : Hid (v'.ownBlock ≠ some gv) := by
         show _ ≠ _
         rcases hat with e | e
         ·rw [e]; exact HNB.out
         ·rw [e]; intro e2; injection e2 with e2; omega
        have hcd : cdig T ++ [.int .u8 (48 + (d : Int))] = cdig (T ++ [d]) := by simp [cdig]
        have H' : Hid (w'.ownsRow w.heap.size 5 1 v' (T ++ [d]).length (cdig (T ++ [d]))) := by
         show World.ownsRow _ _ _ _ _ _ _
         rw [<- hcd, List.length_append]; exact hown'
        clear hgrow hat hown' hcd hown hWq
        go_wp2_with fail
        go_roundg (9 - (k + 1))
        case measure => have := HQ2.out; omega
        case rel => exact ⟨k + 1, R1, T ++ [d], rfl, by omega, by go_num, rfl, hR1b, HST2.out, HST1.out, H'.out, hnb'.out, hWq', by omega, hbw'⟩
       ·have hdq : dw qq = [] := List.length_eq_zero_iff.1 hg; have HDQ := Z' hdq; have dq1 : decide ((0 : Int) < ((dw qq).length : Int)) = false := decide_eq_false (by omega); have dq2 : decide (0 < (dw qq).length) = false := decide_eq_false (by omega); clear hg; have dR : decide ((0 : Int) < (R : Int)) = true := decide_eq_true (by omega); have dR2 : decide (0 < R) = true := decide_eq_true hRp; clear hdq
        go_wp2_with (at_builtin; refine wpList_append_own_at _ rfl (.tmp 32) (.tmp 37) 198 rfl w.heap.size 5 i0 _ 1 1 Tryz.underlying198 hi0 hz0 hz1 hz2 rfl (by decide) _ T.length (cdig T) rfl (hown.alloc _) ⟨wr.heap.size, 0, none⟩ 1 1 [.int .u8 (48 + (d : Int))] rfl rfl (new_cells _ _ _ _ rfl) (by simp [Value.oneCell']) h63 (by omega) (by rw [size1]; omega) ?_)
        intro v' w' hown' hgrow _ hat; have hbw' : Below w.heap.size w w' := (hbw.alloc hbw.size _).grown hgrow (by rw [size1]; omega) (own_lt hown); have hgs := hgrow.size; rw [size1] at hgs; have hgvl : gv < wr.heap.size := by omega
        have hWq' := wds_grown (wds_alloc hWq _) hgrow (fun e => HNB.out e.symm) (by rw [size1]; omega); have hnb' : Hid (v'.ownBlock ≠ some gv) := by
         show _ ≠ _
         rcases hat with e | e
         ·rw [e]; exact HNB.out
         ·rw [e]; intro e2; injection e2 with e2; omega
        have hcd : cdig T ++ [.int .u8 (48 + (d : Int))] = cdig (T ++ [d]) := by simp [cdig]
        have H' : Hid (w'.ownsRow w.heap.size 5 1 v' (T ++ [d]).length (cdig (T ++ [d]))) := by
         show World.ownsRow _ _ _ _ _ _ _
         rw [<- hcd, List.length_append]; exact hown'
        clear hgrow hat hown' hcd hown hWq
        go_wp2_with fail
        go_roundg (9 - (k + 1))
        case measure => have := HQ2.out; omega
        case rel => exact ⟨k + 1, R1, T ++ [d], rfl, by omega, by go_num, rfl, hR1b, HST2.out, HST1.out, H'.out, hnb'.out, hWq', by omega, hbw'⟩
      ·have hq0 : qq = 0 := by omega
       have hR0 : R = 0 := by omega
       have HF := fin (.inr ⟨hq0, hR0⟩); have HNV : Hid (NatV wr (.slice (some ⟨gv, 0, none⟩) (dw qq).length (dw X).length) qq) := ⟨_, _, rfl, he1, by unfold maxLen; omega, hWq⟩; have hdq : (dw qq).length = 0 := by rw [hq0]; rfl
       have dR : decide ((0 : Int) < (R : Int)) = false := decide_eq_false (by omega); have dR2 : decide (0 < R) = false := decide_eq_false (by omega); have dq1 : decide ((0 : Int) < ((dw qq).length : Int)) = false := decide_eq_false (by omega); have dq2 : decide (0 < (dw qq).length) = false := decide_eq_false (by omega); have hdq2 := Z' hdq; clear hc fin hq0 hR0 hdq
       go_wp2_with fail
       go_roundg qq
       case measure => have := HQ.out; have := HQL.out; omega
       case rel => exact ⟨qq, T, rfl, HNV.out, hql, HF, hown, hbw⟩
     ·have HF := fin (.inl (by omega)); have HNV : Hid (NatV wr (.slice (some ⟨gv, 0, none⟩) (dw qq).length (dw X).length) qq) := ⟨_, _, rfl, he1, by unfold maxLen; omega, hWq⟩; clear fin
      go_wp2_with fail
      go_roundg qq
      case measure => have := HQ.out; have := HQL.out; omega
      case rel => exact ⟨qq, T, rfl, HNV.out, hql, HF, hown, hbw⟩
end Go.Proofs.YtjimfbmegmnocaaGreatDoor
