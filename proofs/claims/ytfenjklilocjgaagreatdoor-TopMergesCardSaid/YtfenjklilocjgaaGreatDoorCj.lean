/- Parts of the proof: Cj. No condition of its own. -/
import Derived.Test.YtfenjklilocjgaaGreatDoorCh
set_option linter.unusedSimpArgs false
set_option linter.unusedVariables false
set_option linter.unusedSectionVars false
namespace Go.Proofs.YtfenjklilocjgaaGreatDoor
set_option linter.unusedSimpArgs false
set_option linter.unusedVariables false
set_option linter.unusedSectionVars false
open Go.RowKit

set_option maxRecDepth 100000 in
set_option maxHeartbeats 4000000 in
theorem bare6_any {S : Nat → Prop} (w : World) {v z : Value} {H : List Int} {R : List ByteArray} (hh : IntsO S w v H) (hr : StrsO S w z R) (hl : H.length = R.length) :
    Calls Tryz.prog 96 #[v, z] w fun e w' => RetB (∀ i (h : i < H.length) (h' : i < R.length), H[i] = -1 ∧ R[i] = ⟨#[]⟩) e ∧ w' = w := by
  obtain ⟨A, c, rfl, h1, h2, hh⟩ := EO.form hh
  obtain ⟨A2, c2, rfl, h3, h4, hr⟩ := EO.form hr
  unfold maxLen at h2 h4
  have HL := Lib.hid hl
  clear hl
  go_enter Tryz.func96, Tryz.ntmps96
  go_wp2_with fail
  go_loop [8] (fun v => ∃ j : Nat, j ≤ H.length ∧ v = .int .i64 (j : Int) ∧ Hid (∀ i (h : i < H.length) (h' : i < R.length), i < j → H[i] = -1 ∧ R[i] = ⟨#[]⟩)) (fun v => H.length + 1 - (intOf v).toNat)
  case atStart => exact ⟨0, Nat.zero_le _, rfl, fun _ _ _ h => absurd h (Nat.not_lt_zero _)⟩
  case round =>
    obtain ⟨j, hj, rfl, HE⟩ := hrel
    by_cases hlt : j < H.length
    · have hlt' : j < R.length := by have := HL.out; omega
      obtain ⟨b, off, rfl, -, k0, -⟩ := IntsO.get hh hlt
      obtain ⟨b2, off2, rfl, -, k1, -⟩ := StrsO.get hr hlt'
      obtain ⟨x, hx⟩ : ∃ x, x = H[j] := ⟨_, rfl⟩
      obtain ⟨z, hz⟩ : ∃ z, z = R[j] := ⟨_, rfl⟩
      rw [← hx] at k0
      rw [← hz] at k1
      have HX := Lib.hid hx
      have HZ := Lib.hid hz
      clear hx hz
      by_cases e1 : x = -1
      · skip
        have xe : ((x : Int) == (-1 : Int)) = true := beq_iff_eq.2 (by omega)
        have xd : ((x : Int) != (-1 : Int)) = false := by rw [bne_eq_false_iff_eq]; omega
        by_cases e2 : z = ⟨#[]⟩
        · skip
          have HZ2 : Hid (z = ⟨#[]⟩) := e2
          have d1 : (z.toList == []) = true := by rw [e2, ByteArray.toList_eq]; rfl
          have d2 : (z.toList != []) = false := by rw [e2, ByteArray.toList_eq]; rfl
          have d3 : z.toList = [] := by rw [e2, ByteArray.toList_eq]
          have d4 : z.toList.isEmpty = true := by rw [e2, ByteArray.toList_eq]; rfl
          have HX2 := Lib.hid e1
          clear e1 e2
          go_wp2
          go_round
          case rel => exact ⟨j + 1, by omega, by go_num, fun i h h' hi => if e : i = j then by subst e; rw [← HX.out, ← HZ.out]; exact ⟨HX2.out, HZ2.out⟩ else HE.out i h h' (by omega)⟩
          case measure => simp [intOf]; omega
        · skip
          have d0 : z.toList ≠ [] := fun e => e2 (bytes_ext (by rw [← ByteArray.toList_eq, e]))
          have d1 : (z.toList == []) = false := beq_eq_false_iff_ne.2 d0
          have d2 : (z.toList != []) = true := by rw [bne_iff_ne]; exact d0
          have HF : Hid (¬ ∀ i (h : i < H.length) (h' : i < R.length), H[i] = -1 ∧ R[i] = ⟨#[]⟩) := fun h => e2 (by rw [HZ.out]; exact (h j hlt hlt').2)
          clear e1 e2
          go_wp2
          go_ret
          exact ⟨RetB.no HF.out, rfl⟩
      · skip
        have xe : ((x : Int) == (-1 : Int)) = false := beq_eq_false_iff_ne.2 (by omega)
        have xd : ((x : Int) != (-1 : Int)) = true := by rw [bne_iff_ne]; omega
        have HF : Hid (¬ ∀ i (h : i < H.length) (h' : i < R.length), H[i] = -1 ∧ R[i] = ⟨#[]⟩) := fun h => e1 (by rw [HX.out]; exact (h j hlt hlt').1)
        clear e1
        go_wp2
        go_ret
        exact ⟨RetB.no HF.out, rfl⟩
    · go_wp2
      go_ret
      exact ⟨RetB.yes fun i h h' => HE.out i h h' (by omega), rfl⟩
/-- The way from a token over k heads; it ends where it leaves the tokens. -/
def wayH (H : List Int) (i : Nat) : Nat → Option Nat
  | 0 => some i
  | k + 1 => match wayH H i k with
    | none => none
    | some a => match H[a]? with
      | some x => if 0 ≤ x ∧ x < (H.length : Int) then some x.toNat else none
      | none => none
/-- The way comes back. -/
def CycH (H : List Int) (i : Nat) : Prop := ∃ k, 0 < k ∧ k ≤ H.length ∧ wayH H i k = some i
theorem wayH_none {H : List Int} {i j : Nat} (h : wayH H i j = none) : ∀ k, j ≤ k → wayH H i k = none := by
  intro k hk
  induction k with
  | zero =>
    have : j = 0 := by omega
    subst this
    exact h
  | succ k ih =>
    rcases Nat.lt_or_ge k j with hlt | hge
    · have : j = k + 1 := by omega
      subst this
      exact h
    · rw [wayH, ih hge]
theorem no_cyc {H : List Int} {i j a : Nat} (hw : wayH H i j = some a) (hn : ∀ k, 0 < k → k ≤ j → wayH H i k ≠ some i) (hs : wayH H i (j + 1) = none) : ¬ CycH H i := by
  rintro ⟨k, hk, -, e⟩
  rcases Nat.lt_or_ge j k with hlt | hge
  · rw [wayH_none hs k hlt] at e; cases e
  · exact hn k hk hge e
set_option maxRecDepth 100000 in
set_option maxHeartbeats 4000000 in
theorem cyclic6_any {S : Nat → Prop} (w : World) {v : Value} {H : List Int} (hh : IntsO S w v H) (i : Nat) (hi : i < H.length) :
    Calls Tryz.prog 98 #[v, .int .i64 (i : Int)] w fun e w' => RetB (CycH H i) e ∧ w' = w := by
  obtain ⟨A, c, rfl, h1, h2, hh⟩ := EO.form hh
  unfold maxLen at h2
  go_enter Tryz.func98, Tryz.ntmps98
  go_wp2_with fail
  go_loopg [5, 9] (H.length + 1) (fun q v5 v wr => ∃ j a : Nat, q = H.length + 1 - j ∧ j ≤ H.length ∧ v = .int .i64 (j : Int) ∧ v5 = .int .i64 (a : Int) ∧ a < H.length ∧ Hid (wayH H i j = some a) ∧ Hid (∀ k, 0 < k → k ≤ j → wayH H i k ≠ some i) ∧ wr = w)
  case atStart => exact ⟨0, i, rfl, Nat.zero_le _, rfl, rfl, hi, rfl, fun _ h h' => by omega, rfl⟩
  case round =>
    obtain ⟨j, a, rfl, hj, rfl, rfl, ha, HW, HN, rfl⟩ := hrel
    by_cases hlt : j < H.length
    · obtain ⟨b, off, rfl, -, k0, hx1⟩ := IntsO.get hh ha
      have HS : Hid (wayH H i (j + 1) = if 0 ≤ H[a] ∧ H[a] < (H.length : Int) then some H[a].toNat else none) := by
        show _ = _
        rw [wayH, HW.out]
        simp only [List.getElem?_eq_getElem ha]
      generalize H[a] = x at k0 hx1 HS
      unfold I64 at hx1
      rcases (show x < 0 ∨ (0 ≤ x ∧ (H.length : Int) ≤ x) ∨ (0 ≤ x ∧ x < (H.length : Int)) by omega) with hc | hc | hc
      · have HC : Hid (¬ CycH H i) := no_cyc HW.out HN.out (by rw [HS.out, if_neg (by omega)])
        have d1 : decide (x < 0) = true := decide_eq_true hc
        clear hc
        go_wp2
        go_ret
        exact ⟨RetB.no HC.out, rfl⟩
      · have HC : Hid (¬ CycH H i) := no_cyc HW.out HN.out (by rw [HS.out, if_neg (by omega)])
        have d1 : decide (x < 0) = false := decide_eq_false (by omega)
        have d2 : decide ((H.length : Int) ≤ x) = true := decide_eq_true hc.2
        clear hc
        go_wp2
        go_ret
        exact ⟨RetB.no HC.out, rfl⟩
      · obtain ⟨a', rfl⟩ : ∃ a' : Nat, x = (a' : Int) := ⟨x.toNat, by omega⟩
        have ha' : a' < H.length := by omega
        have HS2 : Hid (wayH H i (j + 1) = some a') := by show _ = _; rw [HS.out, if_pos hc]; simp
        have d1 : decide ((a' : Int) < 0) = false := decide_eq_false (by omega)
        have d2 : decide ((H.length : Int) ≤ (a' : Int)) = false := decide_eq_false (by omega)
        have d2n : decide (H.length ≤ a') = false := decide_eq_false (by omega)
        clear hc HS
        by_cases he : a' = i
        · skip
          have ue : (((a' : Int) : Int) == ((i : Int) : Int)) = true := beq_iff_eq.2 (by omega)
          have ud : (((a' : Int) : Int) != ((i : Int) : Int)) = false := by rw [bne_eq_false_iff_eq]; omega
          have une : ((a' : Nat) == (i : Nat)) = true := beq_iff_eq.2 (by omega)
          have und : ((a' : Nat) != (i : Nat)) = false := by rw [bne_eq_false_iff_eq]; omega
          have HC : Hid (CycH H i) := ⟨j + 1, by omega, by omega, by rw [HS2.out, he]⟩
          clear he
          go_wp2
          go_ret
          exact ⟨RetB.yes HC.out, rfl⟩
        · skip
          have ue : (((a' : Int) : Int) == ((i : Int) : Int)) = false := beq_eq_false_iff_ne.2 (by omega)
          have ud : (((a' : Int) : Int) != ((i : Int) : Int)) = true := by rw [bne_iff_ne]; omega
          have une : ((a' : Nat) == (i : Nat)) = false := beq_eq_false_iff_ne.2 (by omega)
          have und : ((a' : Nat) != (i : Nat)) = true := by rw [bne_iff_ne]; omega
          have HC : Hid (∀ k, 0 < k → k ≤ j + 1 → wayH H i k ≠ some i) := fun k hk hk' => if e : k = j + 1 then by subst e; rw [HS2.out]; exact fun e2 => he (Option.some.inj e2) else HN.out k hk (by omega)
          clear he
          go_wp2
          go_roundg (H.length + 1 - (j + 1))
          case measure => omega
          case rel => exact ⟨j + 1, a', rfl, by omega, by go_num, rfl, ha', HS2, HC, rfl⟩
    · go_wp2
      go_ret
      exact ⟨RetB.no fun ⟨k, hk, hk', e⟩ => HN.out k hk (by omega) e, rfl⟩
theorem RdOut.fresh {S : Nat → Prop} {w : World} {A : Option Addr} {xs : List Value} (h : RdOut S w A xs) : RdOut (fun k => S k ∨ w.heap.size ≤ k) w A xs := fun j u hu =>
  let ⟨b, off, e, hn, hc⟩ := h j u hu
  ⟨b, off, e, fun hx => hx.elim hn fun h2 => absurd (World.block_lt_of_cell? w _ hc) (Nat.not_lt.2 h2), hc⟩
theorem EO.fresh {α : Type} {S : Nat → Prop} {w : World} {k : Nat} {E : α → List Value → Prop} {v : Value} {l : List α} (h : EO S w k E v l) : EO (fun k => S k ∨ w.heap.size ≤ k) w k E v l := by
  obtain ⟨es, h1, A, c, rfl, h2, h3, h4⟩ := h
  exact ⟨es, h1, A, c, rfl, h2, h3, h4.fresh⟩
theorem CorC.fresh {S : Nat → Prop} {w : World} {a t x r n h s : Value} {C : Cor} (q : CorC S w a t x r n h s C) : CorC (fun k => S k ∨ w.heap.size ≤ k) w a t x r n h s C :=
  ⟨EO.fresh q.a, (EO.fresh q.t).mono fun _ _ _ ⟨v, e, hv⟩ => ⟨v, e, EO.fresh hv⟩, (EO.fresh q.x).mono fun _ _ _ ⟨m, e, h1, h2, h3, h4⟩ => ⟨m, e, h1, h2, h3, EO.fresh h4⟩, (EO.fresh q.r).mono fun _ _ _ ⟨m, e, h1, h2, h3, h4⟩ => ⟨m, e, h1, h2, h3, EO.fresh h4⟩, EO.fresh q.n, EO.fresh q.h, EO.fresh q.s⟩
theorem Chg.later {S : Nat → Prop} {w w' : World} (hb : Below w.heap.size w w') : Chg (fun k => S k ∨ w.heap.size ≤ k) w w' := Chg.of_below hb fun _ _ h => .inr h
theorem EO.later {α : Type} {S : Nat → Prop} {w w' : World} {k : Nat} {E : α → List Value → Prop} {v : Value} {l : List α} (h : EO S w k E v l) (hb : Below w.heap.size w w') : EO (fun k => S k ∨ w.heap.size ≤ k) w' k E v l := EO.chg' (EO.fresh h) (Chg.later hb)
theorem CorC.later {S : Nat → Prop} {w w' : World} {a t x r n h s : Value} {C : Cor} (q : CorC S w a t x r n h s C) (hb : Below w.heap.size w w') : CorC (fun k => S k ∨ w.heap.size ≤ k) w' a t x r n h s C := q.fresh.chg (Chg.later hb)
/-- Depths. -/
structure DepthOK (D : List Int) (n : Nat) : Prop where
  len : D.length = n
  each : ∀ x ∈ D, 0 ≤ x ∧ x ≤ 40
theorem DepthOK.zero (n : Nat) : DepthOK (List.replicate n 0) n := ⟨by simp, fun x hx => by rw [List.eq_of_mem_replicate hx]; exact ⟨by decide, by decide⟩⟩
theorem DepthOK.set {D : List Int} {n : Nat} (h : DepthOK D n) {j : Nat} {x : Int} (hx : 0 ≤ x ∧ x ≤ 40) : DepthOK (D.set j x) n :=
  ⟨by rw [List.length_set]; exact h.len, fun y hy => (List.mem_or_eq_of_mem_set hy).elim (h.each y) (fun e => e ▸ hx)⟩
theorem ci_set9 (D : List Int) (j : Nat) (x : Int) : (ci D).set j (.int .i64 x) = ci (D.set j x) := by simp [ci, List.map_set]
/-- A slice of numbers made by length. -/
theorem mk_intsT (k : Nat) (hk : k ≤ 1073741824) (W : World) : (Instr.makeSlice 27 (.int .i64 (k : Int)) (.int .i64 (k : Int))).run Tryz.prog W = .ok (.slice (some ⟨W.heap.size, 0, none⟩) k k) (W.alloc (.cells (zeros k).toArray 3)) :=
  run_make_ints (e := 3) Tryz.underlying27 (by kernel_rfl) k hk W
abbrev Nd := ByteArray × Int × Int × Int
/-- The first j nodes are right, as far as it is said here. -/
structure NodesTo (l : List Nd) (T : List Spn) (j : Nat) : Prop where
  name : ∀ i (h : i < l.length), i < j → NameOK l[i].1
  inT : ∀ i (h : i < l.length), i < j → T.any (wiP l[i].2.1 l[i].2.2.1) = true
  par : ∀ i (h : i < l.length), i < j → -1 ≤ l[i].2.2.2 ∧ l[i].2.2.2 < (i : Int)
theorem NodesTo.zero (l : List Nd) (T : List Spn) : NodesTo l T 0 :=
  ⟨fun _ _ h => absurd h (Nat.not_lt_zero _), fun _ _ h => absurd h (Nat.not_lt_zero _), fun _ _ h => absurd h (Nat.not_lt_zero _)⟩
theorem NodesTo.step {l : List Nd} {T : List Spn} {j : Nat} (H : NodesTo l T j) (hj : j < l.length) {t : Nd} (ht : t = l[j]) (h1 : NameOK t.1) (h2 : T.any (wiP t.2.1 t.2.2.1) = true) (h3 : -1 ≤ t.2.2.2 ∧ t.2.2.2 < (j : Int)) : NodesTo l T (j + 1) := by
  subst ht
  refine ⟨fun i h hi => ?_, fun i h hi => ?_, fun i h hi => ?_⟩
  · by_cases e : i = j
    · subst e; exact h1
    · exact H.name i h (by omega)
  · by_cases e : i = j
    · subst e; exact h2
    · exact H.inT i h (by omega)
  · by_cases e : i = j
    · subst e; exact h3
    · exact H.par i h (by omega)
structure NodesOK (C : Cor) (l : List Nd) : Prop where
  few : l.length ≤ 2048
  all : NodesTo l C.texts l.length
set_option maxRecDepth 100000 in
set_option maxHeartbeats 4000000 in
theorem nodes6_any {S : Nat → Prop} {a t x r n h s v : Value} {C : Cor} {l : List Nd} (w : World) (q : CorC S w a t x r n h s C) (hl : NodesO S w v l) :
    Calls Tryz.prog 53 #[v, .agg #[a, t, x, r, n, h, s]] w fun e w' => RetII (NodesOK C l) e ∧ Below w.heap.size w w' := by
  obtain ⟨A, c, rfl, h1, h2, hl⟩ := EO.form hl
  have hlF : ∀ wx, Below w.heap.size w wx → NodesO (fun k => S k ∨ w.heap.size ≤ k) wx (.slice A l.length c) l := fun wx hb => EO.later hl hb
  have hqF : ∀ wx, Below w.heap.size w wx → CorC (fun k => S k ∨ w.heap.size ≤ k) wx a t x r n h s C := fun wx hb => q.later hb
  obtain ⟨o_c, hbw⟩ := new1 w [a, t, x, r, n, h, s] 30
  have q' := q.below hbw
  have hl' := hl.below hbw
  have hsz : (w.alloc (.cells #[a, t, x, r, n, h, s] 30)).heap.size = w.heap.size + 1 := by simp
  go_enter Tryz.func53, Tryz.ntmps53
  go_upto_region 1 with (fail)
  generalize (w.alloc (.cells #[a, t, x, r, n, h, s] 30)) = wb at o_c hbw hsz q' hl' ⊢
  obtain ⟨B, hB⟩ : ∃ B, B = w.heap.size := ⟨_, rfl⟩
  rw [← hB] at o_c hsz hbw ⊢
  have HB := Lib.hid hB
  clear hB
  clear q hl q' hl'
  unfold maxLen at h2
  rw [← HB.out] at hlF hqF
  have HLF := Lib.hid hlF
  have HQF := Lib.hid hqF
  clear hlF hqF
  by_cases h8 : 2048 < l.length
  · skip
    have d1 : decide ((2048 : Int) < (l.length : Int)) = true := decide_eq_true (by omega)
    have d1n : decide (2048 < l.length) = true := decide_eq_true (by omega)
    go_wp2
    go_ret2
    exact ⟨RetII.no (by decide), HB.out ▸ hbw⟩
  · skip
    have d1 : decide ((2048 : Int) < (l.length : Int)) = false := decide_eq_false (by omega)
    have d1n : decide (2048 < l.length) = false := decide_eq_false (by omega)
    have hmk := mk_intsT l.length (by omega)
    go_wp2_with fail
    clear d1 d1n hmk
    obtain ⟨o_d, hbd⟩ := new1 wb (zeros l.length) 3
    have hbB0 := belowB hbw (by omega) hbd
    have o_c0 := o_c.below hbd (by omega)
    have hgd := o_d.lt
    generalize (wb.alloc (.cells (zeros l.length).toArray 3)) = wd at o_d hbB0 o_c0 hgd ⊢
    clear o_c hbd hbw
    rw [hsz] at o_d hgd
    have hwd := hbB0.size
    go_loopg [20] (l.length + 1) (fun q v wr => ∃ (j : Nat) (D : List Int), q = l.length + 1 - j ∧ j ≤ l.length ∧ v = .int .i64 (j : Int) ∧ Hid (NodesTo l C.texts j) ∧ Hid (DepthOK D l.length) ∧ Own wr (B + 1) 3 (ci D) ∧ Below B w wr ∧ (B + 1) < wr.heap.size ∧ Own wr B 30 [a, t, x, r, n, h, s])
    case atStart => exact ⟨0, List.replicate l.length 0, rfl, Nat.zero_le _, rfl, NodesTo.zero _ _, DepthOK.zero _, o_d, hbB0, hgd, o_c0⟩
    case round =>
      clear o_d hbB0 hgd o_c0
      obtain ⟨j, D, rfl, hj, rfl, HE, HD, o_d, hbB, hgd, o_c⟩ := hrel
      by_cases hlt : j < l.length
      · skip
        have hBw := hbB.size
        obtain ⟨b, off, rfl, hnb, k0, k1, k2, k3, sn, z1, z2, z3⟩ := NodesO.get (HLF.out _ hbB) hlt
        obtain ⟨tx, htx⟩ : ∃ tx, tx = l[j] := ⟨_, rfl⟩
        rw [← htx] at k0 k1 k2 k3 sn z1 z2 z3
        have HT := Lib.hid htx
        obtain ⟨nm, l0, h0, pr⟩ := tx
        clear htx
        dsimp only at k0 k1 k2 k3 sn z1 z2 z3
        unfold I64 at z1 z2 z3
        obtain ⟨o_t, hbt⟩ := new1 wr [.string nm, .int .i64 l0, .int .i64 h0, .int .i64 pr] 74
        have hbB2 := belowB hbB (by omega) hbt
        have o_c2 := o_c.below hbt (by omega)
        have o_d2 := o_d.below hbt (by omega)
        have hgt := o_t.lt
        go_upto_region 7 with (fail)
        generalize (wr.alloc (.cells #[.string nm, .int .i64 l0, .int .i64 h0, .int .i64 pr] 74)) = wt at o_t hbB2 o_c2 o_d2 hgt ⊢
        clear k0 k1 k2 k3 hbt o_c o_d hbB
        generalize wr.heap.size = g at o_t hgt hgd hBw ⊢
        have t0 : wt.cell? ⟨g, 0, none⟩ = some (.string nm) := o_t.cell 0
        have t1 : wt.cell? ⟨g, 1, none⟩ = some (.int .i64 l0) := o_t.cell 1
        have t2 : wt.cell? ⟨g, 2, none⟩ = some (.int .i64 h0) := o_t.cell 2
        have t3 : wt.cell? ⟨g, 3, none⟩ = some (.int .i64 pr) := o_t.cell 3
        have HN := Lib.hid (validName4_any nm sn wt)
        go_wp2_with fail
        refine HN.out.mono ?_
        rintro e w9 ⟨⟨bn, rfl, hbn⟩, rfl⟩
        have HBN := Lib.hid hbn
        clear hbn HN
        cases bn
        · go_wp2
          go_ret2
          exact ⟨RetII.no (by decide), HB.out ▸ hbB2⟩
        · skip
          have c_0 : w9.cell? ⟨B, 0, none⟩ = some (a) := o_c2.cell 0
          have c_1 : w9.cell? ⟨B, 1, none⟩ = some (t) := o_c2.cell 1
          have c_2 : w9.cell? ⟨B, 2, none⟩ = some (x) := o_c2.cell 2
          have c_3 : w9.cell? ⟨B, 3, none⟩ = some (r) := o_c2.cell 3
          have c_4 : w9.cell? ⟨B, 4, none⟩ = some (n) := o_c2.cell 4
          have c_5 : w9.cell? ⟨B, 5, none⟩ = some (h) := o_c2.cell 5
          have c_6 : w9.cell? ⟨B, 6, none⟩ = some (s) := o_c2.cell 6
          go_wp2_with fail
          refine (within_any _ (HQF.out _ hbB2) l0 h0).mono ?_
          rintro e w7 ⟨rfl, hb7⟩
          replace o_t := o_t.below hb7 hgt
          replace o_c2 := o_c2.below hb7 (by omega)
          replace o_d2 := o_d2.below hb7 (by omega)
          replace hbB2 := belowB hbB2 (by omega) hb7
          have hs7 := hb7.size
          clear hb7 t0 t1 t2 t3 c_0 c_1 c_2 c_3 c_4 c_5 c_6
          obtain ⟨wn, hwn⟩ : ∃ wn, wn = C.texts.any (wiP l0 h0) := ⟨_, rfl⟩
          rw [← hwn]
          have HW := Lib.hid hwn
          clear hwn
          cases wn
          · go_wp2
            go_ret2
            exact ⟨RetII.no (by decide), HB.out ▸ hbB2⟩
          · skip
            have t0 : w7.cell? ⟨g, 0, none⟩ = some (.string nm) := o_t.cell 0
            have t1 : w7.cell? ⟨g, 1, none⟩ = some (.int .i64 l0) := o_t.cell 1
            have t2 : w7.cell? ⟨g, 2, none⟩ = some (.int .i64 h0) := o_t.cell 2
            have t3 : w7.cell? ⟨g, 3, none⟩ = some (.int .i64 pr) := o_t.cell 3
            have zj : IntKind.i64.wrap ((j : Int) - 1) = (j : Int) - 1 := IntWalk.i64_in _ (by omega)
            go_upto_block 3 with (fail)
            go_cut [9] (fun s9 wx => ∃ z : Int, s9 = .int .i64 z ∧ -1 ≤ z ∧ z < (j : Int) ∧ (z < 0 ∨ z = pr) ∧ wx = w7)
            case first =>
              go_wp2_with fail
              go_loopg [9] j (fun q v9 wx => ∃ z : Int, v9 = .int .i64 z ∧ -1 ≤ z ∧ z < (j : Int) ∧ q = (z + 1).toNat ∧ wx = w7)
              case atStart => exact ⟨(j : Int) - 1, rfl, by omega, by omega, by omega, rfl⟩
              case round =>
                obtain ⟨z, rfl, y1, y2, rfl, rfl⟩ := hrel
                rcases (show z < 0 ∨ (0 ≤ z ∧ z = pr) ∨ (0 ≤ z ∧ z ≠ pr) by omega) with hc | hc | hc
                · have hex : z < 0 ∨ z = pr := .inl hc
                  have HX := Lib.hid hex
                  clear hex
                  have d1 : decide (0 ≤ z) = false := decide_eq_false (by omega)
                  clear hc
                  go_wp2_with fail
                  go_meet
                  exact ⟨z, rfl, y1, y2, HX.out, rfl⟩
                · have hex : z < 0 ∨ z = pr := .inr hc.2
                  have HX := Lib.hid hex
                  clear hex
                  have d1 : decide (0 ≤ z) = true := decide_eq_true hc.1
                  have pe : ((z : Int) == (pr : Int)) = true := beq_iff_eq.2 (by exact hc.2)
                  have pd : ((z : Int) != (pr : Int)) = false := by rw [bne_eq_false_iff_eq]; exact hc.2
                  clear hc
                  go_wp2_with fail
                  go_meet
                  exact ⟨z, rfl, y1, y2, HX.out, rfl⟩
                · have d1 : decide (0 ≤ z) = true := decide_eq_true hc.1
                  have pe : ((z : Int) == (pr : Int)) = false := beq_eq_false_iff_ne.2 (by exact hc.2)
                  have pd : ((z : Int) != (pr : Int)) = true := by rw [bne_iff_ne]; exact hc.2
                  obtain ⟨zn, rfl⟩ : ∃ zn : Nat, z = (zn : Int) := ⟨z.toNat, by omega⟩
                  have hzl : zn < l.length := by omega
                  obtain ⟨b', off', ee, -, -, -, -, kp, -, -, -, -⟩ := NodesO.get (HLF.out _ hbB2) hzl
                  injection ee with ee
                  injection ee with e1 e2
                  subst e1 e2
                  have hpar := HE.out.par zn hzl (by omega)
                  generalize l[zn].2.2.2 = zp at kp hpar
                  clear hc
                  go_wp2
                  go_roundg (zp + 1).toNat
                  case measure => omega
                  case rel => exact ⟨zp, rfl, by omega, by omega, rfl, rfl⟩
            case rest =>
              obtain ⟨z, rfl, y1, y2, y3, rfl⟩ := hcut
              rcases (show (z < 0 ∧ pr ≠ -1) ∨ (z < 0 ∧ pr = -1) ∨ (0 ≤ z ∧ z = pr) by omega) with hc | hc | hc
              · have d1 : decide (z < 0) = true := decide_eq_true hc.1
                have pe : ((pr : Int) == (-1 : Int)) = false := beq_eq_false_iff_ne.2 (by omega)
                have pd : ((pr : Int) != (-1 : Int)) = true := by rw [bne_iff_ne]; omega
                clear hc
                go_wp2
                go_ret2
                exact ⟨RetII.no (by decide), HB.out ▸ hbB2⟩
              · have d1 : decide (z < 0) = true := decide_eq_true hc.1
                have HPR : Hid (-1 ≤ pr ∧ pr < (j : Int)) := ⟨by omega, by omega⟩
                have pe : ((pr : Int) == (-1 : Int)) = true := beq_iff_eq.2 (by omega)
                have pd : ((pr : Int) != (-1 : Int)) = false := by rw [bne_eq_false_iff_eq]; omega
                have d2 : decide (0 ≤ pr) = false := decide_eq_false (by omega)
                clear hc y3 zj
                go_upto_if 65 with (fail)
                go_cut [] (fun wx => ∃ D' : List Int, Hid (DepthOK D' l.length) ∧ Own wx (B + 1) 3 (ci D') ∧ Own wx g 74 [.string nm, .int .i64 l0, .int .i64 h0, .int .i64 pr] ∧ Own wx B 30 [a, t, x, r, n, h, s] ∧ Below B w wx ∧ g < wx.heap.size)
                case first =>
                  go_wp2_with fail
                  go_meet
                  exact ⟨D, HD, o_d2, o_t, o_c2, hbB2, by omega⟩
                case rest =>
                  clear o_d2 o_t o_c2 hbB2 HD t0 t1 t2 t3
                  obtain ⟨D', HD', o_d, o_t, o_c, hbB, hgw⟩ := hcut
                  have hBw2 := hbB.size
                  have zj : IntKind.i64.wrap ((j : Int) - 1) = (j : Int) - 1 := IntWalk.i64_in _ (by omega)
                  go_upto_block 5 with (fail)
                  go_cut [] (fun wx => Own wx (B + 1) 3 (ci D') ∧ Own wx g 74 [.string nm, .int .i64 l0, .int .i64 h0, .int .i64 pr] ∧ Own wx B 30 [a, t, x, r, n, h, s] ∧ Below B w wx ∧ g < wx.heap.size)
                  case first =>
                    go_wp2_with fail
                    go_loopg [11] j (fun q v11 wx => ∃ z : Int, v11 = .int .i64 z ∧ -1 ≤ z ∧ z < (j : Int) ∧ q = (z + 1).toNat ∧ Own wx (B + 1) 3 (ci D') ∧ Own wx g 74 [.string nm, .int .i64 l0, .int .i64 h0, .int .i64 pr] ∧ Own wx B 30 [a, t, x, r, n, h, s] ∧ Below B w wx ∧ g < wx.heap.size)
                    case atStart => exact ⟨(j : Int) - 1, rfl, by omega, by omega, by omega, o_d, o_t, o_c, hbB, hgw⟩
                    case round =>
                      clear o_d o_t o_c hbB hgw hBw2
                      obtain ⟨z, rfl, y4, y5, rfl, o_d, o_t, o_c, hbB, hgw⟩ := hrel
                      have hBw2 := hbB.size
                      by_cases hz : 0 ≤ z
                      · have d1 : decide (0 ≤ z) = true := decide_eq_true hz
                        obtain ⟨zn, rfl⟩ : ∃ zn : Nat, z = (zn : Int) := ⟨z.toNat, by omega⟩
                        have hzl : zn < l.length := by omega
                        obtain ⟨b', off', ee, -, -, -, kh, kp, -, -, -, -⟩ := NodesO.get (HLF.out _ hbB) hzl
                        injection ee with ee
                        injection ee with e1 e2
                        subst e1 e2
                        generalize l[zn].2.2.2 = zp at kp
                        generalize l[zn].2.2.1 = zh at kh
                        have t1 : wr.cell? ⟨g, 1, none⟩ = some (.int .i64 l0) := o_t.cell 1
                        have t3 : wr.cell? ⟨g, 3, none⟩ = some (.int .i64 pr) := o_t.cell 3
                        have zs : IntKind.i64.wrap ((zn : Int) - 1) = (zn : Int) - 1 := IntWalk.i64_in _ (by omega)
                        go_upto_region 24 with (fail)
                        by_cases hp : zp = pr
                        · skip
                          have pe : ((zp : Int) == (pr : Int)) = true := beq_iff_eq.2 (by omega)
                          have pd : ((zp : Int) != (pr : Int)) = false := by rw [bne_eq_false_iff_eq]; omega
                          clear hp
                          refine wp_reg_f [some 98, some 99, some 100, some 101, some 102, some 103, some 104, some 105] [?v1_0, ?v1_1, ?v1_2, ?v1_3, ?v1_4, ?v1_5, ?v1_6, ?v1_7] [[], [], [0, 1], [2], [3], [], [5], [4, 6]] [(0, _), (8, _), (11, _)] ⟨rfl, rfl, rfl, trivial⟩ rfl (by kernel_rfl) rfl rfl (by kernel_rfl) (by kernel_rfl) ⟨?s1_0, ?s1_1, ?s1_2, ?s1_3, ?s1_4, ?s1_5, ?s1_6, ?s1_7, trivial⟩ ?p1
                          all_goals try (intro t9 w9 hT9 K9 hK9; simp only [OV, FV, List.getD_cons_succ, List.getD_cons_zero, Option.getD_some]; intros)
                          case s1_0 | s1_1 | s1_2 | s1_3 | s1_4 | s1_5 | s1_6 | s1_7 =>
                            have d9_0 := grow_cell hT9 t3; have d9_1 := grow_cell hT9 kp
                            go_simp
                            exact hK9 _ (Grow.refl _)
                          intro w9 hb9
                          simp only [putL, Act.put, List.setIfInBounds_toArray, List.set_cons_succ, List.set_cons_zero]
                          replace o_d := o_d.below hb9 (by omega)
                          replace o_t := o_t.below hb9 (by omega)
                          replace o_c := o_c.below hb9 (by omega)
                          replace hbB := belowB hbB (by omega) hb9
                          have hs9 := hb9.size
                          replace kh := below_cell hb9 kh
                          clear hb9 t1 t3 kp
                          have t1 : w9.cell? ⟨g, 1, none⟩ = some (.int .i64 l0) := o_t.cell 1
                          go_upto_region 25 with (fail)
                          by_cases hq : l0 < zh
                          · skip
                            have dq : decide (l0 < zh) = true := decide_eq_true (by omega)
                            clear hq
                            refine wp_reg_f [some 106, some 107, some 108, some 109, some 110, some 111, some 112, some 113] [?v2_0, ?v2_1, ?v2_2, ?v2_3, ?v2_4, ?v2_5, ?v2_6, ?v2_7] [[], [0], [], [], [2, 3], [4], [5], [1, 6]] [(0, _), (8, _), (11, _)] ⟨rfl, rfl, rfl, trivial⟩ rfl (by kernel_rfl) rfl rfl (by kernel_rfl) (by kernel_rfl) ⟨?s2_0, ?s2_1, ?s2_2, ?s2_3, ?s2_4, ?s2_5, ?s2_6, ?s2_7, trivial⟩ ?p2
                            all_goals try (intro t9 w9 hT9 K9 hK9; simp only [OV, FV, List.getD_cons_succ, List.getD_cons_zero, Option.getD_some]; intros)
                            case s2_0 | s2_1 | s2_2 | s2_3 | s2_4 | s2_5 | s2_6 | s2_7 =>
                              have d9_0 := grow_cell hT9 t1; have d9_1 := grow_cell hT9 kh
                              go_simp
                              exact hK9 _ (Grow.refl _)
                            intro w9 hb9
                            simp only [putL, Act.put, List.setIfInBounds_toArray, List.set_cons_succ, List.set_cons_zero]
                            replace hbB := belowB hbB (by omega) hb9
                            go_wp2
                            go_ret2
                            exact ⟨RetII.no (by decide), HB.out ▸ hbB⟩
                          · skip
                            have dq : decide (l0 < zh) = false := decide_eq_false (by omega)
                            clear hq
                            refine wp_reg_f [some 106, some 107, some 108, some 109, some 110, some 111, some 112, some 113] [?v3_0, ?v3_1, ?v3_2, ?v3_3, ?v3_4, ?v3_5, ?v3_6, ?v3_7] [[], [0], [], [], [2, 3], [4], [5], [1, 6]] [(0, _), (8, _), (11, _)] ⟨rfl, rfl, rfl, trivial⟩ rfl (by kernel_rfl) rfl rfl (by kernel_rfl) (by kernel_rfl) ⟨?s3_0, ?s3_1, ?s3_2, ?s3_3, ?s3_4, ?s3_5, ?s3_6, ?s3_7, trivial⟩ ?p3
                            all_goals try (intro t9 w9 hT9 K9 hK9; simp only [OV, FV, List.getD_cons_succ, List.getD_cons_zero, Option.getD_some]; intros)
                            case s3_0 | s3_1 | s3_2 | s3_3 | s3_4 | s3_5 | s3_6 | s3_7 =>
                              have d9_0 := grow_cell hT9 t1; have d9_1 := grow_cell hT9 kh
                              go_simp
                              exact hK9 _ (Grow.refl _)
                            intro w9 hb9
                            simp only [putL, Act.put, List.setIfInBounds_toArray, List.set_cons_succ, List.set_cons_zero]
                            have hs8 := hb9.size
                            go_wp2_with fail
                            go_meet
                            exact ⟨o_d.below hb9 (by omega), o_t.below hb9 (by omega), o_c.below hb9 (by omega), belowB hbB (by omega) hb9, by omega⟩
                        · skip
                          have pe : ((zp : Int) == (pr : Int)) = false := beq_eq_false_iff_ne.2 (by omega)
                          have pd : ((zp : Int) != (pr : Int)) = true := by rw [bne_iff_ne]; omega
                          clear hp
                          refine wp_reg_f [some 98, some 99, some 100, some 101, some 102, some 103, some 104, some 105] [?v4_0, ?v4_1, ?v4_2, ?v4_3, ?v4_4, ?v4_5, ?v4_6, ?v4_7] [[], [], [0, 1], [2], [3], [], [5], [4, 6]] [(0, _), (8, _), (11, _)] ⟨rfl, rfl, rfl, trivial⟩ rfl (by kernel_rfl) rfl rfl (by kernel_rfl) (by kernel_rfl) ⟨?s4_0, ?s4_1, ?s4_2, ?s4_3, ?s4_4, ?s4_5, ?s4_6, ?s4_7, trivial⟩ ?p4
                          all_goals try (intro t9 w9 hT9 K9 hK9; simp only [OV, FV, List.getD_cons_succ, List.getD_cons_zero, Option.getD_some]; intros)
                          case s4_0 | s4_1 | s4_2 | s4_3 | s4_4 | s4_5 | s4_6 | s4_7 =>
                            have d9_0 := grow_cell hT9 t3; have d9_1 := grow_cell hT9 kp
                            go_simp
                            exact hK9 _ (Grow.refl _)
                          intro w9 hb9
                          simp only [putL, Act.put, List.setIfInBounds_toArray, List.set_cons_succ, List.set_cons_zero]
                          have hs9 := hb9.size
                          go_wp2
                          go_roundg ((zn : Int) - 1 + 1).toNat
                          case measure => omega
                          case rel => exact ⟨(zn : Int) - 1, rfl, by omega, by omega, rfl, o_d.below hb9 (by omega), o_t.below hb9 (by omega), o_c.below hb9 (by omega), belowB hbB (by omega) hb9, by omega⟩
                      · have d1 : decide (0 ≤ z) = false := decide_eq_false hz
                        go_wp2_with fail
                        go_meet
                        exact ⟨o_d, o_t, o_c, hbB, hgw⟩
                  case rest =>
                    clear o_d o_t o_c hbB hgw hBw2
                    obtain ⟨o_d, o_t, o_c, hbB, hgw⟩ := hcut
                    have hBw2 := hbB.size
                    have hjd : j < D'.length := by rw [HD'.out.len]; exact hlt
                    have hxb := HD'.out.each D'[j] (List.getElem_mem hjd)
                    have kd : wc.cell? ⟨(B + 1), j, none⟩ = some (.int .i64 D'[j]) := by rw [o_d.cell]; simp [ci, hjd]
                    have fd := o_d.frozen j
                    obtain ⟨xd, hxd⟩ : ∃ xd, xd = D'[j] := ⟨_, rfl⟩
                    rw [← hxd] at kd hxb
                    clear hxd
                    have z6 : IntKind.i64.wrap (xd + 1) = xd + 1 := IntWalk.i64_in _ (by omega)
                    have o_d3 := o_d.set_ j (.int .i64 (xd + 1))
                    rw [ci_set9] at o_d3
                    have hb3 := hbB.setCell (p := ⟨(B + 1), j, none⟩) (show B ≤ (B + 1) by omega) (.int .i64 (xd + 1))
                    have o_c3 := o_c.far (p := ⟨(B + 1), j, none⟩) (show B ≠ (B + 1) by omega) (.int .i64 (xd + 1))
                    have hsz3 : (wc.setCell ⟨(B + 1), j, none⟩ (.int .i64 (xd + 1))).heap.size = wc.heap.size := by simp [World.setCell]
                    have hgd3 : (B + 1) < (wc.setCell ⟨(B + 1), j, none⟩ (.int .i64 (xd + 1))).heap.size := by rw [hsz3]; omega
                    clear hsz3
                    by_cases hx40 : 40 < xd + 1
                    · have d4 : decide (40 < xd + 1) = true := decide_eq_true hx40
                      clear o_d o_c
                      go_wp2
                      go_ret2
                      exact ⟨RetII.no (by decide), HB.out ▸ hb3⟩
                    · have d4 : decide (40 < xd + 1) = false := decide_eq_false hx40
                      have HD3 : Hid (DepthOK (D'.set j (xd + 1)) l.length) := HD'.out.set (by omega)
                      clear o_d o_c
                      go_wp2
                      go_roundg (l.length + 1 - (j + 1))
                      case measure => omega
                      case rel => exact ⟨j + 1, D'.set j (xd + 1), rfl, by omega, by go_num, HE.out.step hlt HT.out (HBN.out.1 (by trivial)) HW.out.symm HPR.out, HD3, o_d3, hb3, hgd3, o_c3⟩
              · have d1 : decide (z < 0) = false := decide_eq_false (by omega)
                have HPR : Hid (-1 ≤ pr ∧ pr < (j : Int)) := ⟨by omega, by omega⟩
                obtain ⟨pn, hpn⟩ : ∃ pn : Nat, pr = (pn : Int) := ⟨pr.toNat, by omega⟩
                subst hpn
                have hpl : pn < l.length := by omega
                have hpj : pn < j := by omega
                have d2 : decide ((0 : Int) ≤ (pn : Int)) = true := decide_eq_true (by omega)
                clear hc y3 zj
                go_upto_if 65 with (fail)
                go_cut [] (fun wx => ∃ D' : List Int, Hid (DepthOK D' l.length) ∧ Own wx (B + 1) 3 (ci D') ∧ Own wx g 74 [.string nm, .int .i64 l0, .int .i64 h0, .int .i64 (pn : Int)] ∧ Own wx B 30 [a, t, x, r, n, h, s] ∧ Below B w wx ∧ g < wx.heap.size)
                case first =>
                  obtain ⟨b', off', ee, -, v0, v1, v2, v3, -, -, -, -⟩ := NodesO.get (HLF.out _ hbB2) hpl
                  injection ee with ee
                  injection ee with e1 e2
                  subst e1 e2
                  generalize l[pn].1 = p0 at v0
                  generalize l[pn].2.1 = p1 at v1
                  generalize l[pn].2.2.1 = p2 at v2
                  generalize l[pn].2.2.2 = p3 at v3
                  obtain ⟨o_p, hbp⟩ := new1 wc [.string p0, .int .i64 p1, .int .i64 p2, .int .i64 p3] 74
                  have hbB5 := belowB hbB2 (by omega) hbp
                  have o_t5 := o_t.below hbp (by omega)
                  have o_c5 := o_c2.below hbp (by omega)
                  have o_d5 := o_d2.below hbp (by omega)
                  have hgp := o_p.lt
                  go_upto_region 18 with (fail)
                  generalize (wc.alloc (.cells #[.string p0, .int .i64 p1, .int .i64 p2, .int .i64 p3] 74)) = wp at o_p hbB5 o_t5 o_c5 o_d5 hgp ⊢
                  clear v0 v1 v2 v3 t0 t1 t2 t3 o_t o_c2 o_d2 hbp
                  generalize wc.heap.size = gp at o_p hgp hs7 ⊢
                  have p_1 : wp.cell? ⟨gp, 1, none⟩ = some (.int .i64 p1) := o_p.cell 1
                  have p_2 : wp.cell? ⟨gp, 2, none⟩ = some (.int .i64 p2) := o_p.cell 2
                  have t1 : wp.cell? ⟨g, 1, none⟩ = some (.int .i64 l0) := o_t5.cell 1
                  have t2 : wp.cell? ⟨g, 2, none⟩ = some (.int .i64 h0) := o_t5.cell 2
                  have t3 : wp.cell? ⟨g, 3, none⟩ = some (.int .i64 (pn : Int)) := o_t5.cell 3
                  rcases (show l0 < p1 ∨ (p1 ≤ l0 ∧ p2 < h0) ∨ (p1 ≤ l0 ∧ h0 ≤ p2) by omega) with hc | hc | hc
                  · have d3 : decide (l0 < p1) = true := decide_eq_true hc
                    clear hc
                    go_wp2
                    go_ret2
                    exact ⟨RetII.no (by decide), HB.out ▸ hbB5⟩
                  · have d3 : decide (l0 < p1) = false := decide_eq_false (by omega)
                    have d4 : decide (p2 < h0) = true := decide_eq_true hc.2
                    clear hc
                    go_wp2
                    go_ret2
                    exact ⟨RetII.no (by decide), HB.out ▸ hbB5⟩
                  · have d3 : decide (l0 < p1) = false := decide_eq_false (by omega)
                    have d4 : decide (p2 < h0) = false := decide_eq_false (by omega)
                    clear hc
                    have hpd : pn < D.length := by rw [HD.out.len]; exact hpl
                    have hjd : j < D.length := by rw [HD.out.len]; exact hlt
                    have hxb := HD.out.each D[pn] (List.getElem_mem hpd)
                    have kd : wp.cell? ⟨(B + 1), pn, none⟩ = some (.int .i64 D[pn]) := by rw [o_d5.cell]; simp [ci, hpd]
                    have kj : wp.cell? ⟨(B + 1), j, none⟩ = some (.int .i64 D[j]) := by rw [o_d5.cell]; simp [ci, hjd]
                    have fd := o_d5.frozen j
                    generalize D[j] = xj at kj
                    obtain ⟨xd, hxd⟩ : ∃ xd, xd = D[pn] := ⟨_, rfl⟩
                    rw [← hxd] at kd hxb
                    clear hxd
                    have o_d6 := o_d5.set_ j (.int .i64 xd)
                    rw [ci_set9] at o_d6
                    have hb6 := hbB5.setCell (p := ⟨(B + 1), j, none⟩) (show B ≤ (B + 1) by omega) (.int .i64 xd)
                    have o_c6 := o_c5.far (p := ⟨(B + 1), j, none⟩) (show B ≠ (B + 1) by omega) (.int .i64 xd)
                    have o_t6 := o_t5.far (p := ⟨(B + 1), j, none⟩) (show g ≠ (B + 1) by omega) (.int .i64 xd)
                    have HD6 : Hid (DepthOK (D.set j xd) l.length) := HD.out.set (by omega)
                    have hg6 : g < (wp.setCell ⟨(B + 1), j, none⟩ (.int .i64 xd)).heap.size := by simp only [World.setCell, Array.size_modify]; omega
                    clear o_d5 o_c5 o_t5
                    go_wp2_with fail
                    go_meet
                    exact ⟨D.set j xd, HD6, o_d6, o_t6, o_c6, hb6, hg6⟩
                case rest =>
                  clear o_d2 o_t o_c2 hbB2 HD t0 t1 t2 t3
                  obtain ⟨D', HD', o_d, o_t, o_c, hbB, hgw⟩ := hcut
                  have hBw2 := hbB.size
                  have zj : IntKind.i64.wrap ((j : Int) - 1) = (j : Int) - 1 := IntWalk.i64_in _ (by omega)
                  go_upto_block 5 with (fail)
                  go_cut [] (fun wx => Own wx (B + 1) 3 (ci D') ∧ Own wx g 74 [.string nm, .int .i64 l0, .int .i64 h0, .int .i64 (pn : Int)] ∧ Own wx B 30 [a, t, x, r, n, h, s] ∧ Below B w wx ∧ g < wx.heap.size)
                  case first =>
                    go_wp2_with fail
                    go_loopg [11] j (fun q v11 wx => ∃ z : Int, v11 = .int .i64 z ∧ -1 ≤ z ∧ z < (j : Int) ∧ q = (z + 1).toNat ∧ Own wx (B + 1) 3 (ci D') ∧ Own wx g 74 [.string nm, .int .i64 l0, .int .i64 h0, .int .i64 (pn : Int)] ∧ Own wx B 30 [a, t, x, r, n, h, s] ∧ Below B w wx ∧ g < wx.heap.size)
                    case atStart => exact ⟨(j : Int) - 1, rfl, by omega, by omega, by omega, o_d, o_t, o_c, hbB, hgw⟩
                    case round =>
                      clear o_d o_t o_c hbB hgw hBw2
                      obtain ⟨z, rfl, y4, y5, rfl, o_d, o_t, o_c, hbB, hgw⟩ := hrel
                      have hBw2 := hbB.size
                      by_cases hz : 0 ≤ z
                      · have d1 : decide (0 ≤ z) = true := decide_eq_true hz
                        obtain ⟨zn, rfl⟩ : ∃ zn : Nat, z = (zn : Int) := ⟨z.toNat, by omega⟩
                        have hzl : zn < l.length := by omega
                        obtain ⟨b', off', ee, -, -, -, kh, kp, -, -, -, -⟩ := NodesO.get (HLF.out _ hbB) hzl
                        injection ee with ee
                        injection ee with e1 e2
                        subst e1 e2
                        generalize l[zn].2.2.2 = zp at kp
                        generalize l[zn].2.2.1 = zh at kh
                        have t1 : wr.cell? ⟨g, 1, none⟩ = some (.int .i64 l0) := o_t.cell 1
                        have t3 : wr.cell? ⟨g, 3, none⟩ = some (.int .i64 (pn : Int)) := o_t.cell 3
                        have zs : IntKind.i64.wrap ((zn : Int) - 1) = (zn : Int) - 1 := IntWalk.i64_in _ (by omega)
                        go_upto_region 24 with (fail)
                        by_cases hp : zp = (pn : Int)
                        · skip
                          have pe : ((zp : Int) == ((pn : Nat) : Int)) = true := beq_iff_eq.2 (by omega)
                          have pd : ((zp : Int) != ((pn : Nat) : Int)) = false := by rw [bne_eq_false_iff_eq]; omega
                          clear hp
                          refine wp_reg_f [some 98, some 99, some 100, some 101, some 102, some 103, some 104, some 105] [?v5_0, ?v5_1, ?v5_2, ?v5_3, ?v5_4, ?v5_5, ?v5_6, ?v5_7] [[], [], [0, 1], [2], [3], [], [5], [4, 6]] [(0, _), (8, _), (11, _)] ⟨rfl, rfl, rfl, trivial⟩ rfl (by kernel_rfl) rfl rfl (by kernel_rfl) (by kernel_rfl) ⟨?s5_0, ?s5_1, ?s5_2, ?s5_3, ?s5_4, ?s5_5, ?s5_6, ?s5_7, trivial⟩ ?p5
                          all_goals try (intro t9 w9 hT9 K9 hK9; simp only [OV, FV, List.getD_cons_succ, List.getD_cons_zero, Option.getD_some]; intros)
                          case s5_0 | s5_1 | s5_2 | s5_3 | s5_4 | s5_5 | s5_6 | s5_7 =>
                            have d9_0 := grow_cell hT9 t3; have d9_1 := grow_cell hT9 kp
                            go_simp
                            exact hK9 _ (Grow.refl _)
                          intro w9 hb9
                          simp only [putL, Act.put, List.setIfInBounds_toArray, List.set_cons_succ, List.set_cons_zero]
                          replace o_d := o_d.below hb9 (by omega)
                          replace o_t := o_t.below hb9 (by omega)
                          replace o_c := o_c.below hb9 (by omega)
                          replace hbB := belowB hbB (by omega) hb9
                          have hs9 := hb9.size
                          replace kh := below_cell hb9 kh
                          clear hb9 t1 t3 kp
                          have t1 : w9.cell? ⟨g, 1, none⟩ = some (.int .i64 l0) := o_t.cell 1
                          go_upto_region 25 with (fail)
                          by_cases hq : l0 < zh
                          · skip
                            have dq : decide (l0 < zh) = true := decide_eq_true (by omega)
                            clear hq
                            refine wp_reg_f [some 106, some 107, some 108, some 109, some 110, some 111, some 112, some 113] [?v6_0, ?v6_1, ?v6_2, ?v6_3, ?v6_4, ?v6_5, ?v6_6, ?v6_7] [[], [0], [], [], [2, 3], [4], [5], [1, 6]] [(0, _), (8, _), (11, _)] ⟨rfl, rfl, rfl, trivial⟩ rfl (by kernel_rfl) rfl rfl (by kernel_rfl) (by kernel_rfl) ⟨?s6_0, ?s6_1, ?s6_2, ?s6_3, ?s6_4, ?s6_5, ?s6_6, ?s6_7, trivial⟩ ?p6
                            all_goals try (intro t9 w9 hT9 K9 hK9; simp only [OV, FV, List.getD_cons_succ, List.getD_cons_zero, Option.getD_some]; intros)
                            case s6_0 | s6_1 | s6_2 | s6_3 | s6_4 | s6_5 | s6_6 | s6_7 =>
                              have d9_0 := grow_cell hT9 t1; have d9_1 := grow_cell hT9 kh
                              go_simp
                              exact hK9 _ (Grow.refl _)
                            intro w9 hb9
                            simp only [putL, Act.put, List.setIfInBounds_toArray, List.set_cons_succ, List.set_cons_zero]
                            replace hbB := belowB hbB (by omega) hb9
                            go_wp2
                            go_ret2
                            exact ⟨RetII.no (by decide), HB.out ▸ hbB⟩
                          · skip
                            have dq : decide (l0 < zh) = false := decide_eq_false (by omega)
                            clear hq
                            refine wp_reg_f [some 106, some 107, some 108, some 109, some 110, some 111, some 112, some 113] [?v7_0, ?v7_1, ?v7_2, ?v7_3, ?v7_4, ?v7_5, ?v7_6, ?v7_7] [[], [0], [], [], [2, 3], [4], [5], [1, 6]] [(0, _), (8, _), (11, _)] ⟨rfl, rfl, rfl, trivial⟩ rfl (by kernel_rfl) rfl rfl (by kernel_rfl) (by kernel_rfl) ⟨?s7_0, ?s7_1, ?s7_2, ?s7_3, ?s7_4, ?s7_5, ?s7_6, ?s7_7, trivial⟩ ?p7
                            all_goals try (intro t9 w9 hT9 K9 hK9; simp only [OV, FV, List.getD_cons_succ, List.getD_cons_zero, Option.getD_some]; intros)
                            case s7_0 | s7_1 | s7_2 | s7_3 | s7_4 | s7_5 | s7_6 | s7_7 =>
                              have d9_0 := grow_cell hT9 t1; have d9_1 := grow_cell hT9 kh
                              go_simp
                              exact hK9 _ (Grow.refl _)
                            intro w9 hb9
                            simp only [putL, Act.put, List.setIfInBounds_toArray, List.set_cons_succ, List.set_cons_zero]
                            have hs8 := hb9.size
                            go_wp2_with fail
                            go_meet
                            exact ⟨o_d.below hb9 (by omega), o_t.below hb9 (by omega), o_c.below hb9 (by omega), belowB hbB (by omega) hb9, by omega⟩
                        · skip
                          have pe : ((zp : Int) == ((pn : Nat) : Int)) = false := beq_eq_false_iff_ne.2 (by omega)
                          have pd : ((zp : Int) != ((pn : Nat) : Int)) = true := by rw [bne_iff_ne]; omega
                          clear hp
                          refine wp_reg_f [some 98, some 99, some 100, some 101, some 102, some 103, some 104, some 105] [?v8_0, ?v8_1, ?v8_2, ?v8_3, ?v8_4, ?v8_5, ?v8_6, ?v8_7] [[], [], [0, 1], [2], [3], [], [5], [4, 6]] [(0, _), (8, _), (11, _)] ⟨rfl, rfl, rfl, trivial⟩ rfl (by kernel_rfl) rfl rfl (by kernel_rfl) (by kernel_rfl) ⟨?s8_0, ?s8_1, ?s8_2, ?s8_3, ?s8_4, ?s8_5, ?s8_6, ?s8_7, trivial⟩ ?p8
                          all_goals try (intro t9 w9 hT9 K9 hK9; simp only [OV, FV, List.getD_cons_succ, List.getD_cons_zero, Option.getD_some]; intros)
                          case s8_0 | s8_1 | s8_2 | s8_3 | s8_4 | s8_5 | s8_6 | s8_7 =>
                            have d9_0 := grow_cell hT9 t3; have d9_1 := grow_cell hT9 kp
                            go_simp
                            exact hK9 _ (Grow.refl _)
                          intro w9 hb9
                          simp only [putL, Act.put, List.setIfInBounds_toArray, List.set_cons_succ, List.set_cons_zero]
                          have hs9 := hb9.size
                          go_wp2
                          go_roundg ((zn : Int) - 1 + 1).toNat
                          case measure => omega
                          case rel => exact ⟨(zn : Int) - 1, rfl, by omega, by omega, rfl, o_d.below hb9 (by omega), o_t.below hb9 (by omega), o_c.below hb9 (by omega), belowB hbB (by omega) hb9, by omega⟩
                      · have d1 : decide (0 ≤ z) = false := decide_eq_false hz
                        go_wp2_with fail
                        go_meet
                        exact ⟨o_d, o_t, o_c, hbB, hgw⟩
                  case rest =>
                    clear o_d o_t o_c hbB hgw hBw2
                    obtain ⟨o_d, o_t, o_c, hbB, hgw⟩ := hcut
                    have hBw2 := hbB.size
                    have hjd : j < D'.length := by rw [HD'.out.len]; exact hlt
                    have hxb := HD'.out.each D'[j] (List.getElem_mem hjd)
                    have kd : wc.cell? ⟨(B + 1), j, none⟩ = some (.int .i64 D'[j]) := by rw [o_d.cell]; simp [ci, hjd]
                    have fd := o_d.frozen j
                    obtain ⟨xd, hxd⟩ : ∃ xd, xd = D'[j] := ⟨_, rfl⟩
                    rw [← hxd] at kd hxb
                    clear hxd
                    have z6 : IntKind.i64.wrap (xd + 1) = xd + 1 := IntWalk.i64_in _ (by omega)
                    have o_d3 := o_d.set_ j (.int .i64 (xd + 1))
                    rw [ci_set9] at o_d3
                    have hb3 := hbB.setCell (p := ⟨(B + 1), j, none⟩) (show B ≤ (B + 1) by omega) (.int .i64 (xd + 1))
                    have o_c3 := o_c.far (p := ⟨(B + 1), j, none⟩) (show B ≠ (B + 1) by omega) (.int .i64 (xd + 1))
                    have hsz3 : (wc.setCell ⟨(B + 1), j, none⟩ (.int .i64 (xd + 1))).heap.size = wc.heap.size := by simp [World.setCell]
                    have hgd3 : (B + 1) < (wc.setCell ⟨(B + 1), j, none⟩ (.int .i64 (xd + 1))).heap.size := by rw [hsz3]; omega
                    clear hsz3
                    by_cases hx40 : 40 < xd + 1
                    · have d4 : decide (40 < xd + 1) = true := decide_eq_true hx40
                      clear o_d o_c
                      go_wp2
                      go_ret2
                      exact ⟨RetII.no (by decide), HB.out ▸ hb3⟩
                    · have d4 : decide (40 < xd + 1) = false := decide_eq_false hx40
                      have HD3 : Hid (DepthOK (D'.set j (xd + 1)) l.length) := HD'.out.set (by omega)
                      clear o_d o_c
                      go_wp2
                      go_roundg (l.length + 1 - (j + 1))
                      case measure => omega
                      case rel => exact ⟨j + 1, D'.set j (xd + 1), rfl, by omega, by go_num, HE.out.step hlt HT.out (HBN.out.1 (by trivial)) HW.out.symm HPR.out, HD3, o_d3, hb3, hgd3, o_c3⟩
      · go_wp2
        go_ret2
        exact ⟨RetII.yes ⟨by omega, (show j = l.length by omega) ▸ HE.out⟩, HB.out ▸ hbB⟩
end Go.Proofs.YtfenjklilocjgaaGreatDoor
