/- Texts as numbers of an int: ToInt of both. -/
import Derived.Test.YtofijnhkoadfjaaDoorIt
import Derived.Test.YtofijnhkoadfjaaDoorAi
import Derived.Lib.AtoiAllMem
namespace Go.Proofs.YtofijnhkoadfjaaDoor
set_option linter.unusedSimpArgs false
set_option linter.unusedVariables false
set_option linter.unusedSectionVars false
open Go.RowKit Dg

/-- A variable of the library's that holds an error, or none. -/
def ErrCell (g : Nat) (w : World) : Prop := ∃ ev, w.cell? ⟨g, 0, none⟩ = some ev ∧ (ev = .nilIface ∨ ∃ te pe, ev = .iface te pe)
theorem ErrCell.below {g : Nat} {w w' : World} (h : ErrCell g w) (hb : Below w.heap.size w w') : ErrCell g w' := by
  obtain ⟨ev, h1, h2⟩ := h
  exact ⟨ev, below_cell hb h1, h2⟩
theorem iface_cells {H : Type} {enc : TypeId × Value → H} {P : Program} {w : World} {base : Nat} {sp : Nat → Bool} {held : Bool} {fuel : Nat} {t : TypeId} {ms : Array (String × TypeId)} {cs : List Value} {x : DataW H × List MemPlace} (hi : P.underlying t = some (.interface ms))
    (h : DataW.trod enc P w base sp held fuel t cs = some x) : cs = [.nilIface] ∨ ∃ u v, cs = [.iface u v] := by
  cases fuel with
  | zero => simp [DataW.trod] at h
  | succ n =>
    rcases cs with _ | ⟨a, _ | ⟨b, l⟩⟩
    · simp [DataW.trod, hi] at h
    · cases a <;> first | exact .inl rfl | exact .inr ⟨_, _, rfl⟩ | simp [DataW.trod, hi] at h
    · simp [DataW.trod, hi] at h
theorem err_of_head {W : World} {name : String} {d : DataW Unit} {rest : List (String × DataW Unit)} {ps : List MemPlace} {g : Nat} {t : TypeId} {ms : Array (String × TypeId)}
    (hg : Tryd.prog.globalNamed name = some g) (hty : (Tryd.prog.globals[g]?).map (·.type) = some t) (hi : Tryd.prog.underlying t = some (.interface ms)) (h : DataW.LaidVars Tryd.prog W ((name, d) :: rest) ps) : ErrCell g W := by
  obtain ⟨g', t', cs, fuel, p, q, hg', ht', hvar, hd, _, _⟩ := h
  obtain rfl := Option.some.inj (hg.symm.trans hg')
  obtain rfl := Option.some.inj (hty.symm.trans ht')
  have h0 := World.var?_cell hg hvar 0
  obtain ⟨l⟩ := cs
  rcases iface_cells hi hd with e | ⟨u, v, e⟩
  · simp only at e
    subst e
    exact ⟨_, h0, .inl rfl⟩
  · simp only at e
    subst e
    exact ⟨_, h0, .inr ⟨u, v, rfl⟩⟩
theorem toint_ok (n : Nat) (h : n ≤ 4611686018427387904) (w : World) : Calls Tryd.prog 16 #[.string (S n)] w fun e w' => e = .returned (.tuple #[.int .i64 (n : Int), .bool true]) ∧ Below w.heap.size w w' := by
  have hd : (dec n).length ≤ 19 := dec_len_le (by decide) (by omega)
  have HV := Lib.hid (vld_S (n := n) (by omega))
  have HA : Hid (∀ w, Calls Tryd.prog 40 #[.string (S n)] w fun e w' => e = .returned (.tuple #[.int .i64 (n : Int), .nilIface]) ∧ Below w.heap.size w w') := fun w => (Tryd.strconv_Atoi_ok (S n) (by rw [S_size]; omega) (n : Int) (by rw [atoi_S, if_pos (by omega)]) w).mono fun e w' ⟨h1, h2⟩ => by
    refine ⟨h1, ?_⟩
    rcases h2 with rfl | ⟨t, rfl⟩
    · exact Below.refl _ _
    · exact Lib.bytesWorld_below _ _ _
  have d1 : decide ((4611686018427387904 : Int) < (n : Int)) = false := decide_eq_false (by omega)
  have d2 : decide (4611686018427387904 < n) = false := decide_eq_false (by omega)
  clear h hd
  generalize S n = s at *
  generalize hz : (n : Int) = z at *
  clear hz
  go_enter Tryd.func16, Tryd.ntmps16
  go_wp2_with fail
  refine (valid_yes _ HV.out).mono ?_
  rintro e w1 ⟨rfl, rfl⟩
  go_wp2_with fail
  refine (HA.out _).mono ?_
  rintro e w2 ⟨rfl, hb⟩
  go_wp2
  go_ret2
  exact ⟨rfl, hb⟩
theorem toint_no (s : ByteArray) (hs : s.size ≤ maxLen) (h : ¬ VLD s) (w : World) : Calls Tryd.prog 16 #[.string s] w fun e w' => e = .returned (.tuple #[.int .i64 0, .bool false]) ∧ Below w.heap.size w w' := by
  have HV := Lib.hid (fun w => valid_no w hs h)
  clear hs h
  go_enter Tryd.func16, Tryd.ntmps16
  go_wp2_with fail
  refine (HV.out _).mono ?_
  rintro e w1 ⟨rfl, rfl⟩
  go_wp2
  go_ret2
  exact ⟨rfl, Below.refl _ _⟩
theorem toint_big (n : Nat) (hn : OkN n) (h : 4611686018427387904 < n) (w : World) (h0 : ErrCell 2 w) : Calls Tryd.prog 16 #[.string (S n)] w fun e w' => e = .returned (.tuple #[.int .i64 0, .bool false]) ∧ Below w.heap.size w w' := by
  have HV := Lib.hid (hn.vld)
  by_cases h1 : n < 9223372036854775808
  · have HA : Hid (∀ w, Calls Tryd.prog 40 #[.string (S n)] w fun e w' => e = .returned (.tuple #[.int .i64 (n : Int), .nilIface]) ∧ Below w.heap.size w w') := fun w => (Tryd.strconv_Atoi_ok (S n) (by rw [S_size]; unfold OkN at hn; omega) (n : Int) (by rw [atoi_S, if_pos h1]) w).mono fun e w' ⟨h1, h2⟩ => by
      refine ⟨h1, ?_⟩
      rcases h2 with rfl | ⟨t, rfl⟩
      · exact Below.refl _ _
      · exact Lib.bytesWorld_below _ _ _
    have d1 : decide ((4611686018427387904 : Int) < (n : Int)) = true := decide_eq_true (by omega)
    have d2 : decide (4611686018427387904 < n) = true := decide_eq_true (by omega)
    clear h h1 h0 hn
    generalize S n = s at *
    generalize hz : (n : Int) = z at *
    clear hz
    go_enter Tryd.func16, Tryd.ntmps16
    go_wp2_with fail
    refine (valid_yes _ HV.out).mono ?_
    rintro e w1 ⟨rfl, rfl⟩
    go_wp2_with fail
    refine (HA.out _).mono ?_
    rintro e w2 ⟨rfl, hb⟩
    go_wp2
    go_ret2
    exact ⟨rfl, hb⟩
  · have HA : Hid (Calls Tryd.prog 40 #[.string (S n)] w fun e w' => ∃ (z : Int) (T : TypeId) (N : Nat), e = .returned (.tuple #[.int .i64 z, .iface T (.pointer (some ⟨N, 0, none⟩))]) ∧ Below w.heap.size w w') := by
      obtain ⟨ev, hv, hev⟩ := h0
      refine (Tryd.strconv_Atoi_range (S n) (by rw [S_size]; unfold OkN at hn; omega) (by rw [atoi_S, if_neg h1]) ev w hv hev).mono ?_
      rintro e w' ⟨N, h1, -, -, h2⟩
      exact ⟨_, _, N, h1, h2⟩
    clear h h1 h0 hn
    generalize S n = s at *
    go_enter Tryd.func16, Tryd.ntmps16
    go_wp2_with fail
    refine (valid_yes _ HV.out).mono ?_
    rintro e w1 ⟨rfl, rfl⟩
    go_wp2_with fail
    refine HA.out.mono ?_
    rintro e w2 ⟨z, T, N, rfl, hb⟩
    go_wp2
    go_ret2
    exact ⟨rfl, hb⟩
theorem num_take_lt {L : List Nat} (hd : ∀ d ∈ L, d < 10) {k : Nat} (hk : k ≤ 18) : num (L.take k) < 1000000000000000000 := by
  have h1 := num_lt (l := L.take k) fun d h => hd d (List.mem_of_mem_take h)
  have h2 : 10 ^ (L.take k).length ≤ 10 ^ 18 := Nat.pow_le_pow_right (by decide) (by rw [List.length_take]; omega)
  omega
theorem num_take_succ' {L : List Nat} {k : Nat} (h : k < L.length) : num (L.take (k + 1)) = 10 * num (L.take k) + L[k] := by
  rw [List.take_succ_eq_append_getElem h, num_snoc]
set_option maxHeartbeats 1000000 in
theorem tointr_any (n : Nat) (hn : OkN n) (z : Int) (b : Bool) (hyes : n ≤ 4611686018427387904 → (n : Int) = z ∧ true = b) (hnot : ¬ n ≤ 4611686018427387904 → 0 = z ∧ false = b) (w : World) : Calls Tryd.prog 17 #[.string (S n)] w fun e w' => e = .returned (.tuple #[.int .i64 z, .bool b]) ∧ Below w.heap.size w w' := by
  have HY := Lib.hid hyes
  have HNO := Lib.hid hnot
  clear hyes hnot
  have HV := Lib.hid (hn.vld)
  obtain ⟨L, hL⟩ : ∃ L, dec n = L := ⟨_, rfl⟩
  have HS : Hid ((S n).data.toList = asc L) := by show _ = _; rw [S_list, hL]
  have HD : Hid (∀ d ∈ L, d < 10) := by show ∀ d ∈ L, d < 10; rw [← hL]; exact dec_dig n
  have HN : Hid (num L = n) := by show _ = _; rw [← hL]; exact num_dec n
  have hsz : (S n).size = L.length := by rw [S_size, hL]
  have hlt : L.length ≤ 20000 := by rw [← hL]; exact hn
  have HLL : Hid (19 < L.length → 4611686018427387904 < n) := by
    intro h
    rw [← hL] at h
    have hn0 : 0 < n := by
      rcases Nat.eq_zero_or_pos n with rfl | h0
      · have : (dec 0).length ≤ 1 := dec_len_le (by decide) (by decide)
        omega
      · exact h0
    have h1 := dg_ge b10 hn0
    have h2 : (dg 10 n).length = (dec n).length := by unfold dec; rw [if_neg (by omega)]; simp
    rw [h2] at h1
    have h3 : 10 ^ 19 ≤ 10 ^ ((dec n).length - 1) := Nat.pow_le_pow_right (by decide) (by omega)
    omega
  obtain ⟨s, hs⟩ : ∃ s, S n = s := ⟨_, rfl⟩
  rw [hs] at HS HV hsz ⊢
  clear hs hL hn
  by_cases h19 : 19 < L.length
  · obtain ⟨rfl, rfl⟩ := HNO.out (by have := HLL.out h19; omega)
    clear HY HNO
    have d1 : decide ((19 : Int) < (s.size : Int)) = true := decide_eq_true (by omega)
    have d2 : decide (19 < s.size) = true := decide_eq_true (by omega)
    clear h19 hlt hsz
    go_enter Tryd.func17, Tryd.ntmps17
    go_wp2_with fail
    refine (validr_yes _ HV.out).mono ?_
    rintro e w1 ⟨rfl, rfl⟩
    go_wp2
    go_ret2
    exact ⟨rfl, Below.refl _ _⟩
  · have d1 : decide ((19 : Int) < (s.size : Int)) = false := decide_eq_false (by omega)
    have d2 : decide (19 < s.size) = false := decide_eq_false (by omega)
    go_enter Tryd.func17, Tryd.ntmps17
    go_wp2_with fail
    refine (validr_yes _ HV.out).mono ?_
    rintro e w1 ⟨rfl, rfl⟩
    go_wp2_with fail
    go_loop [4, 5] (fun v4 v5 => ∃ k : Nat, k ≤ s.size ∧ v5 = .int .i64 (k : Int) ∧ v4 = .int .u64 ((num (L.take k) : Nat) : Int)) (fun _ v5 => s.size - (intOf v5).toNat)
    case atStart => exact ⟨0, Nat.zero_le _, rfl, rfl⟩
    case round =>
      obtain ⟨k, hk, rfl, rfl⟩ := hrel
      by_cases hlk : k < s.size
      · have hkL : k < L.length := by omega
        have hdig := HD.out _ (List.getElem_mem hkL)
        have hci : (((s[k]'hlk).toNat : Nat) : Int) = 48 + ((L[k] : Nat) : Int) := by
          rw [bget HS.out HD.out hlk hkL]; omega
        have HT : Hid (num (L.take (k + 1)) = 10 * num (L.take k) + L[k]) := num_take_succ' hkL
        have hX := num_take_lt HD.out (k := k) (by omega)
        generalize num (L.take k) = X at *
        generalize L[k] = d at *
        have zm : IntKind.u64.wrap (10 * (X : Int)) = 10 * (X : Int) := IntWalk.u64_in _ (by omega)
        have za : IntKind.u64.wrap (10 * (X : Int) + (d : Int)) = 10 * (X : Int) + (d : Int) := IntWalk.u64_in _ (by omega)
        have ZA := Lib.hid za
        clear hX
        go_wp2_with fail
        go_round
        case rel => exact ⟨k + 1, by omega, by go_num, by rw [HT.out, show (48 : Int) + (d : Int) - 48 = (d : Int) by omega, ZA.out]; go_num⟩
        case measure => simp [intOf]; omega
      · have hkk : L.take k = L := List.take_of_length_le (by omega)
        rw [hkk, HN.out]
        clear hkk d1 d2 h19 hlt HLL
        by_cases hb : n ≤ 4611686018427387904
        · have e1 : decide ((4611686018427387904 : Int) < (n : Int)) = false := decide_eq_false (by omega)
          have e2 : decide (4611686018427387904 < n) = false := decide_eq_false (by omega)
          have zi : IntKind.i64.wrap (n : Int) = (n : Int) := IntWalk.i64_in _ (by omega)
          obtain ⟨rfl, rfl⟩ := HY.out hb
          clear hb HY HNO
          go_wp2
          go_ret2
          exact ⟨rfl, Below.refl _ _⟩
        · have e1 : decide ((4611686018427387904 : Int) < (n : Int)) = true := decide_eq_true (by omega)
          have e2 : decide (4611686018427387904 < n) = true := decide_eq_true (by omega)
          obtain ⟨rfl, rfl⟩ := HNO.out hb
          clear hb HY HNO
          go_wp2
          go_ret2
          exact ⟨rfl, Below.refl _ _⟩
theorem tointr_no (s : ByteArray) (hs : s.size ≤ maxLen) (h : ¬ VLD s) (w : World) : Calls Tryd.prog 17 #[.string s] w fun e w' => e = .returned (.tuple #[.int .i64 0, .bool false]) ∧ Below w.heap.size w w' := by
  have HV := Lib.hid (fun w => validr_no w hs h)
  clear hs h
  go_enter Tryd.func17, Tryd.ntmps17
  go_wp2_with fail
  refine (HV.out _).mono ?_
  rintro e w1 ⟨rfl, rfl⟩
  go_wp2
  go_ret2
  exact ⟨rfl, Below.refl _ _⟩
end Go.Proofs.YtofijnhkoadfjaaDoor
