/- Parts of the proof: Xe, Xf. No condition of its own. -/
import Derived.Test.YtfenjklilocjgaaGreatDoorXb
import Derived.Laws.CopyOwn
import Derived.Laws.MakeOwn
import Derived.Laws.OwnMore
set_option linter.unusedSimpArgs false
set_option linter.unusedVariables false
set_option linter.unusedSectionVars false
namespace Go.Proofs.YtfenjklilocjgaaGreatDoor
set_option linter.unusedSimpArgs false
set_option linter.unusedVariables false
set_option linter.unusedSectionVars false
open Go.RowKit

def u8b (x : Nat) : UInt8 := UInt8.ofNat (x % 256)
def u8o (x : Nat) : UInt8 := UInt8.ofNat (x % 256 ||| 128)
def uv (x : Nat) : List UInt8 := if 128 ≤ x then u8o x :: uv (x / 128) else [u8b x]
termination_by x
decreasing_by omega
theorem u8b_wrap (x : Nat) : IntKind.u8.wrap (x : Int) = ((u8b x).toNat : Int) := by
  rw [IntKind.wrap_u8', u8b, UInt8.toNat_ofNat']
  omega
theorem u8b_nat (x : Nat) : (u8b x).toNat = x % 256 := by
  rw [u8b, UInt8.toNat_ofNat']
  omega
theorem u8o_bits (x : Nat) : bits .or .u8 ((u8b x).toNat : Int) 128 = ((u8o x).toNat : Int) := by
  have h1 : x % 256 < 256 := Nat.mod_lt _ (by decide)
  have := u8_or_nat (x % 256) 128 h1 (by decide)
  rw [u8b_nat]
  refine this.trans ?_
  have h2 : x % 256 ||| 128 < 2 ^ 8 := Nat.or_lt_two_pow h1 (by decide)
  rw [u8o, UInt8.toNat_ofNat', Nat.mod_eq_of_lt h2]
theorem uv_len : ∀ (k x : Nat), x < 128 ^ (k + 1) → (uv x).length ≤ k + 1 := by
  intro k
  induction k with
  | zero => intro x h; rw [uv, if_neg (by omega)]; simp
  | succ k ih =>
    intro x h
    rw [uv]
    split
    · have := ih (x / 128) (by rw [Nat.pow_succ] at h; exact Nat.div_lt_of_lt_mul (by rw [Nat.mul_comm]; exact h))
      simp only [List.length_cons]; omega
    · simp
theorem uv_pos (x : Nat) : 0 < (uv x).length := by
  rw [uv]; split <;> simp
theorem one_u8c (l : List UInt8) : ∀ u ∈ u8c l, u.oneCell' = true := by
  intro u hu
  obtain ⟨b, -, rfl⟩ := List.mem_map.1 hu
  rfl
theorem u8c_len (l : List UInt8) : (u8c l).length = l.length := List.length_map _
theorem u8_parts : ∃ i, Tryz.prog.info? 5 = some i ∧ i.zero = some (.int .u8 0) ∧ i.size = 1 ∧ i.bytes = 1 := by
  have := u8_info
  cases h : Tryz.prog.info? 5 with
  | none => rw [h] at this; cases this
  | some i =>
    rw [h] at this
    obtain ⟨h0, h⟩ := Prod.mk.inj (Option.some.inj this)
    obtain ⟨h1, h2⟩ := Prod.mk.inj h
    exact ⟨i, rfl, h0, h1, h2⟩
theorem u8_size : (Tryz.prog.info? 5).map (·.size) = some 1 := by
  obtain ⟨i, h, -, h1, -⟩ := u8_parts
  rw [h, Option.map_some, h1]
theorem mk_u8 (n : Nat) (hn : n ≤ 1000000000) (w : World) : (Instr.makeSlice 39 (.int .i64 (n : Int)) (.int .i64 ((n : Int) + 10))).run Tryz.prog w = .ok (.slice (some ⟨w.heap.size, 0, none⟩) n (n + 10)) (w.alloc (.cells (List.replicate (n + 10) (Value.int .u8 0)).toArray 5)) := by
  obtain ⟨i, h, h0, h1, h2⟩ := u8_parts
  have hr := run_make (P := Tryz.prog) w 39 5 i _ Tryz.underlying39 h h0 .i64 .i64 (n : Int) ((n : Int) + 10) (by omega) (by omega) (by rw [h2]; omega) (by omega)
  rw [hr]
  have e1 : ((n : Int) + 10).toNat = n + 10 := by omega
  have e2 : (madeCells (Value.int .u8 0).cells (((n : Int) + 10).toNat * i.size)) = (List.replicate (n + 10) (Value.int .u8 0)).toArray := by
    rw [e1, h1, Nat.mul_one]
    have := toList_madeCells_one (.int .u8 0) (n + 10)
    rw [← this]
    rfl
  rw [e2, e1, Int.toNat_natCast]
theorem cells_u8 (w : World) (v : Value) (t : TypeId) : ∀ j u, [v][j]? = some u → (w.alloc (.cells #[v] t)).cell? ((⟨w.heap.size, 0, none⟩ : Addr).add j) = some u := by
  intro j u hj
  have := (new1 w [v] t).1.cell j
  rw [Addr.add_lit, Nat.zero_add]
  exact this.trans hj
set_option maxRecDepth 100000 in
set_option maxHeartbeats 2000000 in
theorem put_any (A : Option Addr) (l : List UInt8) (c x : Nat) (hc : l.length ≤ c) (hm : c ≤ maxLen) (hx : x < 18446744073709551616) (hm2 : l.length ≤ 1000000000) (w : World) (h : Rd w A (u8c l)) :
    Calls Tryz.prog 19 #[.slice A l.length c, .int .u64 (x : Int)] w fun e w' => ∃ v, e = .returned v ∧ w'.ownsRow w.heap.size 5 1 v (l.length + (uv x).length) (u8c (l ++ uv x)) ∧ Below w.heap.size w w' := by
  have HR := Lib.hid h
  clear h
  have hlen := uv_len 9 x (Nat.lt_of_lt_of_le hx (by decide))
  have HL := Lib.hid hlen
  clear hlen
  have hmk := mk_u8 l.length hm2 w
  obtain ⟨i0, hi0, hy0, hy1, hy2⟩ := u8_parts
  go_enter Tryz.func19, Tryz.ntmps19
  have HFI : Hid (0 + (u8c l).length ≤ (List.replicate (l.length + 10) (Value.int .u8 0)).length) := by
    show _ ≤ _
    rw [u8c_len, List.length_replicate]; omega
  have HN : Hid ((u8c l).length = Nat.min l.length l.length) := by
    show _ = _
    rw [u8c_len]; exact (Nat.min_self _).symm
  obtain ⟨w1, hw1⟩ : ∃ x, x = w.alloc (.cells (Array.replicate (l.length + 10) (Value.int .u8 0)) 5) := ⟨_, rfl⟩
  have e1 : w1 = w.alloc (.cells (List.replicate (l.length + 10) (Value.int .u8 0)).toArray 5) := by rw [hw1]; simp
  obtain ⟨o_1, hb1⟩ := new1 w (List.replicate (l.length + 10) (Value.int .u8 0)) 5
  rw [← e1] at o_1 hb1 hmk
  have HOW : Hid (w1.heap[w.heap.size]? = some (.cells (List.replicate (l.length + 10) (Value.int .u8 0)).toArray 5 (0, 0))) := o_1
  have HPO : Hid (0 < (u8c l).length → (some (⟨w.heap.size, 0, none⟩ : Addr)) = some ⟨w.heap.size, 0, none⟩ ∧ ∃ ad, A = some ad ∧ ∀ j v, (u8c l)[j]? = some v → w1.cell? (ad.add j) = some v) := by
    intro hp
    obtain ⟨b, off, rfl, -⟩ := HR.out 0 _ (List.getElem?_eq_getElem hp)
    exact ⟨rfl, _, rfl, rd_add (HR.out.below hb1)⟩
  clear hw1 e1 o_1
  go_wp2_with (refine wpList_copy_splice rfl (.tmp 12) (.tmp 13) _ _ (by rfl) 5 Tryz.underlying39 u8_size (some ⟨w.heap.size, 0, none⟩) A l.length (l.length + 10) l.length c (by rfl) (by rfl) w.heap.size 0 (List.replicate (l.length + 10) (Value.int .u8 0)) 5 ?hg (u8c l) ?hn ?hpos ?hfit (one_u8c l) w.heap.size w hb1 (Nat.le_refl _) ?_)
  case hg => exact HOW.out
  case hn => exact u8c_len l
  case hpos => simpa using HPO.out
  case hfit => rw [u8c_len]; omega
  intro w2 HG hb2
  have HR0 : Hid (w2.ownsRow w.heap.size 5 1 (.slice (some ⟨w.heap.size, 0, none⟩) l.length (l.length + 10)) l.length (u8c l)) := by
    refine ⟨by rw [u8c_len, Nat.mul_one], .inr ⟨w.heap.size, l.length + 10, _, rfl, Nat.le_refl _, HG.out, by omega, by unfold maxLen; omega, ?_, ?_⟩⟩
    · rw [List.size_toArray, length_splice _ _ _ (by rw [u8c_len, List.length_replicate]; omega), List.length_replicate, Nat.mul_one]
    · simp only [splice, List.take_zero, List.nil_append]
      rw [Nat.mul_one, ← u8c_len l]
      exact List.take_left
  generalize (Value.slice (some ⟨w.heap.size, 0, none⟩) l.length (l.length + 10)) = v0 at HR0 ⊢
  obtain ⟨B, hB⟩ : ∃ B, B = w.heap.size := ⟨_, rfl⟩
  rw [← hB] at HR0 hb2
  have HB := Lib.hid hB
  clear HPO HN HFI HOW HG hmk hb1
  clear hB
  go_wp2_with fail
  go_loopg [1, 5] (x + 1) (fun q v1 v5 wr => ∃ (y : Nat) (p : List UInt8), q = y + 1 ∧ y ≤ x ∧ v1 = .int .u64 (y : Int) ∧ Hid (p ++ uv y = uv x) ∧ Hid (wr.ownsRow B 5 1 v5 (l.length + p.length) (u8c (l ++ p))) ∧ Below B w wr)
  case atStart => exact ⟨x, [], rfl, Nat.le_refl _, rfl, rfl, (show _ by rw [List.append_nil]; exact HR0.out), hb2⟩
  case round =>
    obtain ⟨y, p, rfl, hy, rfl, HP, HO, hb⟩ := hrel
    have hpl : p.length + (uv y).length = (uv x).length := by rw [← HP.out, List.length_append]
    have hup := uv_pos y
    have hl10 := HL.out
    have zw := u8b_wrap y
    have zo := u8o_bits y
    have hBs : B ≤ wr.heap.size := by have := hb.size; rw [HB.out]; exact this
    have hpm : p.length + 1 ≤ 10 := by omega
    clear hpl hup hl10
    have h63 : l.length + p.length + 1 ≤ maxLen := by unfold maxLen; omega
    by_cases hlt : 128 ≤ y
    · have HP2 : Hid ((p ++ [u8o y]) ++ uv (y / 128) = uv x) := by
        show _ = _
        rw [← HP.out, List.append_assoc]
        conv => rhs; rw [uv, if_pos hlt]
        rfl
      clear HP
      go_wp2_with (at_builtin; refine wpList_append_own_at _ rfl (.tmp 17) (.tmp 21) 39 rfl B 5 i0 _ 1 1 Tryz.underlying39 hi0 hy0 hy1 hy2 rfl (by decide) _ (l.length + p.length) (u8c (l ++ p)) rfl (HO.out.alloc _) ⟨wr.heap.size, 0, none⟩ 1 1 [.int .u8 ((u8o y).toNat : Int)] rfl rfl (cells_u8 _ _ _) (by simp [Value.oneCell']) h63 (by omega) (by rw [size1]; omega) ?_)
      intro v' w' hown' hgrow _ _
      have hb3 := (hb.alloc hBs (.cells #[.int .u8 ((u8o y).toNat : Int)] 5)).grown hgrow (by rw [size1]; omega) (own_lt HO.out)
      have HO2 : Hid (w'.ownsRow B 5 1 v' (l.length + (p ++ [u8o y]).length) (u8c (l ++ (p ++ [u8o y])))) := by
        have e : u8c (l ++ (p ++ [u8o y])) = u8c (l ++ p) ++ [.int .u8 ((u8o y).toNat : Int)] := by simp [u8c]
        show World.ownsRow _ _ _ _ _ _ _
        rw [e, List.length_append, List.length_singleton, ← Nat.add_assoc]
        exact hown'
      clear hgrow hown' HO
      go_wp2_with fail
      go_roundg (y / 128 + 1)
      case measure => omega
      case rel => exact ⟨y / 128, p ++ [u8o y], rfl, by omega, by go_num, HP2, HO2, hb3⟩
    · have HP2 : Hid (p ++ [u8b y] = uv x) := by
        show _ = _
        rw [← HP.out]
        conv => rhs; rw [uv, if_neg hlt]
      clear HP
      go_wp2_with (at_builtin; refine wpList_append_own_at _ rfl (.tmp 25) (.tmp 28) 39 rfl B 5 i0 _ 1 1 Tryz.underlying39 hi0 hy0 hy1 hy2 rfl (by decide) _ (l.length + p.length) (u8c (l ++ p)) rfl (HO.out.alloc _) ⟨wr.heap.size, 0, none⟩ 1 1 [.int .u8 ((u8b y).toNat : Int)] rfl rfl (cells_u8 _ _ _) (by simp [Value.oneCell']) h63 (by omega) (by rw [size1]; omega) ?_)
      intro v' w' hown' hgrow _ _
      have hb3 := (hb.alloc hBs (.cells #[.int .u8 ((u8b y).toNat : Int)] 5)).grown hgrow (by rw [size1]; omega) (own_lt HO.out)
      have HO2 : Hid (w'.ownsRow B 5 1 v' (l.length + (uv x).length) (u8c (l ++ uv x))) := by
        have e : u8c (l ++ uv x) = u8c (l ++ p) ++ [.int .u8 ((u8b y).toNat : Int)] := by rw [← HP2.out]; simp [u8c]
        show World.ownsRow _ _ _ _ _ _ _
        rw [e, ← HP2.out, List.length_append, List.length_singleton, ← Nat.add_assoc]
        exact hown'
      clear hgrow hown' HO
      go_wp2
      go_ret
      exact ⟨_, rfl, HB.out ▸ HO2.out, HB.out ▸ hb3⟩
set_option linter.unusedSimpArgs false
set_option linter.unusedVariables false
set_option linter.unusedSectionVars false
open Go.RowKit

/-- How far two texts go together, from byte k on. -/
def com (a b : ByteArray) (k : Nat) : Nat := if h : k < a.size ∧ k < b.size then (if (a[k]'h.1) = (b[k]'h.2) then com a b (k + 1) else k) else k
termination_by a.size - k
decreasing_by omega
theorem com_le (a b : ByteArray) : ∀ (n k : Nat), a.size - k = n → k ≤ a.size → k ≤ b.size → com a b k ≤ a.size ∧ com a b k ≤ b.size := by
  intro n
  induction n with
  | zero => intro k h h1 h2; rw [com, dif_neg (by omega)]; exact ⟨h1, h2⟩
  | succ n ih =>
    intro k h h1 h2
    rw [com]
    split
    · rename_i hk
      split
      · exact ih (k + 1) (by omega) (by omega) (by omega)
      · exact ⟨h1, h2⟩
    · exact ⟨h1, h2⟩
set_option maxRecDepth 100000 in
set_option maxHeartbeats 2000000 in
theorem common_any (a b : ByteArray) (ha : a.size ≤ 1000000000) (hb : b.size ≤ 1000000000) (w : World) :
    Calls Tryz.prog 20 #[.string a, .string b] w fun e w' => e = .returned (.int .i64 (com a b 0 : Int)) ∧ Below w.heap.size w w' := by
  go_enter Tryz.func20, Tryz.ntmps20
  go_wp2_with fail
  go_loopg [5] (a.size + 1) (fun q v5 wr => ∃ i : Nat, q = a.size + 1 - i ∧ i ≤ a.size ∧ i ≤ b.size ∧ v5 = .int .i64 (i : Int) ∧ Hid (com a b i = com a b 0) ∧ Below w.heap.size w wr)
  case atStart => exact ⟨0, rfl, Nat.zero_le _, Nat.zero_le _, rfl, rfl, Below.refl _ _⟩
  case round =>
    obtain ⟨i, rfl, hi1, hi2, rfl, HC, hg⟩ := hrel
    by_cases h1 : i < a.size
    · have d1 : decide ((i : Int) < (a.size : Int)) = true := decide_eq_true (by omega)
      by_cases h2 : i < b.size
      · have d2 : decide ((i : Int) < (b.size : Int)) = true := decide_eq_true (by omega)
        by_cases h3 : a[i] = b[i]
        · have d3 : ((a[i].toNat : Int) == (b[i].toNat : Int)) = true := by rw [h3]; exact beq_self_eq_true _
          go_upto_region 2 with (fail)
          refine wp_reg_f [some 6, some 7, some 8, some 9, some 10, some 11, some 12, some 13, some 14, some 15, some 16, some 17, some 18, some 19, some 20, some 21, some 22, some 23, some 24] [?v1_0, ?v1_1, ?v1_2, ?v1_3, ?v1_4, ?v1_5, ?v1_6, ?v1_7, ?v1_8, ?v1_9, ?v1_10, ?v1_11, ?v1_12, ?v1_13, ?v1_14, ?v1_15, ?v1_16, ?v1_17, ?v1_18] [[], [], [1], [0, 2], [3], [4], [4], [4, 6], [4, 5, 7], [4, 8], [9], [10], [10], [10, 11, 12], [10], [10], [10, 14, 15], [10, 13, 16], [10, 17]] [(0, _), (1, _), (5, _)] ⟨rfl, rfl, rfl, trivial⟩ rfl (by kernel_rfl) rfl rfl (by kernel_rfl) (by kernel_rfl) ⟨?s1_0, ?s1_1, ?s1_2, ?s1_3, ?s1_4, ?s1_5, ?s1_6, ?s1_7, ?s1_8, ?s1_9, ?s1_10, ?s1_11, ?s1_12, ?s1_13, ?s1_14, ?s1_15, ?s1_16, ?s1_17, ?s1_18, trivial⟩ ?p1
          all_goals try (intro t9 w9 hT9 K9 hK9; simp only [OV, FV, List.getD_cons_succ, List.getD_cons_zero, Option.getD_some]; intros)
          case s1_0 | s1_1 | s1_2 | s1_3 | s1_4 | s1_5 | s1_6 | s1_7 | s1_8 | s1_9 | s1_10 | s1_11 | s1_12 | s1_13 | s1_14 | s1_15 | s1_16 | s1_17 | s1_18 =>
            go_simp
            exact hK9 _ (Grow.refl _)
          intro w9 hb9
          simp only [putL, Act.put, List.setIfInBounds_toArray, List.set_cons_succ, List.set_cons_zero]
          have hg2 := hg.trans (hb9.mono hg.size)
          have HC2 : Hid (com a b (i + 1) = com a b 0) := by show _ = _; rw [← HC.out]; conv => rhs; rw [com, dif_pos ⟨h1, h2⟩, if_pos h3]
          clear HC
          go_wp2
          go_roundg (a.size + 1 - (i + 1))
          case measure => omega
          case rel => exact ⟨i + 1, rfl, by omega, by omega, by go_num, HC2, hg2⟩
        · have d3 : ((a[i].toNat : Int) == (b[i].toNat : Int)) = false := beq_eq_false_iff_ne.2 fun h => h3 (UInt8.toNat_inj.1 (by omega))
          go_upto_region 2 with (fail)
          refine wp_reg_f [some 6, some 7, some 8, some 9, some 10, some 11, some 12, some 13, some 14, some 15, some 16, some 17, some 18, some 19, some 20, some 21, some 22, some 23, some 24] [?v2_0, ?v2_1, ?v2_2, ?v2_3, ?v2_4, ?v2_5, ?v2_6, ?v2_7, ?v2_8, ?v2_9, ?v2_10, ?v2_11, ?v2_12, ?v2_13, ?v2_14, ?v2_15, ?v2_16, ?v2_17, ?v2_18] [[], [], [1], [0, 2], [3], [4], [4], [4, 6], [4, 5, 7], [4, 8], [9], [10], [10], [10, 11, 12], [10], [10], [10, 14, 15], [10, 13, 16], [10, 17]] [(0, _), (1, _), (5, _)] ⟨rfl, rfl, rfl, trivial⟩ rfl (by kernel_rfl) rfl rfl (by kernel_rfl) (by kernel_rfl) ⟨?s2_0, ?s2_1, ?s2_2, ?s2_3, ?s2_4, ?s2_5, ?s2_6, ?s2_7, ?s2_8, ?s2_9, ?s2_10, ?s2_11, ?s2_12, ?s2_13, ?s2_14, ?s2_15, ?s2_16, ?s2_17, ?s2_18, trivial⟩ ?p2
          all_goals try (intro t9 w9 hT9 K9 hK9; simp only [OV, FV, List.getD_cons_succ, List.getD_cons_zero, Option.getD_some]; intros)
          case s2_0 | s2_1 | s2_2 | s2_3 | s2_4 | s2_5 | s2_6 | s2_7 | s2_8 | s2_9 | s2_10 | s2_11 | s2_12 | s2_13 | s2_14 | s2_15 | s2_16 | s2_17 | s2_18 =>
            go_simp
            exact hK9 _ (Grow.refl _)
          intro w9 hb9
          simp only [putL, Act.put, List.setIfInBounds_toArray, List.set_cons_succ, List.set_cons_zero]
          have hg2 := hg.trans (hb9.mono hg.size)
          have HC2 : Hid (com a b 0 = i) := by show _ = _; rw [← HC.out, com]; rw [dif_pos ⟨h1, h2⟩, if_neg h3]
          clear HC
          go_wp2
          go_ret
          exact ⟨by rw [HC2.out]; rfl, hg2⟩
      · have d2 : decide ((i : Int) < (b.size : Int)) = false := decide_eq_false (by omega)
        go_upto_region 2 with (fail)
        refine wp_reg_f [some 6, some 7, some 8, some 9, some 10, some 11, some 12, some 13, some 14, some 15, some 16, some 17, some 18, some 19, some 20, some 21, some 22, some 23, some 24] [?v3_0, ?v3_1, ?v3_2, ?v3_3, ?v3_4, ?v3_5, ?v3_6, ?v3_7, ?v3_8, ?v3_9, ?v3_10, ?v3_11, ?v3_12, ?v3_13, ?v3_14, ?v3_15, ?v3_16, ?v3_17, ?v3_18] [[], [], [1], [0, 2], [3], [4], [4], [4, 6], [4, 5, 7], [4, 8], [9], [10], [10], [10, 11, 12], [10], [10], [10, 14, 15], [10, 13, 16], [10, 17]] [(0, _), (1, _), (5, _)] ⟨rfl, rfl, rfl, trivial⟩ rfl (by kernel_rfl) rfl rfl (by kernel_rfl) (by kernel_rfl) ⟨?s3_0, ?s3_1, ?s3_2, ?s3_3, ?s3_4, ?s3_5, ?s3_6, ?s3_7, ?s3_8, ?s3_9, ?s3_10, ?s3_11, ?s3_12, ?s3_13, ?s3_14, ?s3_15, ?s3_16, ?s3_17, ?s3_18, trivial⟩ ?p3
        all_goals try (intro t9 w9 hT9 K9 hK9; simp only [OV, FV, List.getD_cons_succ, List.getD_cons_zero, Option.getD_some]; intros)
        case s3_0 | s3_1 | s3_2 | s3_3 | s3_4 | s3_5 | s3_6 | s3_7 | s3_8 | s3_9 | s3_10 | s3_11 | s3_12 | s3_13 | s3_14 | s3_15 | s3_16 | s3_17 | s3_18 =>
          go_simp
          exact hK9 _ (Grow.refl _)
        intro w9 hb9
        simp only [putL, Act.put, List.setIfInBounds_toArray, List.set_cons_succ, List.set_cons_zero]
        have hg2 := hg.trans (hb9.mono hg.size)
        have HC2 : Hid (com a b 0 = i) := by show _ = _; rw [← HC.out, com]; rw [dif_neg (by omega)]
        clear HC
        go_wp2
        go_ret
        exact ⟨by rw [HC2.out]; rfl, hg2⟩
    · have d1 : decide ((i : Int) < (a.size : Int)) = false := decide_eq_false (by omega)
      go_upto_region 2 with (fail)
      refine wp_reg_f [some 6, some 7, some 8, some 9, some 10, some 11, some 12, some 13, some 14, some 15, some 16, some 17, some 18, some 19, some 20, some 21, some 22, some 23, some 24] [?v4_0, ?v4_1, ?v4_2, ?v4_3, ?v4_4, ?v4_5, ?v4_6, ?v4_7, ?v4_8, ?v4_9, ?v4_10, ?v4_11, ?v4_12, ?v4_13, ?v4_14, ?v4_15, ?v4_16, ?v4_17, ?v4_18] [[], [], [1], [0, 2], [3], [4], [4], [4, 6], [4, 5, 7], [4, 8], [9], [10], [10], [10, 11, 12], [10], [10], [10, 14, 15], [10, 13, 16], [10, 17]] [(0, _), (1, _), (5, _)] ⟨rfl, rfl, rfl, trivial⟩ rfl (by kernel_rfl) rfl rfl (by kernel_rfl) (by kernel_rfl) ⟨?s4_0, ?s4_1, ?s4_2, ?s4_3, ?s4_4, ?s4_5, ?s4_6, ?s4_7, ?s4_8, ?s4_9, ?s4_10, ?s4_11, ?s4_12, ?s4_13, ?s4_14, ?s4_15, ?s4_16, ?s4_17, ?s4_18, trivial⟩ ?p4
      all_goals try (intro t9 w9 hT9 K9 hK9; simp only [OV, FV, List.getD_cons_succ, List.getD_cons_zero, Option.getD_some]; intros)
      case s4_0 | s4_1 | s4_2 | s4_3 | s4_4 | s4_5 | s4_6 | s4_7 | s4_8 | s4_9 | s4_10 | s4_11 | s4_12 | s4_13 | s4_14 | s4_15 | s4_16 | s4_17 | s4_18 =>
        go_simp
        exact hK9 _ (Grow.refl _)
      intro w9 hb9
      simp only [putL, Act.put, List.setIfInBounds_toArray, List.set_cons_succ, List.set_cons_zero]
      have hg2 := hg.trans (hb9.mono hg.size)
      have HC2 : Hid (com a b 0 = i) := by show _ = _; rw [← HC.out, com]; rw [dif_neg (by omega)]
      clear HC
      go_wp2
      go_ret
      exact ⟨by rw [HC2.out]; rfl, hg2⟩
end Go.Proofs.YtfenjklilocjgaaGreatDoor
