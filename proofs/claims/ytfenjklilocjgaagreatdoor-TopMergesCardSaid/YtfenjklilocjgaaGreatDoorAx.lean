/- Parts of the proof: La, Rk, Rt, Ia, Ja, Ic, Id, If, Jb, En, Ax. No condition of its own. -/
import Derived.Test.YtfenjklilocjgaaGreatDoorRf
import Derived.Test.YtfenjklilocjgaaGreatDoorReg
import Derived.Test.YtfenjklilocjgaaGreatDoorMem
import Derived.Maps.AppendAt
set_option linter.unusedSimpArgs false
set_option linter.unusedVariables false
set_option linter.unusedSectionVars false
namespace Go.Proofs.YtfenjklilocjgaaGreatDoor
set_option linter.unusedSimpArgs false
set_option linter.unusedVariables false
set_option linter.unusedSectionVars false
open Go.RowKit Dg

def Holds (w : World) (e : Ending) (w' : World) : Prop := e = .returned (.bool true) ∧ Below w.heap.size w w'
theorem OkN.mono {m n : Nat} (h : OkN n) (hmn : m ≤ n) : OkN m := by
  unfold OkN at *
  rcases Nat.lt_or_ge (dec n).length (dec m).length with h1 | h1
  · have := dec_lt_of_len h1; omega
  · omega
theorem below6 {w w1 w2 : World} (h1 : Below w.heap.size w w1) (h2 : Below w1.heap.size w1 w2) : Below w.heap.size w w2 := h1.trans (h2.mono h1.size)
set_option linter.unusedSimpArgs false
set_option linter.unusedVariables false
set_option linter.unusedSectionVars false
open Go.RowKit Dg

set_option linter.unusedSimpArgs false
set_option linter.unusedVariables false
set_option linter.unusedSectionVars false
open Go.RowKit Dg

set_option linter.unusedSimpArgs false
set_option linter.unusedVariables false
set_option linter.unusedSectionVars false
open Go.RowKit Dg

/-- A rational number as a value. -/
abbrev RV (x : Rat) : Value := RatV (decide (x.num < 0)) x.num.natAbs x.den
/-- Its texts are not too long. -/
def OkR (x : Rat) : Prop := OkN x.num.natAbs ∧ OkN x.den
/-- A number with a sign over another one. -/
def rat (neg : Bool) (a b : Nat) : Rat := mkRat (if neg then -(a : Int) else a) b
/-- What a function returns whose result is a ratio. -/
def RatRes (x : Rat) (e : Ending) : Prop := (OkR x ∧ e = .returned (.tuple #[RV x, .int .i64 0])) ∨ (¬ OkR x ∧ e = .returned (.tuple #[Rat0, .int .i64 2]))
theorem RatRes.ok {x : Rat} {e : Ending} (h : RatRes x e) (hx : OkR x) : e = .returned (.tuple #[RV x, .int .i64 0]) := by
  rcases h with h | h
  · exact h.2
  · exact absurd hx h.1
/-- A value that is a ratio. -/
def IsR (neg : Bool) (s t : ByteArray) : Prop := ∃ x : Rat, OkR x ∧ neg = decide (x.num < 0) ∧ s = S x.num.natAbs ∧ t = S x.den
set_option linter.unusedSimpArgs false
set_option linter.unusedVariables false
set_option linter.unusedSectionVars false
open Go.RowKit Dg

set_option linter.unusedSimpArgs false
set_option linter.unusedVariables false
set_option linter.unusedSectionVars false
open Go.RowKit Dg

/-- A value that is no integer. -/
def noI (v : Value) : Bool := match v with | .int _ _ => false | _ => true
theorem noI_cw {v : Value} (h : noI v = true) (l : List Nat) : v ∉ cw l := by
  intro hm
  simp only [cw, List.mem_map] at hm
  obtain ⟨x, _, rfl⟩ := hm
  cases h
theorem NatV.set3 {w : World} {v : Value} {n g : Nat} {t : TypeId} {a b c : Value} (h : NatV w v n) (ho : Own w g t [a, b, c]) (x y z : Value) (hn : ([a, b, c, x, y, z].all noI) = true) :
    NatV (((w.setCell ⟨g, 0, none⟩ x).setCell ⟨g, 1, none⟩ y).setCell ⟨g, 2, none⟩ z) v n := by
  obtain ⟨A, k, rfl, h1, h2, h3⟩ := h
  refine ⟨A, k, rfl, h1, h2, Rd.set3 h3 ho x y z fun v hv => noI_cw ?_ _⟩
  exact List.all_eq_true.1 hn v hv
/-- A number with a sign as the program holds it: with a bound on its words. -/
def NumOk (L : Nat) (x : Rat) (w : World) (v : Value) : Prop := ∃ neg v1 v2 a b, v = .agg #[.bool neg, v1, v2] ∧ NatV w v1 a ∧ NatV w v2 b ∧ 0 < b ∧ (dw a).length ≤ L ∧ (dw b).length ≤ L ∧ x = rat neg a b
set_option linter.unusedSimpArgs false
set_option linter.unusedVariables false
set_option linter.unusedSectionVars false
open Go.RowKit Dg

set_option linter.unusedSimpArgs false
set_option linter.unusedVariables false
set_option linter.unusedSectionVars false
open Go.RowKit Dg

/-- A number whose words lie in no block of S. -/
def NatO (S : Nat → Prop) (w : World) (v : Value) (n : Nat) : Prop := ∃ A c, v = .slice A (dw n).length c ∧ (dw n).length ≤ c ∧ c ≤ maxLen ∧ RdOut S w A (cw (dw n))
section
variable {S T : Nat → Prop} {w w' : World} {v : Value} {n : Nat}
theorem NatO.chg (h : NatO S w v n) (hc : Chg S w w') : NatO S w' v n := let ⟨A, c, e, h1, h2, h3⟩ := h; ⟨A, c, e, h1, h2, h3.chg hc⟩
/-- It lies nowhere but in blocks that are there. -/
theorem NatO.to (h : NatO S w v n) (hT : ∀ k, k < w.heap.size → T k → S k) : NatO T w v n := by
  obtain ⟨A, c, e, h1, h2, h3⟩ := h
  refine ⟨A, c, e, h1, h2, fun j u hu => ?_⟩
  obtain ⟨b, off, e1, e2, e3⟩ := h3 j u hu
  exact ⟨b, off, e1, fun ht => e2 (hT b (World.block_lt_of_cell? w _ e3) ht), e3⟩
theorem NatV.fresh {B : Nat} (h : NatV w v n) (hb : ∀ k, v.ownBlock = some k → B ≤ k) : NatO (fun k => k < B) w v n := by
  obtain ⟨A, c, rfl, h1, h2, h3⟩ := h
  refine ⟨A, c, rfl, h1, h2, fun j u hu => ?_⟩
  obtain ⟨b, off, rfl, e3⟩ := h3 j u hu
  refine ⟨b, off, rfl, fun hlt => ?_, e3⟩
  have := hb b rfl
  omega
end
/-- The cells of numbers in a row: sign, numerator, denominator. -/
def NumL (S : Nat → Prop) (w : World) : List Value → List Rat → Prop
  | [], [] => True
  | a :: b :: c :: r, x :: xs => a = .bool (decide (x.num < 0)) ∧ NatO S w b x.num.natAbs ∧ NatO S w c x.den ∧ NumL S w r xs
  | _, _ => False
section
variable {S T : Nat → Prop} {w w' : World}
theorem NumL.map (f : ∀ v n, NatO S w v n → NatO T w' v n) : ∀ (l : List Value) (xs : List Rat), NumL S w l xs → NumL T w' l xs
  | [], [], _ => trivial
  | a :: b :: c :: r, x :: xs, h => ⟨h.1, f _ _ h.2.1, f _ _ h.2.2.1, NumL.map f r xs h.2.2.2⟩
  | [], _ :: _, h => h.elim
  | [_], [], h => h.elim
  | [_], _ :: _, h => h.elim
  | [_, _], [], h => h.elim
  | [_, _], _ :: _, h => h.elim
  | _ :: _ :: _ :: _, [], h => h.elim
end
/-- An operation of a drawn region that is an append. -/
theorem wp_append_at {P : Program} {w : World} {o : Oper} {a : Act} {K : Act → World → Prop} {Q : Exit → Act → World → Prop} (s x : Operand) (t : TypeId)
    (ho : o.op = .call { callee := .builtin .append, args := #[s, x], argTypes := #[t, t] })
    (base : Nat) (e : TypeId) (i : TypeInfo) (z : Value) (size bytes : Nat) (ht : P.underlying t = some (.slice e)) (hi : P.info? e = some i) (hz : i.zero = some z)
    (hsize : i.size = size) (hby : i.bytes = bytes) (hzs : z.cells.size = size) (hsz : 0 < size)
    (v : Value) (n : Nat) (xs : List Value) (hs : a.eval s = v) (hown : w.ownsRow base e size v n xs)
    (ad : Addr) (m c : Nat) (news : List Value) (hx : a.eval x = .slice (some ad) m c) (hl : news.length = m * size) (hnews : ∀ j u, news[j]? = some u → w.cell? (ad.add j) = some u) (h1 : ∀ u ∈ news, u.oneCell' = true)
    (h63 : n + m ≤ maxLen) (hbytes : (n + m) * bytes ≤ 140737488355328) (hbase : base ≤ w.heap.size)
    (h : ∀ v' w', w'.ownsRow base e size v' (n + m) (xs ++ news) → w.grownBy w' v.ownBlock → (v' = .slice none 0 0 ↔ v = .slice none 0 0 ∧ m = 0) → (v'.ownBlock = v.ownBlock ∨ v'.ownBlock = some w.heap.size) → K (a.put o.dst v') w') :
    o.wp P a w K Q := by
  obtain ⟨v', w', hr, h2, h3, h4, h5⟩ := run_append_own_at (P := P) w base t o.type e i z size bytes ht hi hz hsize hby hzs hsz v n xs hown ad m c news hl hnews h1 h63 hbytes hbase
  unfold Oper.wp execOp
  simp only [ho, resolve, invoke, builtin, Sem.run_bind, Sem.run_pure, Result.andThen_ok, List.map_toArray, List.map_cons, List.map_nil, hs, hx, hr]
  exact h v' w' h2 h3 h4 h5
theorem NatO.below {S : Nat → Prop} {w w' : World} {v : Value} {n : Nat} (h : NatO S w v n) (hb : Below w.heap.size w w') : NatO S w' v n := h.chg (Chg.of_below hb fun k h1 h2 => by omega)
theorem eval_tmp {t : Array Value} {d : List Deferred} {k : Nat} {v : Value} (h : t[k]? = some v) : (Act.mk t d).eval (.tmp k) = v := by
  show t.getD k undef = v
  simp [Array.getD_eq_getD_getElem?, h]
theorem own_cells {w : World} {g : Nat} {t : TypeId} {cs : List Value} (h : Own w g t cs) : ∀ j u, cs[j]? = some u → w.cell? ((⟨g, 0, none⟩ : Addr).add j) = some u := by
  intro j u hu
  rw [Addr.add_lit, h.cell]
  simpa using hu
theorem wanted_of {o : Oper} {y : Nat → Option Bool} (h : o.guard = none) : Region.wanted o y = true := by simp [Region.wanted, h]
set_option linter.unusedSimpArgs false
set_option linter.unusedVariables false
set_option linter.unusedSectionVars false
open Go.RowKit Dg

theorem NumOk.below {L : Nat} {z : Rat} {w w' : World} {v : Value} (h : NumOk L z w v) (hb : Below w.heap.size w w') : NumOk L z w' v := by
  obtain ⟨neg, v1, v2, a, b, rfl, h1, h2, h3⟩ := h
  exact ⟨neg, v1, v2, a, b, rfl, h1.below hb, h2.below hb, h3⟩
set_option linter.unusedSimpArgs false
set_option linter.unusedVariables false
set_option linter.unusedSectionVars false
open Go.RowKit Dg

theorem OkN.size {n : Nat} (h : OkN n) : (S n).size ≤ maxLen := by rw [S_size]; unfold OkN at h; unfold maxLen; omega
section
variable {n1 n2 : Bool} {s1 t1 s2 t2 : ByteArray} (hs1 : s1.size ≤ maxLen) (ht1 : t1.size ≤ maxLen) (hs2 : s2.size ≤ maxLen) (ht2 : t2.size ≤ maxLen) (h : ¬ (IsR n1 s1 t1 ∧ IsR n2 s2 t2)) (w : World)
include hs1 ht1 hs2 ht2 h
end
set_option linter.unusedSimpArgs false
set_option linter.unusedVariables false
set_option linter.unusedSectionVars false
open Go.RowKit Dg

set_option linter.unusedSimpArgs false
set_option linter.unusedVariables false
set_option linter.unusedSectionVars false
open Go.RowKit Dg

set_option linter.unusedSimpArgs false
set_option linter.unusedVariables false
set_option linter.unusedSectionVars false
open Go.RowKit Dg

/-- A function that returns one value at these arguments, whatever the world. -/
def RetV (f : FuncId) (args : Array Value) (v : Value) : Prop := ∀ w, Calls Tryz.prog f args w fun e w' => e = .returned v ∧ Below w.heap.size w w'
theorem new4 (w : World) (c1 c2 c3 c4 : List Value) (t1 t2 t3 t4 : TypeId) :
    Own ((((w.alloc (.cells c1.toArray t1)).alloc (.cells c2.toArray t2)).alloc (.cells c3.toArray t3)).alloc (.cells c4.toArray t4)) w.heap.size t1 c1 ∧ Own ((((w.alloc (.cells c1.toArray t1)).alloc (.cells c2.toArray t2)).alloc (.cells c3.toArray t3)).alloc (.cells c4.toArray t4)) (w.heap.size + 1) t2 c2 ∧
    Own ((((w.alloc (.cells c1.toArray t1)).alloc (.cells c2.toArray t2)).alloc (.cells c3.toArray t3)).alloc (.cells c4.toArray t4)) (w.heap.size + 1 + 1) t3 c3 ∧ Own ((((w.alloc (.cells c1.toArray t1)).alloc (.cells c2.toArray t2)).alloc (.cells c3.toArray t3)).alloc (.cells c4.toArray t4)) (w.heap.size + 1 + 1 + 1) t4 c4 ∧
    Below w.heap.size w ((((w.alloc (.cells c1.toArray t1)).alloc (.cells c2.toArray t2)).alloc (.cells c3.toArray t3)).alloc (.cells c4.toArray t4)) := by
  obtain ⟨h1, h2, h3, h4⟩ := new3 w c1 c2 c3 t1 t2 t3
  have hs : (((w.alloc (.cells c1.toArray t1)).alloc (.cells c2.toArray t2)).alloc (.cells c3.toArray t3)).heap.size = w.heap.size + 1 + 1 + 1 := by simp
  refine ⟨h1.alloc _, h2.alloc _, h3.alloc _, ?_, h4.alloc (by rw [hs]; omega) _⟩
  have := Own.new (((w.alloc (.cells c1.toArray t1)).alloc (.cells c2.toArray t2)).alloc (.cells c3.toArray t3)) t4 c4
  rw [hs] at this
  exact this
set_option linter.unusedSimpArgs false
set_option linter.unusedVariables false
set_option linter.unusedSectionVars false
open Go.RowKit Dg

theorem begins_low (c : Int) (h1 : 97 ≤ c) (h2 : c ≤ 122) : RetV 125 #[.int .u8 c] (.bool true) := by
  intro w
  have t1 : decide (c ≥ 65) = true := decide_eq_true (by omega)
  have t2 : decide (c ≤ 90) = false := decide_eq_false (by omega)
  have t3 : decide (c ≥ 97) = true := decide_eq_true (by omega)
  have t4 : decide (c ≤ 122) = true := decide_eq_true (by omega)
  have t5 : decide (65 ≤ c) = true := decide_eq_true (by omega)
  have t6 : decide (97 ≤ c) = true := decide_eq_true (by omega)
  go_enter Tryz.func125, Tryz.ntmps125
  go_wp2
  go_ret
  exact ⟨rfl, Below.refl _ _⟩
theorem begins_no (c : Int) (h1 : c < 65) : RetV 125 #[.int .u8 c] (.bool false) := by
  intro w
  have t1 : decide (c ≥ 65) = false := decide_eq_false (by omega)
  have t3 : decide (c ≥ 97) = false := decide_eq_false (by omega)
  have t5 : decide (65 ≤ c) = false := decide_eq_false (by omega)
  have t6 : decide (97 ≤ c) = false := decide_eq_false (by omega)
  have t7 : decide (c = 95) = false := decide_eq_false (by omega)
  have t8 : (c == 95) = false := beq_eq_false_iff_ne.2 (by omega)
  go_enter Tryz.func125, Tryz.ntmps125
  go_wp2
  go_ret
  exact ⟨rfl, Below.refl _ _⟩
theorem goesOn_low (c : Int) (h1 : 97 ≤ c) (h2 : c ≤ 122) : RetV 126 #[.int .u8 c] (.bool true) := by
  intro w
  go_enter Tryz.func126, Tryz.ntmps126
  go_wp2_with fail
  refine (begins_low c h1 h2 _).mono ?_
  rintro e w1 ⟨rfl, hb⟩
  go_wp2
  go_ret
  exact ⟨rfl, hb⟩
theorem goesOn_no (c : Int) (h1 : c < 65) (h2 : c < 45 ∨ 57 < c) : RetV 126 #[.int .u8 c] (.bool false) := by
  intro w
  have HN := Lib.hid h1
  go_enter Tryz.func126, Tryz.ntmps126
  go_wp2_with fail
  refine (begins_no c HN.out _).mono ?_
  rintro e w1 ⟨rfl, hb⟩
  have t8 : (c == 45) = false := beq_eq_false_iff_ne.2 (by omega)
  have t9 : decide (c = 45) = false := decide_eq_false (by omega)
  by_cases h3 : c < 45
  · have t1 : decide (c ≥ 48) = false := decide_eq_false (by omega)
    have t2 : decide (48 ≤ c) = false := decide_eq_false (by omega)
    clear h1 h2 h3
    go_wp2
    go_ret
    exact ⟨rfl, hb⟩
  · have t1 : decide (c ≥ 48) = true := decide_eq_true (by omega)
    have t2 : decide (48 ≤ c) = true := decide_eq_true (by omega)
    have t3 : decide (c ≤ 57) = false := decide_eq_false (by omega)
    clear h1 h2 h3
    go_wp2
    go_ret
    exact ⟨rfl, hb⟩
/-- Lower-case letters from a place on. -/
def Low (s : ByteArray) (i k : Nat) : Prop := ∀ j (h : j < s.size), i ≤ j → j < i + k → 97 ≤ (s[j]'h).toNat ∧ (s[j]'h).toNat ≤ 122
theorem validName_low (s : ByteArray) (h1 : 1 ≤ s.size) (h2 : s.size ≤ 32) (h : Low s 0 s.size) : RetV 81 #[.string s] (.bool true) := by
  intro w
  have HL := Lib.hid h
  clear h
  have t1 : decide ((s.size : Int) < 1) = false := decide_eq_false (by omega)
  have t2 : decide ((s.size : Int) > 32) = false := decide_eq_false (by omega)
  have t3 : decide ((32 : Int) < (s.size : Int)) = false := decide_eq_false (by omega)
  have t4 : decide (32 < s.size) = false := decide_eq_false (by omega)
  have h0 : 0 < s.size := h1
  go_enter Tryz.func81, Tryz.ntmps81
  go_wp2_with fail
  have c0 := HL.out 0 h0 (Nat.le_refl 0) (by omega)
  refine (begins_low _ (by omega) (by omega) _).mono ?_
  rintro e w1 ⟨rfl, hb1⟩
  clear c0
  go_wp2_with fail
  go_loopg [20] s.size (fun qn vi wr => ∃ j : Nat, qn = s.size - j ∧ j ≤ s.size ∧ vi = .int .i64 (j : Int) ∧ Below w.heap.size w wr)
  case atStart => exact ⟨0, rfl, Nat.zero_le _, rfl, hb1⟩
  case round =>
    clear hb1
    obtain ⟨j, hqn, hj, rfl, hbw⟩ := hrel
    have HQ := Lib.hid hqn
    clear hqn
    by_cases hlt : j < s.size
    · have c0 := HL.out j hlt (Nat.zero_le _) (by omega)
      go_wp2_with fail
      refine (goesOn_low _ (by omega) (by omega) _).mono ?_
      rintro e w2 ⟨rfl, hb2⟩
      replace hbw := below6 hbw hb2
      clear hb2 c0
      go_wp2_with fail
      go_roundg (s.size - (j + 1))
      case measure => have := HQ.out; omega
      case rel => exact ⟨j + 1, rfl, by omega, by go_num, hbw⟩
    · go_wp2
      go_ret
      exact ⟨rfl, hbw⟩
end Go.Proofs.YtfenjklilocjgaaGreatDoor
