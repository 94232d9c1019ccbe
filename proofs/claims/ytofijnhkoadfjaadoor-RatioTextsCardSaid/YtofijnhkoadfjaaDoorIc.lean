/- The program's read. -/
import Derived.Test.YtofijnhkoadfjaaDoorIa
import Derived.Maps.AppendAt
namespace Go.Proofs.YtofijnhkoadfjaaDoor
set_option linter.unusedSimpArgs false
set_option linter.unusedVariables false
set_option linter.unusedSectionVars false
open Go.RowKit Dg

/-- A number whose words lie in no block of S. -/
def NatO (S : Nat → Prop) (w : World) (v : Value) (n : Nat) : Prop := ∃ A c, v = .slice A (dw n).length c ∧ (dw n).length ≤ c ∧ c ≤ maxLen ∧ RdOut S w A (cw (dw n))
section
variable {S T : Nat → Prop} {w w' : World} {v : Value} {n : Nat}
theorem NatO.nat (h : NatO S w v n) : NatV w v n := let ⟨A, c, e, h1, h2, h3⟩ := h; ⟨A, c, e, h1, h2, h3.rd⟩
theorem NatO.chg (h : NatO S w v n) (hc : Chg S w w') : NatO S w' v n := let ⟨A, c, e, h1, h2, h3⟩ := h; ⟨A, c, e, h1, h2, h3.chg hc⟩
/-- It lies nowhere but in blocks that are there. -/
theorem NatO.to (h : NatO S w v n) (hT : ∀ k, k < w.heap.size → T k → S k) : NatO T w v n := by
  obtain ⟨A, c, e, h1, h2, h3⟩ := h
  refine ⟨A, c, e, h1, h2, fun j u hu => ?_⟩
  obtain ⟨b, off, e1, e2, e3⟩ := h3 j u hu
  exact ⟨b, off, e1, fun ht => e2 (hT b (World.block_lt_of_cell? w _ e3) ht), e3⟩
theorem NatV.fresh {B : Nat} (h : NatV w v n) (hb : ∀ k, v.ownBlock = some k → B ≤ k) : NatO (fun k => k < B) w v n := by
  obtain ⟨A, c, rfl, h1, h2, h3⟩ := h
  refine ⟨A, c, rfl, h1, h2, fun j u hu => ?_⟩
  obtain ⟨b, off, rfl, e3⟩ := h3 j u hu
  refine ⟨b, off, rfl, fun hlt => ?_, e3⟩
  have := hb b rfl
  omega
end
/-- The cells of numbers in a row: sign, numerator, denominator. -/
def NumL (S : Nat → Prop) (w : World) : List Value → List Rat → Prop
  | [], [] => True
  | a :: b :: c :: r, x :: xs => a = .bool (decide (x.num < 0)) ∧ NatO S w b x.num.natAbs ∧ NatO S w c x.den ∧ NumL S w r xs
  | _, _ => False
section
variable {S T : Nat → Prop} {w w' : World}
theorem NumL.map (f : ∀ v n, NatO S w v n → NatO T w' v n) : ∀ (l : List Value) (xs : List Rat), NumL S w l xs → NumL T w' l xs
  | [], [], _ => trivial
  | a :: b :: c :: r, x :: xs, h => ⟨h.1, f _ _ h.2.1, f _ _ h.2.2.1, NumL.map f r xs h.2.2.2⟩
  | [], _ :: _, h => h.elim
  | [_], [], h => h.elim
  | [_], _ :: _, h => h.elim
  | [_, _], [], h => h.elim
  | [_, _], _ :: _, h => h.elim
  | _ :: _ :: _ :: _, [], h => h.elim
theorem NumL.snoc {b c : Value} {x : Rat} (hb : NatO S w b x.num.natAbs) (hc : NatO S w c x.den) : ∀ (l : List Value) (xs : List Rat), NumL S w l xs → NumL S w (l ++ [.bool (decide (x.num < 0)), b, c]) (xs ++ [x])
  | [], [], _ => ⟨rfl, hb, hc, trivial⟩
  | a :: b' :: c' :: r, y :: xs, h => ⟨h.1, h.2.1, h.2.2.1, NumL.snoc hb hc r xs h.2.2.2⟩
  | [], _ :: _, h => h.elim
  | [_], [], h => h.elim
  | [_], _ :: _, h => h.elim
  | [_, _], [], h => h.elim
  | [_, _], _ :: _, h => h.elim
  | _ :: _ :: _ :: _, [], h => h.elim
end
/-- Ratios in a row, as cells. -/
def ratCells : List Rat → List Value
  | [] => []
  | x :: xs => .bool (decide (x.num < 0)) :: .string (S x.num.natAbs) :: .string (S x.den) :: ratCells xs
theorem ratCells_length : ∀ xs : List Rat, (ratCells xs).length = 3 * xs.length
  | [] => rfl
  | x :: xs => by simp [ratCells, ratCells_length xs]; omega
theorem ratCells_get : ∀ (xs : List Rat) (k : Nat) (h : k < xs.length), (ratCells xs)[3 * k]? = some (.bool (decide (xs[k].num < 0))) ∧ (ratCells xs)[3 * k + 1]? = some (.string (S xs[k].num.natAbs)) ∧ (ratCells xs)[3 * k + 2]? = some (.string (S xs[k].den))
  | [], k, h => absurd h (by simp)
  | x :: xs, 0, h => ⟨rfl, rfl, rfl⟩
  | x :: xs, k + 1, h => by
    have := ratCells_get xs k (by simpa using h)
    have e1 : 3 * (k + 1) = 3 * k + 3 := by omega
    have e2 : 3 * (k + 1) + 1 = 3 * k + 1 + 3 := by omega
    have e3 : 3 * (k + 1) + 2 = 3 * k + 2 + 3 := by omega
    rw [e3, e2, e1]
    exact this
/-- What read returns. -/
def ReadPost (xs : List Rat) (w : World) (e : Ending) (w' : World) : Prop := (∃ v cs, e = .returned (.tuple #[v, .bool true]) ∧ w'.ownsRow w.heap.size 48 3 v xs.length cs ∧ NumL (fun k => v.ownBlock = some k) w' cs xs) ∧ Below w.heap.size w w'
theorem number_info : (Tryd.prog.info? 48).map (fun i => (i.zero, i.size, i.bytes)) = some (some (.agg #[.bool false, .slice none 0 0, .slice none 0 0]), 3, 56) := by kernel_rfl

/-- An operation of a drawn region that is an append. -/
theorem wp_append_at {P : Program} {w : World} {o : Oper} {a : Act} {K : Act → World → Prop} {Q : Exit → Act → World → Prop} (s x : Operand) (t : TypeId)
    (ho : o.op = .call { callee := .builtin .append, args := #[s, x], argTypes := #[t, t] })
    (base : Nat) (e : TypeId) (i : TypeInfo) (z : Value) (size bytes : Nat) (ht : P.underlying t = some (.slice e)) (hi : P.info? e = some i) (hz : i.zero = some z)
    (hsize : i.size = size) (hby : i.bytes = bytes) (hzs : z.cells.size = size) (hsz : 0 < size)
    (v : Value) (n : Nat) (xs : List Value) (hs : a.eval s = v) (hown : w.ownsRow base e size v n xs)
    (ad : Addr) (m c : Nat) (news : List Value) (hx : a.eval x = .slice (some ad) m c) (hl : news.length = m * size) (hnews : ∀ j u, news[j]? = some u → w.cell? (ad.add j) = some u) (h1 : ∀ u ∈ news, u.oneCell' = true)
    (h63 : n + m ≤ maxLen) (hbytes : (n + m) * bytes ≤ 140737488355328) (hbase : base ≤ w.heap.size)
    (h : ∀ v' w', w'.ownsRow base e size v' (n + m) (xs ++ news) → w.grownBy w' v.ownBlock → (v' = .slice none 0 0 ↔ v = .slice none 0 0 ∧ m = 0) → (v'.ownBlock = v.ownBlock ∨ v'.ownBlock = some w.heap.size) → K (a.put o.dst v') w') :
    o.wp P a w K Q := by
  obtain ⟨v', w', hr, h2, h3, h4, h5⟩ := run_append_own_at (P := P) w base t o.type e i z size bytes ht hi hz hsize hby hzs hsz v n xs hown ad m c news hl hnews h1 h63 hbytes hbase
  unfold Oper.wp execOp
  simp only [ho, resolve, invoke, builtin, Sem.run_bind, Sem.run_pure, Result.andThen_ok, List.map_toArray, List.map_cons, List.map_nil, hs, hx, hr]
  exact h v' w' h2 h3 h4 h5
/-- A triple of cells -/
def trip (x : Rat) : Bool × ByteArray × ByteArray := (decide (x.num < 0), S x.num.natAbs, S x.den)
def tCells : List (Bool × ByteArray × ByteArray) → List Value
  | [] => []
  | t :: ts => .bool t.1 :: .string t.2.1 :: .string t.2.2 :: tCells ts
theorem tCells_get : ∀ (ts : List (Bool × ByteArray × ByteArray)) (k : Nat) (h : k < ts.length), (tCells ts)[k * 3]? = some (.bool ts[k].1) ∧ (tCells ts)[k * 3 + 1]? = some (.string ts[k].2.1) ∧ (tCells ts)[k * 3 + 2]? = some (.string ts[k].2.2)
  | [], k, h => absurd h (by simp)
  | x :: xs, 0, h => ⟨rfl, rfl, rfl⟩
  | x :: xs, k + 1, h => by
    have := tCells_get xs k (by simpa using h)
    have e1 : (k + 1) * 3 = k * 3 + 3 := by omega
    have e2 : (k + 1) * 3 + 1 = k * 3 + 1 + 3 := by omega
    have e3 : (k + 1) * 3 + 2 = k * 3 + 2 + 3 := by omega
    rw [e3, e2, e1]
    exact this
theorem NatO.below {S : Nat → Prop} {w w' : World} {v : Value} {n : Nat} (h : NatO S w v n) (hb : Below w.heap.size w w') : NatO S w' v n := h.chg (Chg.of_below hb fun k h1 h2 => by omega)
theorem eval_tmp {t : Array Value} {d : List Deferred} {k : Nat} {v : Value} (h : t[k]? = some v) : (Act.mk t d).eval (.tmp k) = v := by
  show t.getD k undef = v
  simp [Array.getD_eq_getD_getElem?, h]
theorem own_cells {w : World} {g : Nat} {t : TypeId} {cs : List Value} (h : Own w g t cs) : ∀ j u, cs[j]? = some u → w.cell? ((⟨g, 0, none⟩ : Addr).add j) = some u := by
  intro j u hu
  rw [Addr.add_lit, h.cell]
  simpa using hu
theorem Grow.al {w w' : World} (h : Grow w w') (o : Obj) : Grow w (w'.alloc o) := Below.alloc h h.size o
/-- What lies outside the row's block does so behind an append. -/
theorem nato_row {w w' : World} {v v' u : Value} {n : Nat} (h : NatO (fun k => v.ownBlock = some k) w u n) (hg : w.grownBy w' v.ownBlock) (hat : v'.ownBlock = v.ownBlock ∨ v'.ownBlock = some w.heap.size) : NatO (fun k => v'.ownBlock = some k) w' u n := by
  have hc : Chg (fun k => v.ownBlock = some k) w w' := ⟨hg.os, hg.tape, hg.output, hg.size, fun k hk hn => hg.block k hk (fun e => hn e.symm)⟩
  rcases hat with e | e
  · rw [e]; exact h.chg hc
  · have h1 : NatO (fun k => v.ownBlock = some k ∨ v'.ownBlock = some k) w u n := h.to fun k hk h2 => h2.elim id (fun h3 => by rw [e] at h3; injection h3; omega)
    exact (h1.chg (hc.mono fun k _ h3 => .inl h3)).to fun k _ h3 => .inr h3
theorem wanted_of {o : Oper} {y : Nat → Option Bool} (h : o.guard = none) : Region.wanted o y = true := by simp [Region.wanted, h]
theorem own_lt2 {w : World} {base size n : Nat} {e : TypeId} {v : Value} {xs : List Value} (h : w.ownsRow base e size v n xs) : ∀ k, v.ownBlock = some k → k < w.heap.size := fun k hk => (h.lt k hk).2
theorem parse_fr (n : Nat) (w : World) (h : OkN n) : Calls Tryd.prog 34 #[.string (S n)] w fun e w' => ∃ v, e = .returned v ∧ NatV w' v n ∧ (∀ k, v.ownBlock = some k → w.heap.size ≤ k) ∧ Below w.heap.size w w' := by
  have := parse_own (S n) (dec n) w (S_list n) (dec_dig n) (by unfold OkN at h; omega)
  rwa [num_dec] at this
def ReadRes (ts : List (Bool × ByteArray × ByteArray)) (w : World) (e : Ending) (w' : World) : Prop :=
  (∃ xs, ts = xs.map trip ∧ (∀ x ∈ xs, OkR x) ∧ ReadPost xs w e w') ∨ ((∃ t ∈ ts, ¬ IsR t.1 t.2.1 t.2.2) ∧ e = .returned (.tuple #[.slice none 0 0, .bool false]) ∧ Below w.heap.size w w')

end Go.Proofs.YtofijnhkoadfjaaDoor
