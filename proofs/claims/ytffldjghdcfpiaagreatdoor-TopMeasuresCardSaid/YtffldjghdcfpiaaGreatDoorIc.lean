/- Parts of the proof: Ic. No condition of its own. -/
import Derived.Test.YtffldjghdcfpiaaGreatDoorIa
import Derived.Maps.AppendAt
set_option linter.unusedSimpArgs false
set_option linter.unusedVariables false
set_option linter.unusedSectionVars false
set_option maxRecDepth 100000
set_option maxHeartbeats 4000000
namespace Go.Proofs.YtffldjghdcfpiaaGreatDoor
open Go.RowKit Dg

def NatO (S : Nat → Prop) (w : World) (v : Value) (n : Nat) : Prop := ∃ A c, v = .slice A (dw n).length c ∧ (dw n).length ≤ c ∧ c ≤ maxLen ∧ RdOut S w A (cw (dw n))
section
variable {S T : Nat → Prop} {w w' : World} {v : Value} {n : Nat}
theorem NatO.nat (h : NatO S w v n) : NatV w v n := let ⟨A, c, e, h1, h2, h3⟩ := h; ⟨A, c, e, h1, h2, h3.rd⟩
theorem NatO.chg (h : NatO S w v n) (hc : Chg S w w') : NatO S w' v n := let ⟨A, c, e, h1, h2, h3⟩ := h; ⟨A, c, e, h1, h2, h3.chg hc⟩
theorem NatO.to (h : NatO S w v n) (hT : ∀ k, k < w.heap.size → T k → S k) : NatO T w v n := by
  obtain ⟨A, c, e, h1, h2, h3⟩ := h; refine ⟨A, c, e, h1, h2, fun j u hu => ?_⟩; obtain ⟨b, off, e1, e2, e3⟩ := h3 j u hu; exact ⟨b, off, e1, fun ht => e2 (hT b (World.block_lt_of_cell? w _ e3) ht), e3⟩
theorem NatV.fresh {B : Nat} (h : NatV w v n) (hb : ∀ k, v.ownBlock = some k → B ≤ k) : NatO (fun k => k < B) w v n := by
  obtain ⟨A, c, rfl, h1, h2, h3⟩ := h; refine ⟨A, c, rfl, h1, h2, fun j u hu => ?_⟩; obtain ⟨b, off, rfl, e3⟩ := h3 j u hu; refine ⟨b, off, rfl, fun hlt => ?_, e3⟩; have := hb b rfl
  omega
end
def NumL (S : Nat → Prop) (w : World) : List Value → List Rat → Prop
  | [], [] => True
  | a :: b :: c :: r, x :: xs => a = .bool (decide (x.num < 0)) ∧ NatO S w b x.num.natAbs ∧ NatO S w c x.den ∧ NumL S w r xs
  | _, _ => False
section
variable {S T : Nat → Prop} {w w' : World}
theorem NumL.map (f : ∀ v n, NatO S w v n → NatO T w' v n) : ∀ (l : List Value) (xs : List Rat), NumL S w l xs → NumL T w' l xs
  | [], [], _ => trivial
  | a :: b :: c :: r, x :: xs, h => ⟨h.1, f _ _ h.2.1, f _ _ h.2.2.1, NumL.map f r xs h.2.2.2⟩
  | [], _ :: _, h => h.elim
  | [_], [], h => h.elim
  | [_], _ :: _, h => h.elim
  | [_, _], [], h => h.elim
  | [_, _], _ :: _, h => h.elim
  | _ :: _ :: _ :: _, [], h => h.elim
theorem NumL.snoc {b c : Value} {x : Rat} (hb : NatO S w b x.num.natAbs) (hc : NatO S w c x.den) : ∀ (l : List Value) (xs : List Rat), NumL S w l xs → NumL S w (l ++ [.bool (decide (x.num < 0)), b, c]) (xs ++ [x])
  | [], [], _ => ⟨rfl, hb, hc, trivial⟩
  | a :: b' :: c' :: r, y :: xs, h => ⟨h.1, h.2.1, h.2.2.1, NumL.snoc hb hc r xs h.2.2.2⟩
  | [], _ :: _, h => h.elim
  | [_], [], h => h.elim
  | [_], _ :: _, h => h.elim
  | [_, _], [], h => h.elim
  | [_, _], _ :: _, h => h.elim
  | _ :: _ :: _ :: _, [], h => h.elim
end
def ReadPost (xs : List Rat) (w : World) (e : Ending) (w' : World) : Prop := (∃ v cs, e = .returned (.tuple #[v, .bool true]) ∧ w'.ownsRow w.heap.size 47 3 v xs.length cs ∧ NumL (fun k => v.ownBlock = some k) w' cs xs) ∧ Below w.heap.size w w'
theorem number_info : (Tryz.prog.info? 47).map (fun i => (i.zero, i.size, i.bytes)) = some (some (.agg #[.bool false, .slice none 0 0, .slice none 0 0]), 3, 56) := by kernel_rfl

theorem wp_append_at {P : Program} {w : World} {o : Oper} {a : Act} {K : Act → World → Prop} {Q : Exit → Act → World → Prop} (s x : Operand) (t : TypeId)
    (ho : o.op = .call { callee := .builtin .append, args := #[s, x], argTypes := #[t, t] })
    (base : Nat) (e : TypeId) (i : TypeInfo) (z : Value) (size bytes : Nat) (ht : P.underlying t = some (.slice e)) (hi : P.info? e = some i) (hz : i.zero = some z)
    (hsize : i.size = size) (hby : i.bytes = bytes) (hzs : z.cells.size = size) (hsz : 0 < size)
    (v : Value) (n : Nat) (xs : List Value) (hs : a.eval s = v) (hown : w.ownsRow base e size v n xs)
    (ad : Addr) (m c : Nat) (news : List Value) (hx : a.eval x = .slice (some ad) m c) (hl : news.length = m * size) (hnews : ∀ j u, news[j]? = some u → w.cell? (ad.add j) = some u) (h1 : ∀ u ∈ news, u.oneCell' = true)
    (h63 : n + m ≤ maxLen) (hbytes : (n + m) * bytes ≤ 140737488355328) (hbase : base ≤ w.heap.size)
    (h : ∀ v' w', w'.ownsRow base e size v' (n + m) (xs ++ news) → w.grownBy w' v.ownBlock → (v' = .slice none 0 0 ↔ v = .slice none 0 0 ∧ m = 0) → (v'.ownBlock = v.ownBlock ∨ v'.ownBlock = some w.heap.size) → K (a.put o.dst v') w') :
    o.wp P a w K Q := by
  obtain ⟨v', w', hr, h2, h3, h4, h5⟩ := run_append_own_at (P := P) w base t o.type e i z size bytes ht hi hz hsize hby hzs hsz v n xs hown ad m c news hl hnews h1 h63 hbytes hbase; unfold Oper.wp execOp
  simp only [ho, resolve, invoke, builtin, Sem.run_bind, Sem.run_pure, Result.andThen_ok, List.map_toArray, List.map_cons, List.map_nil, hs, hx, hr]
  exact h v' w' h2 h3 h4 h5
def trip (x : Rat) : Bool × ByteArray × ByteArray := (decide (x.num < 0), S x.num.natAbs, S x.den)
def tCells : List (Bool × ByteArray × ByteArray) → List Value
  | [] => []
  | t :: ts => .bool t.1 :: .string t.2.1 :: .string t.2.2 :: tCells ts
theorem tCells_get : ∀ (ts : List (Bool × ByteArray × ByteArray)) (k : Nat) (h : k < ts.length), (tCells ts)[k * 3]? = some (.bool ts[k].1) ∧ (tCells ts)[k * 3 + 1]? = some (.string ts[k].2.1) ∧ (tCells ts)[k * 3 + 2]? = some (.string ts[k].2.2)
  | [], k, h => absurd h (by simp)
  | x :: xs, 0, h => ⟨rfl, rfl, rfl⟩
  | x :: xs, k + 1, h => by
    have := tCells_get xs k (by simpa using h); have e1 : (k + 1) * 3 = k * 3 + 3 := by omega
    have e2 : (k + 1) * 3 + 1 = k * 3 + 1 + 3 := by omega
    have e3 : (k + 1) * 3 + 2 = k * 3 + 2 + 3 := by omega
    rw [e3, e2, e1]; exact this
theorem NatO.below {S : Nat → Prop} {w w' : World} {v : Value} {n : Nat} (h : NatO S w v n) (hb : Below w.heap.size w w') : NatO S w' v n := h.chg (Chg.of_below hb fun k h1 h2 => by omega)
theorem eval_tmp {t : Array Value} {d : List Deferred} {k : Nat} {v : Value} (h : t[k]? = some v) : (Act.mk t d).eval (.tmp k) = v := by
  show t.getD k undef = v
  simp [Array.getD_eq_getD_getElem?, h]
theorem own_cells {w : World} {g : Nat} {t : TypeId} {cs : List Value} (h : Own w g t cs) : ∀ j u, cs[j]? = some u → w.cell? ((⟨g, 0, none⟩ : Addr).add j) = some u := by
  intro j u hu; rw [Addr.add_lit, h.cell]
  simpa using hu
theorem Grow.al {w w' : World} (h : Grow w w') (o : Obj) : Grow w (w'.alloc o) := Below.alloc h h.size o
theorem nato_row {w w' : World} {v v' u : Value} {n : Nat} (h : NatO (fun k => v.ownBlock = some k) w u n) (hg : w.grownBy w' v.ownBlock) (hat : v'.ownBlock = v.ownBlock ∨ v'.ownBlock = some w.heap.size) : NatO (fun k => v'.ownBlock = some k) w' u n := by
  have hc : Chg (fun k => v.ownBlock = some k) w w' := ⟨hg.os, hg.tape, hg.output, hg.size, fun k hk hn => hg.block k hk (fun e => hn e.symm)⟩
  rcases hat with e | e
  · rw [e]; exact h.chg hc
  · have h1 : NatO (fun k => v.ownBlock = some k ∨ v'.ownBlock = some k) w u n := h.to fun k hk h2 => h2.elim id (fun h3 => by rw [e] at h3; injection h3; omega); exact (h1.chg (hc.mono fun k _ h3 => .inl h3)).to fun k _ h3 => .inr h3
theorem wanted_of {o : Oper} {y : Nat → Option Bool} (h : o.guard = none) : Region.wanted o y = true := by simp [Region.wanted, h]
theorem own_lt2 {w : World} {base size n : Nat} {e : TypeId} {v : Value} {xs : List Value} (h : w.ownsRow base e size v n xs) : ∀ k, v.ownBlock = some k → k < w.heap.size := fun k hk => (h.lt k hk).2
theorem parse_fr (n : Nat) (w : World) (h : OkN n) : Calls Tryz.prog 42 #[.string (S n)] w fun e w' => ∃ v, e = .returned v ∧ NatV w' v n ∧ (∀ k, v.ownBlock = some k → w.heap.size ≤ k) ∧ Below w.heap.size w w' := by
  have := parse_own (S n) (dec n) w (S_list n) (dec_dig n) (by unfold OkN at h; omega)
  rwa [num_dec] at this
def ReadRes (ts : List (Bool × ByteArray × ByteArray)) (w : World) (e : Ending) (w' : World) : Prop :=
  (∃ xs, ts = xs.map trip ∧ (∀ x ∈ xs, OkR x) ∧ ReadPost xs w e w') ∨ ((∃ t ∈ ts, ¬ IsR t.1 t.2.1 t.2.2) ∧ e = .returned (.tuple #[.slice none 0 0, .bool false]) ∧ Below w.heap.size w w')

theorem read_gen (A : Option Addr) (c : Nat) (ts : List (Bool × ByteArray × ByteArray)) (w : World) (h : Rd w A (tCells ts)) (hlen : ts.length ≤ 100) (hc : ts.length ≤ c) (hm : c ≤ maxLen) (hs : ∀ t ∈ ts, t.2.1.size ≤ maxLen ∧ t.2.2.size ≤ maxLen) :
    Calls Tryz.prog 22 #[.slice A ts.length c] w (ReadRes ts w) := by
  have H := Lib.hid h; have HS := Lib.hid hs; unfold maxLen at hm; clear h hs; obtain ⟨i0, hi0, hz0, hz1, hz2⟩ := info_parts number_info
  go_enter Tryz.func22, Tryz.ntmps22
  go_wp2_with fail
  go_loopg [4, 9] ts.length (fun q v4 v9 wr => ∃ (k : Nat) (xs : List Rat) (cs : List Value), q = ts.length - k ∧ k ≤ ts.length ∧ xs.length = k ∧ v9 = .int .i64 k ∧ Hid (ts.take k = xs.map trip) ∧ Hid (∀ x ∈ xs, OkR x) ∧ Hid (wr.ownsRow w.heap.size 47 3 v4 xs.length cs) ∧ Hid (NumL (fun k => v4.ownBlock = some k) wr cs xs) ∧ Below w.heap.size w wr)
  case atStart => exact ⟨0, [], [], rfl, Nat.zero_le _, rfl, rfl, (rfl : _ = _), (by intro x hx; simp at hx : ∀ x ∈ ([] : List Rat), OkR x), World.ownsRow_nil _ _ _ _, trivial, Below.refl _ _⟩
  case round =>
    obtain ⟨k, xs, cs, hq, hk, hxl, rfl, HT, HOK, HROW, HNUM, hbw⟩ := hrel; have HQ := Lib.hid hq; have HXL := Lib.hid hxl; clear hq hxl
    by_cases hlt : k < ts.length
    · obtain ⟨e0, e1, e2⟩ := tCells_get ts k hlt; obtain ⟨b, off, rfl, c0⟩ := (Rd.below H.out hbw) _ _ e0; obtain ⟨b1, off1, e, c1⟩ := (Rd.below H.out hbw) _ _ e1
      injection e with e; injection e with e3 e4; subst e3; subst e4
      obtain ⟨b2, off2, e, c2⟩ := (Rd.below H.out hbw) _ _ e2
      injection e with e; injection e with e3 e4; subst e3; subst e4
      clear e0 e1 e2; have hI : (k : Int) < ts.length := by omega
      have HSK := Lib.hid (HS.out _ (List.getElem_mem hlt)); have HTK : Hid (ts.take (k + 1) = xs.map trip ++ [ts[k]]) := by show _ = _; rw [List.take_succ_eq_append_getElem hlt, HT.out]
      have HMEM : Hid (ts[k] ∈ ts) := List.getElem_mem hlt; generalize ts[k] = tk at c0 c1 c2 HSK HTK HMEM; obtain ⟨neg, s, t⟩ := tk; replace c0 : wr.cell? ⟨b, off + k * 3, none⟩ = some (.bool neg) := c0; replace c1 : wr.cell? ⟨b, off + k * 3 + 1, none⟩ = some (.string s) := c1; replace c2 : wr.cell? ⟨b, off + k * 3 + 2, none⟩ = some (.string t) := c2; obtain ⟨ob, hbb⟩ := new1 wr [.bool neg, .string s, .string t] 26
      go_upto_region 5 with (fail)
      generalize (wr.alloc (.cells #[.bool neg, .string s, .string t] 26)) = wa at ob hbb ⊢; obtain ⟨g0, g1, g2⟩ := ob.cells3
      by_cases hR : IsR neg s t
      · obtain ⟨x, hx, rfl, rfl, rfl⟩ := hR; have HX := Lib.hid hx; have HP1 := fun w => Lib.hid (parse_fr x.num.natAbs w hx.1); have HP2 := fun w => Lib.hid (parse_fr x.den w hx.2); have HTK2 : Hid (ts.take (k + 1) = (xs ++ [x]).map trip) := by show _ = _; rw [HTK.out, List.map_append]; rfl
        have HOK2 : Hid (∀ y ∈ xs ++ [x], OkR y) := by
          intro y hy
          rcases List.mem_append.1 hy with h | h
          · exact HOK.out y h
          · rw [List.mem_singleton.1 h]; exact HX.out
        clear hx HT HOK HTK HSK HMEM c0 c1 c2
        go_wp2_with fail
        refine (isratio_yes _ HX.out).mono ?_; rintro e wb ⟨rfl, hb1⟩; replace hbb := below6 hbb hb1; replace ob := ob.below hb1 ob.lt; replace hbw := below6 hbw hbb; replace HROW := Lib.hid (own_below1 HROW.out hbb); replace HNUM := Lib.hid (NumL.map (fun v n h => NatO.below h hbb) _ _ HNUM.out); have hold : ∀ k, u4.ownBlock = some k → k < wb.heap.size := fun k hk => by have := (own_lt2 HROW.out k hk); omega
        have HOLD := Lib.hid hold; clear hb1 g0 g1 g2 hold; generalize wr.heap.size = gb at ob ⊢; obtain ⟨c0, c1, c2⟩ := ob.cells3
        go_upto_region 7 with (fail)
        refine wp_reg_st [some 16, some 17, some 18, some 19, some 20, some 21, some 22, some 23, some 24, some 25, some 26, some 27, some 4] [isV ?v1_0, isV ?v1_1, isV ?v1_2, isV ?v1_3, isV ?v1_4, (fun v w' => NatO (fun k => k < wb.heap.size) w' v x.num.natAbs), isV ?v1_6, isV ?v1_7, (fun v w' => NatO (fun k => k < wb.heap.size) w' v x.den), (fun v w' => ∃ v1 v2, v = .agg #[.bool (decide (x.num < 0)), v1, v2] ∧ NatO (fun k => k < wb.heap.size) w' v1 x.num.natAbs ∧ NatO (fun k => k < wb.heap.size) w' v2 x.den), (fun v w' => ∃ b v1 v2, v = .slice (some ⟨b, 0, none⟩) 1 1 ∧ Own w' b 47 [.bool (decide (x.num < 0)), v1, v2] ∧ v1.oneCell' = true ∧ v2.oneCell' = true ∧ NatO (fun k => k < wb.heap.size) w' v1 x.num.natAbs ∧ NatO (fun k => k < wb.heap.size) w' v2 x.den), fun _ _ => False, fun _ _ => False] [anyV, anyV, anyV, anyV, anyV, anyV, anyV, anyV, anyV, anyV, anyV, (fun v w' => ∃ cs', w'.ownsRow w.heap.size 47 3 v (xs.length + 1) cs' ∧ NumL (fun k => v.ownBlock = some k) w' cs' (xs ++ [x])), (fun v w' => ∃ cs', w'.ownsRow w.heap.size 47 3 v (xs.length + 1) cs' ∧ NumL (fun k => v.ownBlock = some k) w' cs' (xs ++ [x]))] 11 [0, 1, 2, 3, 4, 5, 6, 7, 8, 9, 10] (fun _ => fun w' => Below w.heap.size w w') rfl (by kernel_rfl) rfl rfl (by decide) (by kernel_rfl) (by kernel_rfl) (fun _ _ _ _ h => h) ?k1 ?m1 ⟨?s1_0, ?s1_1, ?s1_2, ?s1_3, ?s1_4, ?s1_5, ?s1_6, ?s1_7, ?s1_8, ?s1_9, ?s1_10, ?s1_11, ?s1_12, trivial⟩ ?p1
        case s1_0 =>
          rw [if_neg (by decide)]
          constructor
          · rw [if_neg (by decide)]; intro t9 w9 hT9 hV9 hO9 K9 hK9; have o9_4 := hO9 4 _ (.inr ⟨12, _, rfl, rfl, rfl⟩) rfl; clear hV9 hO9; go_simp
            (refine hK9 _ _ (Grow.refl _) ?_; exact rfl)
          · rw [if_pos (by decide)]; trivial
        case s1_1 =>
          rw [if_neg (by decide)]
          constructor
          · rw [if_neg (by decide)]; intro t9 w9 hT9 hV9 hO9 K9 hK9; have o9_6 := hO9 6 _ (.inl (show List.contains _ _ = false from by kernel_rfl)) rfl; clear hV9 hO9; go_simp
            (refine hK9 _ _ (Grow.refl _) ?_; exact rfl)
          · rw [if_pos (by decide)]; trivial
        case s1_2 =>
          rw [if_neg (by decide)]
          constructor
          · rw [if_neg (by decide)]; intro t9 w9 hT9 hV9 hO9 K9 hK9; obtain ⟨x9_1, p9_1, q9_1⟩ := hV9.g 1 17 rfl rfl (by kernel_rfl); obtain rfl : x9_1 = ?v1_1 := q9_1; clear hV9 hO9; have d9_0 := grow_cell hT9 c0; have d9_1 := grow_cell hT9 c1; have d9_2 := grow_cell hT9 c2; go_simp
            (refine hK9 _ _ (Grow.refl _) ?_; exact rfl)
          · rw [if_pos (by decide)]; trivial
        case s1_3 =>
          rw [if_neg (by decide)]
          constructor
          · rw [if_neg (by decide)]; intro t9 w9 hT9 hV9 hO9 K9 hK9; have o9_6 := hO9 6 _ (.inl (show List.contains _ _ = false from by kernel_rfl)) rfl; clear hV9 hO9; go_simp
            (refine hK9 _ _ (Grow.refl _) ?_; exact rfl)
          · rw [if_pos (by decide)]; trivial
        case s1_4 =>
          rw [if_neg (by decide)]
          constructor
          · rw [if_neg (by decide)]; intro t9 w9 hT9 hV9 hO9 K9 hK9; obtain ⟨x9_3, p9_3, q9_3⟩ := hV9.g 3 19 rfl rfl (by kernel_rfl); obtain rfl : x9_3 = ?v1_3 := q9_3; clear hV9 hO9; have d9_0 := grow_cell hT9 c0; have d9_1 := grow_cell hT9 c1; have d9_2 := grow_cell hT9 c2; go_simp
            (refine hK9 _ _ (Grow.refl _) ?_; exact rfl)
          · rw [if_pos (by decide)]; trivial
        case s1_5 =>
          rw [if_neg (by decide)]
          constructor
          · rw [if_neg (by decide)]; intro t9 w9 hT9 hV9 hO9 K9 hK9; obtain ⟨x9_4, p9_4, q9_4⟩ := hV9.g 4 20 rfl rfl (by kernel_rfl); obtain rfl : x9_4 = ?v1_4 := q9_4; clear hV9 hO9; go_simp; refine (HP1 _).out.mono ?_; rintro _ w8 ⟨v8, rfl, hv8, hf8, hb8⟩; exact hK9 _ _ hb8 (hv8.fresh (fun k hk => Nat.le_trans hT9.size (hf8 k hk)))
          · rw [if_pos (by decide)]; trivial
        case s1_6 =>
          rw [if_neg (by decide)]
          constructor
          · rw [if_neg (by decide)]; intro t9 w9 hT9 hV9 hO9 K9 hK9; have o9_6 := hO9 6 _ (.inl (show List.contains _ _ = false from by kernel_rfl)) rfl; clear hV9 hO9; go_simp
            (refine hK9 _ _ (Grow.refl _) ?_; exact rfl)
          · rw [if_pos (by decide)]; trivial
        case s1_7 =>
          rw [if_neg (by decide)]
          constructor
          · rw [if_neg (by decide)]; intro t9 w9 hT9 hV9 hO9 K9 hK9; obtain ⟨x9_6, p9_6, q9_6⟩ := hV9.g 6 22 rfl rfl (by kernel_rfl); obtain rfl : x9_6 = ?v1_6 := q9_6; clear hV9 hO9; have d9_0 := grow_cell hT9 c0; have d9_1 := grow_cell hT9 c1; have d9_2 := grow_cell hT9 c2; go_simp
            (refine hK9 _ _ (Grow.refl _) ?_; exact rfl)
          · rw [if_pos (by decide)]; trivial
        case s1_8 =>
          rw [if_neg (by decide)]
          constructor
          · rw [if_neg (by decide)]; intro t9 w9 hT9 hV9 hO9 K9 hK9; obtain ⟨x9_7, p9_7, q9_7⟩ := hV9.g 7 23 rfl rfl (by kernel_rfl); obtain rfl : x9_7 = ?v1_7 := q9_7; clear hV9 hO9; go_simp; refine (HP2 _).out.mono ?_; rintro _ w8 ⟨v8, rfl, hv8, hf8, hb8⟩; exact hK9 _ _ hb8 (hv8.fresh (fun k hk => Nat.le_trans hT9.size (hf8 k hk)))
          · rw [if_pos (by decide)]; trivial
        case s1_9 =>
          rw [if_neg (by decide)]
          constructor
          · rw [if_neg (by decide)]; intro t9 w9 hT9 hV9 hO9 K9 hK9; obtain ⟨x9_2, p9_2, q9_2⟩ := hV9.g 2 18 rfl rfl (by kernel_rfl); obtain rfl : x9_2 = ?v1_2 := q9_2; obtain ⟨x9_5, p9_5, q9_5⟩ := hV9.g 5 21 rfl rfl (by kernel_rfl); replace q9_5 : ((fun v w' => NatO (fun k => k < wb.heap.size) w' v x.num.natAbs)) x9_5 _ := q9_5; obtain ⟨x9_8, p9_8, q9_8⟩ := hV9.g 8 24 rfl rfl (by kernel_rfl); replace q9_8 : ((fun v w' => NatO (fun k => k < wb.heap.size) w' v x.den)) x9_8 _ := q9_8; clear hV9 hO9; have q7 := q9_5; have q8 := q9_8; obtain ⟨A7, k7, rfl, -⟩ := q9_5; obtain ⟨A8, k8, rfl, -⟩ := q9_8; go_simp; exact hK9 _ _ (Grow.refl _) ⟨_, _, rfl, q7, q8⟩
          · rw [if_pos (by decide)]; trivial
        case s1_10 =>
          rw [if_neg (by decide)]
          constructor
          · rw [if_neg (by decide)]; intro t9 w9 hT9 hV9 hO9 K9 hK9; obtain ⟨x9_9, p9_9, q9_9⟩ := hV9.g 9 25 rfl rfl (by kernel_rfl); replace q9_9 : ((fun v w' => ∃ v1 v2, v = .agg #[.bool (decide (x.num < 0)), v1, v2] ∧ NatO (fun k => k < wb.heap.size) w' v1 x.num.natAbs ∧ NatO (fun k => k < wb.heap.size) w' v2 x.den)) x9_9 _ := q9_9; clear hV9 hO9; obtain ⟨v1, v2, rfl, h7, h8⟩ := q9_9; have q7 := h7; have q8 := h8; obtain ⟨A7, k7, rfl, -⟩ := h7; obtain ⟨A8, k8, rfl, -⟩ := h8; go_simp; have g8 := (Grow.refl w9).al (.cells #[.bool (decide (x.num < 0)), .slice A7 (dw x.num.natAbs).length k7, .slice A8 (dw x.den).length k8] 47); exact hK9 _ _ g8 ⟨_, _, _, rfl, Own.new _ _ [_, _, _], rfl, rfl, NatO.below q7 g8, NatO.below q8 g8⟩
          · rw [if_pos (by decide)]; trivial
        case s1_11 =>
          rw [if_pos (by decide)]; intro t9 w9 hT9 hV9 hO9 K9 hK9; obtain ⟨x9_0, p9_0, q9_0⟩ := hV9.g 0 16 (by decide) rfl (by kernel_rfl); obtain rfl : x9_0 = ?v1_0 := q9_0; obtain ⟨x9_10, p9_10, q9_10⟩ := hV9.g 10 26 (by decide) rfl (by kernel_rfl); replace q9_10 : ((fun v w' => ∃ b v1 v2, v = .slice (some ⟨b, 0, none⟩) 1 1 ∧ Own w' b 47 [.bool (decide (x.num < 0)), v1, v2] ∧ v1.oneCell' = true ∧ v2.oneCell' = true ∧ NatO (fun k => k < wb.heap.size) w' v1 x.num.natAbs ∧ NatO (fun k => k < wb.heap.size) w' v2 x.den)) x9_10 _ := q9_10; clear hV9 hO9; obtain ⟨b, v1, v2, rfl, ho, g1, g2, h7, h8⟩ := q9_10; have hrow := own_below1 HROW.out hT9.below; have hsz := hT9.below.size; have hsz2 := hbw.size; have hxl := HXL.out; have hcs : cs.length = xs.length * 3 := hrow.1; rw [if_pos (wanted_of rfl)]; refine wp_append_at (.tmp 16) (.tmp 26) 49 rfl w.heap.size 47 i0 _ 3 56 Tryz.underlying49 hi0 hz0 hz1 hz2 rfl (by decide) _ xs.length cs (eval_tmp p9_0) hrow ⟨b, 0, none⟩ 1 1 [.bool (decide (x.num < 0)), v1, v2] (eval_tmp p9_10) rfl (own_cells ho) ?_ (by unfold maxLen; omega) (by omega) (by have := hbw.size; omega) ?_
          · intro u hu
            simp at hu
            rcases hu with rfl | rfl | rfl
            · rfl
            · exact g1
            · exact g2
          intro v' w' hown' hgrow _ hat; refine hK9 _ _ ?_ ⟨_, hown', ?_⟩
          · exact (below6 hbw hT9.below).grown hgrow (by have := hbw.size; omega) (own_lt hrow)
          refine NumL.snoc ?_ ?_ _ _ (NumL.map (fun v n h => ?_) _ _ HNUM.out)
          · exact nato_row (h7.to fun k _ hk => HOLD.out k hk) hgrow hat
          · exact nato_row (h8.to fun k _ hk => HOLD.out k hk) hgrow hat
          · exact nato_row (h.below hT9.below) hgrow hat
        case s1_12 =>
          rw [if_neg (by decide)]
          constructor
          · rw [if_pos (by rfl)]; trivial
          · rw [if_neg (by decide)]; intro t9 w9 hV9 hO9 K9 hK9; obtain ⟨x9_11, p9_11, q9_11⟩ := hV9.g 11 27 rfl rfl (by kernel_rfl); have q9_11 := q9_11.late (by decide); replace q9_11 : ((fun v w' => ∃ cs', w'.ownsRow w.heap.size 47 3 v (xs.length + 1) cs' ∧ NumL (fun k => v.ownBlock = some k) w' cs' (xs ++ [x]))) x9_11 _ := q9_11; clear hV9 hO9; go_simp; exact hK9 _ q9_11
        case k1 =>
          intro i9 v9 w9 x9 h9 g9
          match i9, h9 with
          | 0, h9 => exact h9
          | 1, h9 => exact h9
          | 2, h9 => exact h9
          | 3, h9 => exact h9
          | 4, h9 => exact h9
          | 5, h9 => (replace h9 : (fun v w' => NatO (fun k => k < wb.heap.size) w' v x.num.natAbs) v9 w9 := h9); exact NatO.below h9 g9
          | 6, h9 => exact h9
          | 7, h9 => exact h9
          | 8, h9 => (replace h9 : (fun v w' => NatO (fun k => k < wb.heap.size) w' v x.den) v9 w9 := h9); exact NatO.below h9 g9
          | 9, h9 => (replace h9 : (fun v w' => ∃ v1 v2, v = .agg #[.bool (decide (x.num < 0)), v1, v2] ∧ NatO (fun k => k < wb.heap.size) w' v1 x.num.natAbs ∧ NatO (fun k => k < wb.heap.size) w' v2 x.den) v9 w9 := h9); obtain ⟨v1, v2, rfl, h7, h8⟩ := h9; exact ⟨v1, v2, rfl, NatO.below h7 g9, NatO.below h8 g9⟩
          | 10, h9 => (replace h9 : (fun v w' => ∃ b v1 v2, v = .slice (some ⟨b, 0, none⟩) 1 1 ∧ Own w' b 47 [.bool (decide (x.num < 0)), v1, v2] ∧ v1.oneCell' = true ∧ v2.oneCell' = true ∧ NatO (fun k => k < wb.heap.size) w' v1 x.num.natAbs ∧ NatO (fun k => k < wb.heap.size) w' v2 x.den) v9 w9 := h9); obtain ⟨b, v1, v2, rfl, h6, g1, g2, h7, h8⟩ := h9; exact ⟨b, v1, v2, rfl, h6.below g9 h6.lt, g1, g2, NatO.below h7 g9, NatO.below h8 g9⟩
          | 11, h9 => exact h9
          | 12, h9 => exact h9
          | _ + 13, h9 => exact trivial
        case m1 =>
          intro i9 v9 w9 x9 a s h
          match i9, a, s, h with
          | 0, a, _, _ => exact absurd (by decide) a
          | 1, a, _, _ => exact absurd (by decide) a
          | 2, a, _, _ => exact absurd (by decide) a
          | 3, a, _, _ => exact absurd (by decide) a
          | 4, a, _, _ => exact absurd (by decide) a
          | 5, a, _, _ => exact absurd (by decide) a
          | 6, a, _, _ => exact absurd (by decide) a
          | 7, a, _, _ => exact absurd (by decide) a
          | 8, a, _, _ => exact absurd (by decide) a
          | 9, a, _, _ => exact absurd (by decide) a
          | 10, a, _, _ => exact absurd (by decide) a
          | 11, _, s, _ => exact absurd rfl s
          | 12, _, _, h => exact False.elim h
          | _ + 13, _, _, _ => exact trivial
        intro u9 w9 hE9 hu9; obtain ⟨_, r9_0⟩ := (hu9 0 (by decide)).pre (by decide); replace r9_0 : u9 0 = ?v1_0 := r9_0; obtain ⟨_, r9_1⟩ := (hu9 1 (by decide)).pre (by decide); replace r9_1 : u9 1 = ?v1_1 := r9_1; obtain ⟨_, r9_2⟩ := (hu9 2 (by decide)).pre (by decide); replace r9_2 : u9 2 = ?v1_2 := r9_2; obtain ⟨_, r9_3⟩ := (hu9 3 (by decide)).pre (by decide); replace r9_3 : u9 3 = ?v1_3 := r9_3; obtain ⟨_, r9_4⟩ := (hu9 4 (by decide)).pre (by decide); replace r9_4 : u9 4 = ?v1_4 := r9_4; obtain ⟨_, r9_6⟩ := (hu9 6 (by decide)).pre (by decide); replace r9_6 : u9 6 = ?v1_6 := r9_6; obtain ⟨_, r9_7⟩ := (hu9 7 (by decide)).pre (by decide); replace r9_7 : u9 7 = ?v1_7 := r9_7; have r9_11 : (fun v w' => ∃ cs', w'.ownsRow w.heap.size 47 3 v (xs.length + 1) cs' ∧ NumL (fun k => v.ownBlock = some k) w' cs' (xs ++ [x])) (u9 11) w9 := (hu9 11 (by decide)).late (by decide); have r9_12 : (fun v w' => ∃ cs', w'.ownsRow w.heap.size 47 3 v (xs.length + 1) cs' ∧ NumL (fun k => v.ownBlock = some k) w' cs' (xs ++ [x])) (u9 12) w9 := (hu9 12 (by decide)).late (by decide)
        clear hu9
        simp only [putAll, Act.put, List.setIfInBounds_toArray, List.set_cons_succ, List.set_cons_zero, List.getD_cons_succ, List.getD_cons_zero, Nat.reduceAdd, Nat.zero_add]
        simp only [r9_0, r9_1, r9_2, r9_3, r9_4, r9_6, r9_7]
        clear r9_0 r9_1 r9_2 r9_3 r9_4 r9_6 r9_7; obtain ⟨cs2, hrow2, hnum2⟩ := r9_12; have HROW2 := Lib.hid hrow2; have HNUM2 := Lib.hid hnum2; clear r9_11 hrow2 hnum2 HROW HNUM ob hbb hbw c0 c1 c2 HP1 HP2 HOLD; generalize u9 12 = z12 at HROW2 HNUM2 ⊢; have hxl : xs.length + 1 = (xs ++ [x]).length := by simp
        rw [hxl] at HROW2; clear hxl
        go_wp2_with fail
        go_roundg (ts.length - (k + 1))
        case measure => have := HQ.out; omega
        case rel => exact ⟨k + 1, xs ++ [x], cs2, rfl, by omega, by have := HXL.out; simp; omega, by go_num, HTK2, HOK2, HROW2, HNUM2, hE9⟩
      · have HNO := Lib.hid hR; clear hR
        go_wp2_with fail
        refine (isratio_no _ HSK.out.1 HSK.out.2 HNO.out).mono ?_; rintro e wb ⟨rfl, hb1⟩; replace hbw := below6 (below6 hbw hbb) hb1; clear g0 g1 g2
        go_wp2
        go_ret2
        exact .inr ⟨⟨_, HMEM.out, HNO.out⟩, rfl, hbw⟩
    · obtain rfl : k = ts.length := by omega
      go_wp2
      go_ret2
      refine .inl ⟨xs, ?_, HOK.out, ⟨_, _, rfl, HROW.out, HNUM.out⟩, hbw⟩; rw [← HT.out, List.take_length]
end Go.Proofs.YtffldjghdcfpiaaGreatDoor
