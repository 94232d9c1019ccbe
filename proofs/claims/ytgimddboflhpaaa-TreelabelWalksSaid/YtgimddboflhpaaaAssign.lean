/- The program's Assign: what it returns. -/
import Derived.Test.YtgimddboflhpaaaRows
import Derived.Test.YtgimddboflhpaaaCheck
import Derived.Test.YtgimddboflhpaaaVisit
import Derived.Maps.AppendAt
import Derived.Deep.AppendLies
import Derived.Deep.RegionLaw
namespace Go.Proofs.Ytgimddboflhpaaa
set_option linter.unusedSimpArgs false
set_option linter.unusedVariables false
set_option linter.unusedSectionVars false
open Go.RowKit Tr
theorem row_info22 : (Try.prog.info? 22).map (fun i => (i.zero, i.size, i.bytes)) = some (some (.slice none 0 0), 1, 24) := by kernel_rfl
theorem lab_info41 : (Try.prog.info? 41).map (fun i => (i.zero, i.size, i.bytes)) = some (some (.agg #[.int .i64 0, .int .i64 0, .int .i64 0]), 3, 24) := by kernel_rfl
def nils (n : Nat) : List Value := (List.range n).map fun _ => .slice none 0 0
theorem run_make_rows (n : Nat) (hn : n ≤ 1073741824) (w : World) :
    (Instr.makeSlice 54 (.int .i64 (n : Int)) (.int .i64 (n : Int))).run Try.prog w = .ok (.slice (some ⟨w.heap.size, 0, none⟩) n n) (w.alloc (.cells (nils n).toArray 22)) := by
  obtain ⟨i0, hi0, hz0, hz1, hz2⟩ := info_parts row_info22
  have hr := run_make (P := Try.prog) w 54 22 i0 _ Try.underlying54 hi0 hz0 .i64 .i64 n n (by omega) (by omega) (by rw [hz2]; omega) (by omega)
  rw [hr, hz1]
  have : madeCells (Value.slice none 0 0).cells n = (nils n).toArray := by
    show madeCells #[Value.slice none 0 0] n = _
    rw [madeCells_one]
    congr 1
    simp [nils, List.map_const']
  simp only [Int.toNat_natCast, Nat.mul_one, this]
theorem cl_zero_get (n : Nat) : ∀ i, i < n * 3 → (cl (List.replicate n ((0, 0, 0) : Lab)))[i]? = some (.int .i64 0) := by
  induction n with
  | zero => intro i h; omega
  | succ n ih =>
    intro i h
    rw [List.replicate_succ, cl_cons]
    match i, h with
    | 0, _ => rfl
    | 1, _ => rfl
    | 2, _ => rfl
    | i + 3, h => simp only [List.getElem?_cons_succ]; exact ih i (by omega)
def labs0 (n : Nat) : List Value := cl (List.replicate n (0, 0, 0))
theorem madeCells_labs (n : Nat) : madeCells #[Value.int .i64 0, .int .i64 0, .int .i64 0] (n * 3) = (labs0 n).toArray := by
  apply Array.ext
  · simp [madeCells, labs0, cl_length]
  · intro i h1 h2
    have hi : i < n * 3 := by simpa [madeCells] using h1
    have e := cl_zero_get n i hi
    have e2 : (labs0 n).toArray[i] = .int .i64 0 := by
      simp only [List.getElem_toArray]
      have := List.getElem?_eq_getElem (l := labs0 n) (i := i) (by rw [labs0, cl_length]; simpa using hi)
      rw [show (labs0 n)[i]? = _ from e] at this
      injection this with this
      exact this.symm
    rw [e2]
    have h3 : i % 3 = 0 ∨ i % 3 = 1 ∨ i % 3 = 2 := by omega
    simp only [madeCells, Array.getElem_map, Array.getElem_range, List.size_toArray, List.length_cons, List.length_nil]
    rcases h3 with h | h | h <;> simp [h]
theorem run_make_labs {t e : TypeId} (ht : Try.prog.underlying t = some (.slice e)) (hi : (Try.prog.info? e).map (fun i => (i.zero, i.size, i.bytes)) = some (some (.agg #[.int .i64 0, .int .i64 0, .int .i64 0]), 3, 24)) (n : Nat) (hn : n ≤ 1073741824) (w : World) :
    (Instr.makeSlice t (.int .i64 (n : Int)) (.int .i64 (n : Int))).run Try.prog w = .ok (.slice (some ⟨w.heap.size, 0, none⟩) n n) (w.alloc (.cells (labs0 n).toArray e)) := by
  obtain ⟨i0, hi0, hz0, hz1, hz2⟩ := info_parts hi
  have hr := run_make (P := Try.prog) w t e i0 _ ht hi0 hz0 .i64 .i64 n n (by omega) (by omega) (by rw [hz2]; omega) (by omega)
  rw [hr, hz1]
  have : madeCells (Value.agg #[.int .i64 0, .int .i64 0, .int .i64 0]).cells (n * 3) = (labs0 n).toArray := madeCells_labs n
  simp only [Int.toNat_natCast, this]

def kidsTo (ps : List Int) (i : Nat) (p : Int) : List Int := ((List.range i).filter fun k => ps.getD k 0 == p).map Int.ofNat
theorem kidsTo_all (ps : List Int) (p : Int) : kidsTo ps ps.length p = kidsI ps p := rfl
theorem kidsTo_succ (ps : List Int) (i : Nat) (p : Int) : kidsTo ps (i + 1) p = if ps.getD i 0 = p then kidsTo ps i p ++ [(i : Int)] else kidsTo ps i p := by
  unfold kidsTo
  rw [List.range_succ, List.filter_append, List.map_append]
  split
  · rename_i h; rw [List.filter_cons, if_pos (by simpa using h)]; rfl
  · rename_i h; rw [List.filter_cons, if_neg (by simpa using h)]; simp
/-- The key of a row: row n holds the roots. -/
def key (n p : Nat) : Int := if p = n then -1 else p
theorem rows_step {ps : List Int} {n i p : Nat} (hi : i < ps.length) (hp : p ≤ n) (h : ps[i] = key n p) :
    (fun q => if q ≤ n then kidsTo ps (i + 1) (key n q) else []) = upd (fun q => if q ≤ n then kidsTo ps i (key n q) else []) p (kidsTo ps i (key n p) ++ [(i : Int)]) := by
  funext q
  unfold upd
  by_cases hq : q ≤ n
  · simp only [hq, if_true]
    rw [kidsTo_succ]
    have hg : ps.getD i 0 = ps[i] := by simp [List.getD, hi]
    rw [hg, h]
    by_cases e : q = p
    · subst e; simp
    · rw [if_neg e, if_neg]
      unfold key
      split <;> split <;> omega
  · simp only [hq, if_false]
    rw [if_neg (by omega)]

/-- The state while the children are gathered. -/
structure Gath (w : World) (B g gc gl n : Nat) (ps : List Int) (i : Nat) (R : Nat → Value) : Prop where
  wk : Wk w g gc gl n ((List.range n).map R) (Tr.start n)
  fam : Fam w B 3 (n + 1) R (fun q => if q ≤ n then kidsTo ps i (key n q) else [])
  ge : B ≤ g ∧ B ≤ gc ∧ B ≤ gl

theorem own3_0 (w : World) (t : TypeId) (cs : List Value) (o2 o3 : Obj) : Own ((((w.alloc (.cells cs.toArray t)).alloc o2).alloc o3).drew) w.heap.size t cs := ((Own.new w t cs).alloc o2).alloc o3
theorem own3_1 (w : World) (t : TypeId) (cs : List Value) (o1 o3 : Obj) : Own ((((w.alloc o1).alloc (.cells cs.toArray t)).alloc o3).drew) (w.heap.size + 1) t cs := by
  have := Own.new (w.alloc o1) t cs
  rw [size1] at this
  exact this.alloc o3
theorem own3_2 (w : World) (t : TypeId) (cs : List Value) (o1 o2 : Obj) : Own ((((w.alloc o1).alloc o2).alloc (.cells cs.toArray t)).drew) (w.heap.size + 1 + 1) t cs := by
  have := Own.new ((w.alloc o1).alloc o2) t cs
  rw [size1, size1] at this
  exact this
theorem below3 {w w1 : World} (h : Below w.heap.size w w1) (o1 o2 o3 : Obj) : Below w.heap.size w ((((w1.alloc o1).alloc o2).alloc o3).drew) :=
  (((h.alloc h.size o1).alloc (by rw [size1]; have := h.size; omega) o2).alloc (by rw [size2]; have := h.size; omega) o3).drew
theorem key_zero (ps : List Int) (n : Nat) : (fun q => if q ≤ n then kidsTo ps 0 (key n q) else []) = (fun _ => ([] : List Int)) := by
  funext q; split <;> rfl
theorem gath_init {W : World} {B g gc gl n : Nat} {ps : List Int} (hg : Own W g 56 [.slice (some ⟨gc, 0, none⟩) n n, .slice (some ⟨gl, 0, none⟩) n n, .int .i64 0, .int .i64 0])
    (hc : Own W gc 22 (nils n)) (hl : Own W gl 41 (labs0 n)) (h1 : B ≤ g) (h2 : B ≤ gc) (h3 : B ≤ gl) (h4 : g ≠ gc) (h5 : g ≠ gl) (h6 : gc ≠ gl) : Gath W B g gc gl n ps 0 (fun _ => .slice none 0 0) := by
  refine ⟨⟨hg, hc, hl, by simp, by simp [Tr.start], h4, h5, h6⟩, ?_, h1, h2, h3⟩
  rw [key_zero]
  exact Fam.nil _ _ _ _

theorem Wk.grown {w w' : World} {g gc gl n : Nat} {rows : List Value} {s : St} {row : Option Nat} (h : Wk w g gc gl n rows s) (hg : w.grownBy w' row) (h1 : some g ≠ row) (h2 : some gc ≠ row) (h3 : some gl ≠ row) : Wk w' g gc gl n rows s :=
  ⟨(hg.block g h.me.lt h1).trans h.me, (hg.block gc h.ch.lt h2).trans h.ch, (hg.block gl h.la.lt h3).trans h.la, h.len, h.lenL, h.d1, h.d2, h.d3⟩
theorem Wk.alloc {w : World} {g gc gl n : Nat} {rows : List Value} {s : St} (h : Wk w g gc gl n rows s) (o : Obj) : Wk (w.alloc o) g gc gl n rows s :=
  ⟨h.me.alloc o, h.ch.alloc o, h.la.alloc o, h.len, h.lenL, h.d1, h.d2, h.d3⟩
theorem Gath.alloc {w : World} {B g gc gl n i : Nat} {ps : List Int} {R : Nat → Value} (h : Gath w B g gc gl n ps i R) (o : Obj) : Gath (w.alloc o) B g gc gl n ps i R := ⟨h.wk.alloc o, h.fam.alloc o, h.ge⟩
theorem Gath.drew {w : World} {B g gc gl n i : Nat} {ps : List Int} {R : Nat → Value} (h : Gath w B g gc gl n ps i R) : Gath w.drew B g gc gl n ps i R := ⟨⟨h.wk.me, h.wk.ch, h.wk.la, h.wk.len, h.wk.lenL, h.wk.d1, h.wk.d2, h.wk.d3⟩, h.fam.drew, h.ge⟩
theorem range_upd_ne {R : Nat → Value} {n : Nat} {v : Value} : (List.range n).map (upd R n v) = (List.range n).map R := by
  apply List.map_congr_left
  intro a ha
  exact upd_ne _ _ (by have := List.mem_range.1 ha; omega)
theorem range_upd {R : Nat → Value} {n p : Nat} {v : Value} : ((List.range n).map R).set p v = (List.range n).map (upd R p v) := by
  apply List.ext_getElem
  · simp
  · intro i h1 h2
    simp only [List.getElem_set, List.getElem_map, List.getElem_range]
    split
    · rename_i e; rw [e, upd_same]
    · rename_i e; rw [upd_ne _ _ (fun e' => e e'.symm)]
theorem Gath.ne {w : World} {B g gc gl n i : Nat} {ps : List Int} {R : Nat → Value} (h : Gath w B g gc gl n ps i R) {p : Nat} (hp : p ≤ n) : some g ≠ (R p).ownBlock ∧ some gc ≠ (R p).ownBlock ∧ some gl ≠ (R p).ownBlock := by
  have ho := h.fam.own p (by omega)
  exact ⟨fun e => own_blk_ne ho h.wk.me (by decide) e.symm, fun e => own_blk_ne ho h.wk.ch (by decide) e.symm, fun e => own_blk_ne ho h.wk.la (by decide) e.symm⟩
theorem Gath.fam_app {w w' : World} {B g gc gl n i : Nat} {ps : List Int} {R : Nat → Value} (h : Gath w B g gc gl n ps i R) (hi : i < ps.length) {p : Nat} (hp : p ≤ n) (hk : ps[i] = key n p) {v' : Value}
    (hown : w'.ownsRow B 3 1 v' ((kidsTo ps i (key n p)).length + 1) (ci (kidsTo ps i (key n p)) ++ [.int .i64 i])) (hg : w.grownBy w' (R p).ownBlock) (hat : v'.ownBlock = (R p).ownBlock ∨ v'.ownBlock = some w.heap.size) :
    Fam w' B 3 (n + 1) (upd R p v') (fun q => if q ≤ n then kidsTo ps (i + 1) (key n q) else []) := by
  have e : (fun q => if q ≤ n then kidsTo ps i (key n q) else []) p = kidsTo ps i (key n p) := if_pos hp
  have := h.fam.app (p := p) (by omega) (x := i) (v' := v') (w' := w') (by simp only [hp, if_true]; exact hown) hg hat
  rw [rows_step hi hp hk]
  simpa only [hp, if_true] using this
theorem Gath.root {w w' : World} {B g gc gl n i : Nat} {ps : List Int} {R : Nat → Value} (h : Gath w B g gc gl n ps i R) (hi : i < ps.length) (hk : ps[i] = -1) {v' : Value}
    (hown : w'.ownsRow B 3 1 v' ((kidsTo ps i (-1)).length + 1) (ci (kidsTo ps i (-1)) ++ [.int .i64 i])) (hg : w.grownBy w' (R n).ownBlock) (hat : v'.ownBlock = (R n).ownBlock ∨ v'.ownBlock = some w.heap.size) :
    Gath w' B g gc gl n ps (i + 1) (upd R n v') := by
  have e : key n n = -1 := if_pos rfl
  have hne := h.ne (Nat.le_refl n)
  refine ⟨?_, h.fam_app hi (Nat.le_refl n) (by rw [e]; exact hk) (by rw [e]; exact hown) hg hat, h.ge⟩
  rw [range_upd_ne]
  exact h.wk.grown hg hne.1 hne.2.1 hne.2.2
theorem Gath.kid {w w' : World} {B g gc gl n i : Nat} {ps : List Int} {R : Nat → Value} (h : Gath w B g gc gl n ps i R) (hi : i < ps.length) {p : Nat} (hp : p < n) (hk : ps[i] = (p : Int)) {v' : Value}
    (hown : w'.ownsRow B 3 1 v' ((kidsTo ps i p).length + 1) (ci (kidsTo ps i p) ++ [.int .i64 i])) (hg : w.grownBy w' (R p).ownBlock) (hat : v'.ownBlock = (R p).ownBlock ∨ v'.ownBlock = some w.heap.size) :
    Gath (w'.setCell ⟨gc, p, none⟩ v') B g gc gl n ps (i + 1) (upd R p v') := by
  have e : key n p = (p : Int) := if_neg (by omega)
  have hne := h.ne (Nat.le_of_lt hp)
  have hf := h.fam_app hi (Nat.le_of_lt hp) (by rw [e]; exact hk) (by rw [e]; exact hown) hg hat
  have hw := h.wk.grown hg hne.1 hne.2.1 hne.2.2
  refine ⟨⟨hw.me.far (p := ⟨gc, p, none⟩) hw.d1 _, ?_, hw.la.far (p := ⟨gc, p, none⟩) (fun e => hw.d3 e.symm) _, by simp, hw.lenL, hw.d1, hw.d2, hw.d3⟩, hf.store hw.ch (by decide) _ _, h.ge⟩
  rw [← range_upd]
  exact hw.ch.set_ p v'

set_option maxHeartbeats 1000000 in
theorem assign_bad (A : Option Addr) (c : Nat) (ps : List Int) (w : World) (hA : Ints w A ps) (hx : ps.length ≤ maxLen) (hb : (chk ps).2 ≠ 0) :
    Calls Try.prog 11 #[.slice A ps.length c] w fun e w' => e = .returned (.tuple #[.slice none 0 0, .int .i64 (chk ps).1, .int .i64 (chk ps).2]) ∧ Below w.heap.size w w' := by
  have hne : ((chk ps).2 != 0) = true := by simpa using hb
  have hb' := Lib.hid hb; clear hb
  go_enter Try.func11, Try.ntmps11
  go_wp2_with (go_at_call 31; refine (check_any A c ps _ hA hx).mono ?_; rintro e w1 ⟨rfl, hb1⟩)
  go_ret3
  exact ⟨rfl, hb1⟩

def AssignPost (ps : List Int) (w : World) (e : Ending) (w' : World) : Prop :=
  ∃ v, e = .returned (.tuple #[v, .int .i64 0, .int .i64 0]) ∧ Sl w' v ps.length (cl (labels ps)) ∧ Below w.heap.size w w'

set_option maxHeartbeats 2000000 in
theorem assign_ok (A : Option Addr) (c : Nat) (ps : List Int) (w : World) (hA : Ints w A ps) (hc0 : chk ps = (0, 0)) :
    Calls Try.prog 11 #[.slice A ps.length c] w (AssignPost ps w) := by
  obtain ⟨hn, hv, ha, -⟩ := chk_zero (by rw [hc0])
  have hcheck : ∀ w, Ints w A ps → Calls Try.prog 31 #[.slice A ps.length c] w fun e w' => e = .returned (.tuple #[.int .i64 0, .int .i64 0]) ∧ Below w.heap.size w w' := by
    intro w h
    have := check_any A c ps w h (by unfold maxLen; omega)
    rw [hc0] at this
    exact this
  have HC := Lib.hid hcheck; clear hcheck hc0
  have mk1 := fun w => run_make_rows ps.length (by omega) w
  have mk2 := fun w => run_make_labs Try.underlying23 lab_info41 ps.length (by omega) w
  go_enter Try.func11, Try.ntmps11
  go_upto_region 4 with (go_at_call 31; refine (HC.out _ hA).mono ?_; rintro e w1 ⟨rfl, hb1⟩)
  go_cut [7] (fun s7 wx => ∃ g gc gl, s7 = .pointer (some ⟨g, 0, none⟩) ∧ Gath wx w.heap.size g gc gl ps.length ps 0 (fun _ => .slice none 0 0) ∧ Below w.heap.size w wx)
  case first =>
    go_region
    all_goals (go_wp2_with fail; go_meet)
    all_goals have hs := hb1.size
    all_goals exact ⟨_, _, _, rfl, gath_init (by first | exact own3_0 _ _ _ _ _ | exact own3_1 _ _ _ _ _ | exact own3_2 _ _ _ _ _) (by first | exact own3_0 _ _ _ _ _ | exact own3_1 _ _ _ _ _ | exact own3_2 _ _ _ _ _) (by first | exact own3_0 _ _ _ _ _ | exact own3_1 _ _ _ _ _ | exact own3_2 _ _ _ _ _) (by omega) (by omega) (by omega) (by omega) (by omega) (by omega), below3 hb1 _ _ _⟩
  case rest =>
    obtain ⟨g, gc, gl, rfl, hG, hbw⟩ := hcut
    obtain ⟨i3, hi3, hz30, hz31, hz32⟩ := info_parts int_info3
    go_wp2
    go_loopg [8, 31] ps.length (fun q v k wr => ∃ (i : Nat) (R : Nat → Value), q = ps.length - i ∧ i ≤ ps.length ∧ k = .int .i64 i ∧ v = R ps.length ∧ Gath wr w.heap.size g gc gl ps.length ps i R ∧ Below w.heap.size w wr)
    case atStart => exact ⟨0, _, rfl, Nat.zero_le _, rfl, rfl, hG, hbw⟩
    case round =>
      clear hG hbw
      obtain ⟨i, R, hq, hi, rfl, rfl, hG, hbw⟩ := hrel
      have HQ := Lib.hid hq; clear hq
      have hbs := hbw.size
      by_cases hlt : i < ps.length
      · obtain ⟨b, off, rfl, hc⟩ := (hA.below hbw).get hlt
        have hvi := hv i hlt
        by_cases hneg : ps[i] < 0
        · have hown0 : wr.ownsRow w.heap.size 3 1 (R ps.length) (kidsTo ps i (-1)).length (ci (kidsTo ps i (-1))) := by
            have := hG.fam.own ps.length (by omega)
            simpa [key] using this
          have hkl : (kidsTo ps i (-1)).length ≤ 4096 := by
            have h1 := List.length_filter_le (fun k => ps.getD k 0 == (-1 : Int)) (List.range i)
            simp only [kidsTo, List.length_map, List.length_range] at h1 ⊢
            omega
          have h63 : (kidsTo ps i (-1)).length + 1 ≤ maxLen := by unfold maxLen; omega
          go_wp2_with (at_builtin; refine wpList_append_own_at _ rfl (.tmp 38) (.tmp 40) 22 rfl w.heap.size 3 i3 _ 1 8 Try.underlying22 hi3 hz30 hz31 hz32 rfl (by decide) _ (kidsTo ps i (-1)).length (ci (kidsTo ps i (-1))) rfl (hown0.alloc _) ⟨wr.heap.size, 0, none⟩ 1 1 [.int .i64 i] rfl rfl (new_cells _ _ _ _ rfl) (by simp [Value.oneCell']) h63 (by omega) (by rw [size1]; omega) ?_)
          intro v' w2 hown2 hg2 _ hat2
          have hG2 := (hG.alloc _).root hlt (by omega) hown2 hg2 (by rw [size1]; exact hat2)
          have hb2 : Below w.heap.size w w2 := (hbw.alloc hbw.size _).grown hg2 (by rw [size1]; omega) (own_lt hown0)
          clear hown2 hg2 hat2 hown0 hc
          have hv2 : Hid (v' = upd R ps.length v' ps.length) := (upd_same _ _ _).symm
          go_wp2
          go_roundg (ps.length - (i + 1))
          case measure => have := HQ.out; omega
          case rel => exact ⟨i + 1, _, rfl, by omega, by go_num, hv2.out, hG2, hb2⟩
        · obtain ⟨p, hp⟩ : ∃ p : Nat, ps[i] = (p : Int) := ⟨ps[i].toNat, by omega⟩
          have hpn : p < ps.length := by omega
          rw [hp] at hc hneg
          have HP := Lib.hid hp; clear hp
          have hown0 : wr.ownsRow w.heap.size 3 1 (R p) (kidsTo ps i p).length (ci (kidsTo ps i p)) := by
            have := hG.fam.own p (by omega)
            have e1 : p ≤ ps.length := by omega
            have e2 : key ps.length p = (p : Int) := if_neg (by omega)
            simpa only [e1, if_true, e2] using this
          have hkl : (kidsTo ps i p).length ≤ 4096 := by
            have h1 := List.length_filter_le (fun k => ps.getD k 0 == (p : Int)) (List.range i)
            simp only [kidsTo, List.length_map, List.length_range] at h1 ⊢
            omega
          have h63 : (kidsTo ps i p).length + 1 ≤ maxLen := by unfold maxLen; omega
          have q0 : wr.cell? ⟨g, 0, none⟩ = some (.slice (some ⟨gc, 0, none⟩) ps.length ps.length) := by rw [hG.wk.me.cell]; rfl
          have q1 : wr.cell? ⟨gc, p, none⟩ = some (R p) := by rw [hG.wk.ch.cell]; simp [hpn]
          have hvi2 : (p : Int) < ps.length := by omega
          clear hvi
          go_wp2
          have hG1 := (hG.alloc (.cells #[.int .i64 i] 3)).drew
          have hne1 := Lib.hid (hG1.ne (p := p) (by omega))
          clear hc
          have q0' : (wr.alloc (.cells #[.int .i64 i] 3)).cell? ⟨g, 0, none⟩ = some (.slice (some ⟨gc, 0, none⟩) ps.length ps.length) := by rw [(hG.alloc _).wk.me.cell]; rfl
          have q1' : (wr.alloc (.cells #[.int .i64 i] 3)).cell? ⟨gc, p, none⟩ = some (R p) := by rw [(hG.alloc _).wk.ch.cell]; simp [hpn]
          go_region_law (refine step_append_lies _ rfl (.tmp 49) (.tmp 51) 22 rfl w.heap.size 3 i3 _ 1 8 Try.underlying22 hi3 hz30 hz31 hz32 rfl (by decide) _ (kidsTo ps i p).length (ci (kidsTo ps i p)) rfl (hown0.drew.alloc _) ⟨wr.heap.size, 0, none⟩ 1 1 [.int .i64 i] rfl rfl (new_cells _ _ _ _ rfl) (by simp [Value.oneCell']) (by omega) h63 (by omega) (by show _ ≤ (wr.alloc _).heap.size; rw [size1]; omega) _ rfl ?_; intro g' cap' w2 hown2 hg2 hat2 hlt2; have hw2 := hG1.wk.grown hg2 hne1.out.1 hne1.out.2.1 hne1.out.2.2; have s0 : w2.cell? ⟨gc, p, none⟩ = some (R p) := (by rw [hw2.ch.cell]; simp [hpn]); have s1 : w2.frozen? ⟨gc, p, none⟩ = false := hw2.ch.frozen _; have s2 : w2.cell? ⟨g, 0, none⟩ = some (.slice (some ⟨gc, 0, none⟩) ps.length ps.length) := (by rw [hw2.me.cell]; rfl))
          all_goals
            have hG3 := hG1.kid hlt hpn HP.out hown2 hg2 (hat2.elim (fun e => .inl e.symm) (fun e => .inr (by show some g' = _; rw [e])))
            have hb3 : Below w.heap.size w (w2.setCell ⟨gc, p, none⟩ (.slice (some ⟨g', 0, none⟩) ((kidsTo ps i p).length + 1) cap')) :=
              (((hbw.alloc hbw.size _).drew).grown hg2 (by show _ ≤ (wr.alloc _).heap.size; rw [size1]; omega) (own_lt hown0)).setCell (p := ⟨gc, p, none⟩) hG.ge.2.1 _
            have hRn : Hid (R ps.length = upd R p (.slice (some ⟨g', 0, none⟩) ((kidsTo ps i p).length + 1) cap') ps.length) := (upd_ne _ _ (by omega)).symm
            clear hown2 hg2 hat2 hown0 hw2 s0 s1 s2 q0 q1 q0' q1' hlt2 hG1 hG
            go_wp2
            go_roundg (ps.length - (i + 1))
            case measure => have := HQ.out; omega
            case rel => exact ⟨i + 1, _, rfl, by omega, by go_num, hRn.out, hG3, hb3⟩
      · obtain rfl : i = ps.length := by omega
        have hroot : wr.ownsRow w.heap.size 3 1 (R ps.length) (kids ps (-1)).length (ci (kidsI ps (-1))) := by
          have := hG.fam.own ps.length (by omega)
          simp only [Nat.le_refl, if_true] at this
          rw [show key ps.length ps.length = -1 from if_pos rfl, kidsTo_all, kidsI_length] at this
          exact this
        have hrows : RowsOk (two g gl) ps wr ((List.range ps.length).map R) ps.length := by
          intro p hp
          have h1 := hG.fam.own p (by omega)
          have e1 : p ≤ ps.length := by omega
          have e2 : key ps.length p = (p : Int) := if_neg (by omega)
          simp only [e1, if_true, e2, kidsTo_all, kidsI_length] at h1
          obtain ⟨A', c', e, _, _, ho⟩ := own_out (S := two g gl) h1 (fun k hk => by
            have hne := hG.ne (p := p) e1
            rintro (rfl | rfl)
            · exact hne.1 hk.symm
            · exact hne.2.2 hk.symm)
          exact ⟨A', c', by simp [hp, e], ho⟩
        obtain ⟨Ar, cr, er, _, hcr, hor⟩ := own_out (S := two g gl) hroot (fun k hk => by
            have hne := hG.ne (p := ps.length) (Nat.le_refl _)
            rintro (rfl | rfl)
            · exact hne.1 hk.symm
            · exact hne.2.2 hk.symm)
        have hwk := hG.wk
        have hge := hG.ge
        have hkl := kids_length_le ps (-1)
        clear hroot hG
        rw [er]
        clear er
        have hlen := all_len_le hv ha
        go_wp2
        obtain ⟨w5, hw5⟩ : ∃ w5 : World, w5 = wr := ⟨wr, rfl⟩
        go_loopg [57] (kids ps (-1)).length (fun q k w6 => ∃ m : Nat, q = (kids ps (-1)).length - m ∧ m ≤ (kids ps (-1)).length ∧ k = .int .i64 m ∧ Wk w6 g gc gl ps.length ((List.range ps.length).map R) (visits ps ps.length ((kids ps (-1)).take m) 0 (Tr.start ps.length)) ∧ Chg (two g gl) w5 w6)
        case atStart => exact ⟨0, rfl, Nat.zero_le _, rfl, hwk, by rw [hw5]; exact Chg.refl _ _⟩
        case round =>
          rw [← hw5] at hrows hor hbw
          clear hw5 hwk
          obtain ⟨m, hq, hm, rfl, hw2, hc2⟩ := hrel
          have HQ1 := Lib.hid hq; clear hq
          by_cases hlt2 : m < (kids ps (-1)).length
          · have hrows2 := hrows.chg hc2
            have hki : (kidsI ps (-1))[m]'(by rw [kidsI_length]; exact hlt2) = (((kids ps (-1))[m] : Nat) : Int) := by simp [kidsI]
            obtain ⟨b, off, rfl, hcell⟩ := (hor.chg hc2).rd.get (k := m) (by simpa [kidsI_length] using hlt2)
            have hcell' : wr.cell? ⟨b, off + m, none⟩ = some (.int .i64 ((kids ps (-1))[m] : Nat)) := by
              rw [hcell]; simp [ci, kidsI]
            clear hcell hki
            have hvp := visits_pre ps ps.length (visit_pre ps _) ((kids ps (-1)).take m) 0 (Tr.start ps.length)
            have hfl := flat_take_le (desc ps ps.length) (kids ps (-1)) m hlt2
            have e1 : (Tr.start ps.length).pre = 0 := rfl
            have e2 : (Tr.start ps.length).post = 0 := rfl
            have B0 : Hid (0 ≤ (visits ps ps.length ((kids ps (-1)).take m) 0 (Tr.start ps.length)).pre) := by show _ ≤ _; omega
            have B1 : Hid ((visits ps ps.length ((kids ps (-1)).take m) 0 (Tr.start ps.length)).pre + (desc ps ps.length (kids ps (-1))[m]).length ≤ 8192) := by show _ ≤ _; omega
            have B2 : Hid (0 ≤ (visits ps ps.length ((kids ps (-1)).take m) 0 (Tr.start ps.length)).post) := by show _ ≤ _; omega
            have B3 : Hid ((visits ps ps.length ((kids ps (-1)).take m) 0 (Tr.start ps.length)).post + (desc ps ps.length (kids ps (-1))[m]).length ≤ 8192) := by show _ ≤ _; omega
            clear hvp hfl e1 e2
            have hkm := kids_lt (List.getElem_mem hlt2)
            go_wp2_with fail
            refine (visit_any ps g gc gl ps.length _ hn rfl ps.length (kids ps (-1))[m] 0 _ _ (deep_root hv ha hkm) hw2 hkm hrows2 B0.out B1.out B2.out B3.out (by omega) (by omega)).mono ?_
            rintro e w3 ⟨rfl, hw3, hc3⟩
            go_wp2
            go_roundg ((kids ps (-1)).length - (m + 1))
            case measure => have := HQ1.out; omega
            case rel => exact ⟨m + 1, rfl, by omega, by go_num, by rw [visits_take _ _ _ _ hlt2]; exact hw3, hc2.trans hc3⟩
          · obtain rfl : m = (kids ps (-1)).length := by omega
            rw [List.take_length] at hw2
            have q1 : wr.cell? ⟨g, 1, none⟩ = some (.slice (some ⟨gl, 0, none⟩) ps.length ps.length) := by rw [hw2.me.cell]; rfl
            go_wp2
            go_ret3
            refine ⟨_, rfl, ⟨_, _, rfl, Nat.le_refl _, by unfold maxLen; omega, hw2.la.rd0⟩, ?_⟩
            refine hbw.trans (hc2.below ?_ hbw.size)
            intro k hk
            rintro (rfl | rfl)
            · exact absurd hge.1 (by omega)
            · exact absurd hge.2.2 (by omega)
end Go.Proofs.Ytgimddboflhpaaa
