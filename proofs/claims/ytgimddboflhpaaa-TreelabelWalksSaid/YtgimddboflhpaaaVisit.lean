/- The program's walk of a forest: what it does. -/
import Derived.Test.YtgimddboflhpaaaRows
import Derived.Test.YtgimddboflhpaaaLabs
import Derived.Deep.QuietTactic
import Derived.BigQuiet
import Derived.BigRegion
import Derived.Deep.LoopGhost
import Derived.Deep.DeepCutAuto
namespace Go.Proofs.Ytgimddboflhpaaa
set_option linter.unusedSimpArgs false
set_option linter.unusedVariables false
set_option linter.unusedSectionVars false
open Go.RowKit Tr

theorem cl_enter (p d : Int) : ∀ (l : List Lab) (i : Nat), ((cl l).set (i * 3) (.int .i64 p)).set (i * 3 + 2) (.int .i64 d) = cl (l.modify i fun x => (p, x.2.1, d)) := by
  intro l
  induction l with
  | nil => intro i; simp [cl]
  | cons x l ih =>
    intro i
    cases i with
    | zero => simp [cl_cons]
    | succ i =>
      have e : (i + 1) * 3 = i * 3 + 1 + 1 + 1 := by omega
      have e2 : i * 3 + 1 + 1 + 1 + 2 = (i * 3 + 2) + 1 + 1 + 1 := by omega
      simp only [cl_cons, e, e2, List.set_cons_succ, List.modify_succ_cons]
      rw [ih i]
theorem cl_leave (q : Int) : ∀ (l : List Lab) (i : Nat), (cl l).set (i * 3 + 1) (.int .i64 q) = cl (l.modify i fun x => (x.1, q, x.2.2)) := by
  intro l
  induction l with
  | nil => intro i; simp [cl]
  | cons x l ih =>
    intro i
    cases i with
    | zero => simp [cl_cons]
    | succ i =>
      have e2 : (i + 1) * 3 + 1 = (i * 3 + 1) + 1 + 1 + 1 := by omega
      simp only [cl_cons, e2, List.set_cons_succ, List.modify_succ_cons]
      rw [ih i]
theorem visits_pre (ps : List Int) (f : Nat) (h : ∀ i d s, (visit ps f i d s).pre = s.pre + (desc ps f i).length ∧ (visit ps f i d s).post = s.post + (desc ps f i).length) (ks : List Nat) : ∀ d s, (visits ps f ks d s).pre = s.pre + (ks.flatMap (desc ps f)).length ∧ (visits ps f ks d s).post = s.post + (ks.flatMap (desc ps f)).length := by
  induction ks with
  | nil => intro d s; simp [visits]
  | cons k ks ih =>
    intro d s
    have h1 := h k d s
    have h2 := ih d (visit ps f k d s)
    simp only [visits, List.foldl_cons, List.flatMap_cons, List.length_append] at h2 ⊢
    omega
theorem visit_pre (ps : List Int) : ∀ f i d s, (visit ps f i d s).pre = s.pre + (desc ps f i).length ∧ (visit ps f i d s).post = s.post + (desc ps f i).length := by
  intro f
  induction f with
  | zero => intro i d s; simp [visit, desc]
  | succ f ih =>
    intro i d s
    have h := visits_pre ps f ih (kids ps i) (d + 1) (enter i d s)
    simp only [visits] at h
    simp only [visit, desc, leave, List.length_cons]
    have e : (enter i d s).pre = s.pre + 1 := rfl
    have e' : (enter i d s).post = s.post := rfl
    omega
theorem visits_take (ps : List Int) (f : Nat) (ks : List Nat) (m : Nat) (h : m < ks.length) (d : Int) (s : St) : visits ps f (ks.take (m + 1)) d s = visit ps f ks[m] d (visits ps f (ks.take m) d s) := by
  unfold visits; rw [List.take_succ_eq_append_getElem h, List.foldl_append]; rfl
theorem flat_take_le (g : Nat → List Nat) (ks : List Nat) (m : Nat) (h : m < ks.length) : ((ks.take m).flatMap g).length + (g ks[m]).length ≤ (ks.flatMap g).length := by
  have e : ks = ks.take m ++ ks[m] :: ks.drop (m + 1) := by rw [List.getElem_cons_drop, List.take_append_drop]
  have : (ks.flatMap g).length = ((ks.take m ++ ks[m] :: ks.drop (m + 1)).flatMap g).length := by rw [← e]
  rw [this]
  simp only [List.flatMap_append, List.flatMap_cons, List.length_append]
  omega
theorem flat_take_le' (g : Nat → List Nat) (ks : List Nat) (m : Nat) : ((ks.take m).flatMap g).length ≤ (ks.flatMap g).length := by
  have : (ks.flatMap g).length = ((ks.take m ++ ks.drop m).flatMap g).length := by rw [List.take_append_drop]
  rw [this]
  simp only [List.flatMap_append, List.length_append]
  omega

/-- The children as numbers of the program. -/
def kidsI (ps : List Int) (i : Int) : List Int := (kids ps i).map Int.ofNat
theorem kidsI_length (ps : List Int) (i : Int) : (kidsI ps i).length = (kids ps i).length := by simp [kidsI]

theorem kids_length_le (ps : List Int) (i : Int) : (kids ps i).length ≤ ps.length := by
  have h1 := List.length_filter_le (fun k => ps.getD k 0 == i) (List.range ps.length)
  rw [List.length_range] at h1
  exact h1

/-- The walker in memory. -/
structure Wk (w : World) (g gc gl n : Nat) (rows : List Value) (s : St) : Prop where
  me : Own w g 56 [.slice (some ⟨gc, 0, none⟩) n n, .slice (some ⟨gl, 0, none⟩) n n, .int .i64 s.pre, .int .i64 s.post]
  ch : Own w gc 22 rows
  la : Own w gl 41 (cl s.L)
  len : rows.length = n
  lenL : s.L.length = n
  d1 : g ≠ gc
  d2 : g ≠ gl
  d3 : gc ≠ gl
/-- The rows of children. -/
def RowsOk (S : Nat → Prop) (ps : List Int) (w : World) (rows : List Value) (n : Nat) : Prop :=
  ∀ p : Nat, p < n → ∃ A c, rows[p]? = some (.slice A (kids ps p).length c) ∧ RdOut S w A (ci (kidsI ps p))
theorem RowsOk.chg {S : Nat → Prop} {ps : List Int} {w w' : World} {rows : List Value} {n : Nat} (h : RowsOk S ps w rows n) (hc : Chg S w w') : RowsOk S ps w' rows n := fun p hp =>
  let ⟨A, c, e, hr⟩ := h p hp; ⟨A, c, e, hr.chg hc⟩

abbrev two (g gl : Nat) : Nat → Prop := fun k => k = g ∨ k = gl
theorem Wk.enter {w : World} {g gc gl n : Nat} {rows : List Value} {s : St} (h : Wk w g gc gl n rows s) (i : Nat) (d : Int) :
    Wk ((((w.setCell ⟨gl, i * 3, none⟩ (.int .i64 s.pre)).setCell ⟨gl, i * 3 + 2, none⟩ (.int .i64 d)).setCell ⟨g, 2, none⟩ (.int .i64 (s.pre + 1))).drew) g gc gl n rows (enter i d s) := by
  refine ⟨?_, ?_, ?_, h.len, by simp [Tr.enter, h.lenL], h.d1, h.d2, h.d3⟩
  · exact Own.set_ ((h.me.far (p := ⟨gl, i * 3, none⟩) h.d2 (.int .i64 s.pre)).far (p := ⟨gl, i * 3 + 2, none⟩) h.d2 (.int .i64 d)) 2 (.int .i64 (s.pre + 1))
  · exact Own.far ((h.ch.far (p := ⟨gl, i * 3, none⟩) h.d3 (.int .i64 s.pre)).far (p := ⟨gl, i * 3 + 2, none⟩) h.d3 (.int .i64 d)) (p := ⟨g, 2, none⟩) (fun e => h.d1 e.symm) (.int .i64 (s.pre + 1))
  · have h1 : Own ((w.setCell ⟨gl, i * 3, none⟩ (.int .i64 s.pre)).setCell ⟨gl, i * 3 + 2, none⟩ (.int .i64 d)) gl 41 _ := (h.la.set_ (i * 3) (.int .i64 s.pre)).set_ (i * 3 + 2) (.int .i64 d)
    rw [cl_enter] at h1
    exact h1.far (p := ⟨g, 2, none⟩) (fun e => h.d2 e.symm) (.int .i64 (s.pre + 1))
theorem Wk.leave {w : World} {g gc gl n : Nat} {rows : List Value} {s : St} (h : Wk w g gc gl n rows s) (i : Nat) :
    Wk ((((w.setCell ⟨gl, i * 3 + 1, none⟩ (.int .i64 s.post))).setCell ⟨g, 3, none⟩ (.int .i64 (s.post + 1))).drew) g gc gl n rows (leave i s) := by
  refine ⟨?_, ?_, ?_, h.len, by simp [Tr.leave, h.lenL], h.d1, h.d2, h.d3⟩
  · exact Own.set_ (h.me.far (p := ⟨gl, i * 3 + 1, none⟩) h.d2 (.int .i64 s.post)) 3 (.int .i64 (s.post + 1))
  · exact Own.far (h.ch.far (p := ⟨gl, i * 3 + 1, none⟩) h.d3 (.int .i64 s.post)) (p := ⟨g, 3, none⟩) (fun e => h.d1 e.symm) (.int .i64 (s.post + 1))
  · have h1 := h.la.set_ (i * 3 + 1) (.int .i64 s.post)
    rw [cl_leave] at h1
    exact h1.far (p := ⟨g, 3, none⟩) (fun e => h.d2 e.symm) (.int .i64 (s.post + 1))

def VisitPost (ps : List Int) (g gc gl n : Nat) (rows : List Value) (f i : Nat) (d : Int) (s : St) (w : World) (e : Ending) (w' : World) : Prop :=
  e = .returned (.tuple #[]) ∧ Wk w' g gc gl n rows (visit ps f i d s) ∧ Chg (two g gl) w w'

set_option maxHeartbeats 2000000 in
theorem visit_any (ps : List Int) (g gc gl n : Nat) (rows : List Value) (hn : n ≤ 4096) (hps : ps.length = n) : ∀ (f i : Nat) (d : Int) (s : St) (w : World), Deep ps f i → Wk w g gc gl n rows s → i < n → RowsOk (two g gl) ps w rows n →
    0 ≤ s.pre → s.pre + (desc ps f i).length ≤ 8192 → 0 ≤ s.post → s.post + (desc ps f i).length ≤ 8192 → 0 ≤ d → d + f ≤ 8192 →
    Calls Try.prog 32 #[.pointer (some ⟨g, 0, none⟩), .int .i64 i, .int .i64 d] w (VisitPost ps g gc gl n rows f i d s w) := by
  intro f
  induction f with
  | zero => intro i d s w h; exact h.elim
  | succ f ih =>
    intro i d s w hdeep hw hi hrows b0 b1 b2 b3 b4 b5
    have IH := Lib.hid ih; clear ih
    have hil : i < s.L.length := by rw [hw.lenL]; exact hi
    have q0 : w.cell? ⟨g, 0, none⟩ = some (.slice (some ⟨gc, 0, none⟩) n n) := by rw [hw.me.cell]; rfl
    have q1 : w.cell? ⟨g, 1, none⟩ = some (.slice (some ⟨gl, 0, none⟩) n n) := by rw [hw.me.cell]; rfl
    have q2 : w.cell? ⟨g, 2, none⟩ = some (.int .i64 s.pre) := by rw [hw.me.cell]; rfl
    have l0 : w.cell? ⟨gl, i * 3, none⟩ = some (.int .i64 s.L[i].1) := by rw [hw.la.cell]; exact (cl_get _ _ hil).1
    have l2 : w.cell? ⟨gl, i * 3 + 2, none⟩ = some (.int .i64 s.L[i].2.2) := by rw [hw.la.cell]; exact (cl_get _ _ hil).2.2
    have f0 : w.frozen? ⟨gl, i * 3, none⟩ = false := hw.la.frozen _
    have f2 : w.frozen? ⟨gl, i * 3 + 2, none⟩ = false := hw.la.frozen _
    have hw1 := hw.enter i d
    have hc1 : Chg (two g gl) w ((((w.setCell ⟨gl, i * 3, none⟩ (.int .i64 s.pre)).setCell ⟨gl, i * 3 + 2, none⟩ (.int .i64 d)).setCell ⟨g, 2, none⟩ (.int .i64 (s.pre + 1))).drew) :=
      ((((Chg.refl _ w).setCell (p := ⟨gl, i * 3, none⟩) (.inr rfl) _).setCell (p := ⟨gl, i * 3 + 2, none⟩) (.inr rfl) _).setCell (p := ⟨g, 2, none⟩) (.inl rfl) _).drew
    have m2 : (((w.setCell ⟨gl, i * 3, none⟩ (.int .i64 s.pre)).setCell ⟨gl, i * 3 + 2, none⟩ (.int .i64 d)).drew).cell? ⟨g, 2, none⟩ = some (.int .i64 s.pre) := by
      show ((w.setCell ⟨gl, i * 3, none⟩ (.int .i64 s.pre)).setCell ⟨gl, i * 3 + 2, none⟩ (.int .i64 d)).cell? _ = _
      rw [((hw.me.far (p := ⟨gl, i * 3, none⟩) hw.d2 _).far (p := ⟨gl, i * 3 + 2, none⟩) hw.d2 _).cell]; rfl
    have mf : (((w.setCell ⟨gl, i * 3, none⟩ (.int .i64 s.pre)).setCell ⟨gl, i * 3 + 2, none⟩ (.int .i64 d)).drew).frozen? ⟨g, 2, none⟩ = false := by
      show ((w.setCell ⟨gl, i * 3, none⟩ (.int .i64 s.pre)).setCell ⟨gl, i * 3 + 2, none⟩ (.int .i64 d)).frozen? _ = _
      rw [((hw.me.far (p := ⟨gl, i * 3, none⟩) hw.d2 _).far (p := ⟨gl, i * 3 + 2, none⟩) hw.d2 _).frozen]
    have bpre : s.pre + 1 ≤ 8192 := by simp [desc] at b1; omega
    go_enter Try.func32, Try.ntmps32
    go_wp2
    go_region
    clear q0 q1 q2 l0 l2 f0 f2
    go_upto_region 2 with (fail)
    clear m2 mf
    have hrows1 := hrows.chg hc1
    generalize ((((w.setCell ⟨gl, i * 3, none⟩ (.int .i64 s.pre)).setCell ⟨gl, i * 3 + 2, none⟩ (.int .i64 d)).setCell ⟨g, 2, none⟩ (.int .i64 (s.pre + 1))).drew) = w1 at hw1 hc1 hrows1 ⊢
    obtain ⟨AK, cK, hrow, hrd⟩ := hrows1 i hi
    have p0 : w1.cell? ⟨g, 0, none⟩ = some (.slice (some ⟨gc, 0, none⟩) n n) := by rw [hw1.me.cell]; rfl
    have p1 : w1.cell? ⟨gc, i, none⟩ = some (.slice AK (kids ps i).length cK) := by rw [hw1.ch.cell]; exact hrow
    have HI := Lib.hid hrow; clear hrow
    have hkl : (kids ps i).length ≤ 4096 := by have := kids_length_le ps i; omega
    go_wp2
    clear p0 p1
    go_loopg [42] (kids ps i).length (fun q k wr => ∃ m : Nat, q = (kids ps i).length - m ∧ m ≤ (kids ps i).length ∧ k = .int .i64 m ∧ Wk wr g gc gl n rows (visits ps f ((kids ps i).take m) (d + 1) (enter i d s)) ∧ Chg (two g gl) w wr)
    case atStart => exact ⟨0, rfl, Nat.zero_le _, rfl, hw1, hc1⟩
    case round =>
      clear hw1 hc1 hrd
      obtain ⟨m, hq, hm, rfl, hw2, hc2⟩ := hrel
      have HQ := Lib.hid hq; clear hq
      by_cases hlt : m < (kids ps i).length
      · have hrows2 := hrows.chg hc2
        obtain ⟨A', c', hrow', hrd'⟩ := hrows2 i hi
        have hr0 := HI.out
        rw [hr0] at hrow'
        injection hrow' with hrow'
        injection hrow' with hA' hcc hc'
        clear hcc hc'
        subst hA'
        have hki : (kidsI ps i)[m]'(by rw [kidsI_length]; exact hlt) = (((kids ps i)[m] : Nat) : Int) := by simp [kidsI]
        obtain ⟨b, off, rfl, hcell⟩ := hrd'.rd.get (k := m) (by simpa [kidsI_length] using hlt)
        have hcell' : wr.cell? ⟨b, off + m, none⟩ = some (.int .i64 ((kids ps i)[m] : Nat)) := by
          rw [hcell]; simp [ci, kidsI]
        clear hcell hki
        have hvp := visits_pre ps f (visit_pre ps f) ((kids ps i).take m) (d + 1) (enter i d s)
        have hfl := flat_take_le (desc ps f) (kids ps i) m hlt
        have hde : (desc ps (f + 1) i).length = ((kids ps i).flatMap (desc ps f)).length + 1 := by simp [desc]
        have e1 : (enter i d s).pre = s.pre + 1 := rfl
        have e2 : (enter i d s).post = s.post := rfl
        have B0 : Hid (0 ≤ (visits ps f ((kids ps i).take m) (d + 1) (enter i d s)).pre) := by show _ ≤ _; omega
        have B1 : Hid ((visits ps f ((kids ps i).take m) (d + 1) (enter i d s)).pre + (desc ps f (kids ps i)[m]).length ≤ 8192) := by show _ ≤ _; omega
        have B2 : Hid (0 ≤ (visits ps f ((kids ps i).take m) (d + 1) (enter i d s)).post) := by show _ ≤ _; omega
        have B3 : Hid ((visits ps f ((kids ps i).take m) (d + 1) (enter i d s)).post + (desc ps f (kids ps i)[m]).length ≤ 8192) := by show _ ≤ _; omega
        clear hvp hfl hde e1 e2
        go_wp2_with fail
        refine (IH.out (kids ps i)[m] (d + 1) _ _ (hdeep _ (List.getElem_mem hlt)) hw2 (by have := kids_lt (List.getElem_mem hlt); omega) hrows2 B0.out B1.out B2.out B3.out (by omega) (by omega)).mono ?_
        rintro e w3 ⟨rfl, hw3, hc3⟩
        go_wp2
        go_roundg ((kids ps i).length - (m + 1))
        case measure => have := HQ.out; omega
        case rel => exact ⟨m + 1, rfl, by omega, by go_num, by rw [visits_take _ _ _ _ hlt]; exact hw3, hc2.trans hc3⟩
      · obtain rfl : m = (kids ps i).length := by omega
        rw [List.take_length] at hw2
        have hvp := visits_pre ps f (visit_pre ps f) (kids ps i) (d + 1) (enter i d s)
        have hde : (desc ps (f + 1) i).length = ((kids ps i).flatMap (desc ps f)).length + 1 := by simp [desc]
        have e2 : (enter i d s).post = s.post := rfl
        have hil2 : i < (visits ps f (kids ps i) (d + 1) (enter i d s)).L.length := by rw [hw2.lenL]; exact hi
        have hfin : Hid (visit ps (f + 1) i d s = leave i (visits ps f (kids ps i) (d + 1) (enter i d s))) := rfl
        have B2 : 0 ≤ (visits ps f (kids ps i) (d + 1) (enter i d s)).post := by omega
        have B3 : (visits ps f (kids ps i) (d + 1) (enter i d s)).post + 1 ≤ 8192 := by omega
        clear hvp hde e2 b0 b1 b2 b3
        generalize visits ps f (kids ps i) (d + 1) (enter i d s) = s2 at hw2 hil2 hfin B2 B3
        have q1 : wr.cell? ⟨g, 1, none⟩ = some (.slice (some ⟨gl, 0, none⟩) n n) := by rw [hw2.me.cell]; rfl
        have q3 : wr.cell? ⟨g, 3, none⟩ = some (.int .i64 s2.post) := by rw [hw2.me.cell]; rfl
        have l1 : wr.cell? ⟨gl, i * 3 + 1, none⟩ = some (.int .i64 s2.L[i].2.1) := by rw [hw2.la.cell]; exact (cl_get _ _ hil2).2.1
        have f1 : wr.frozen? ⟨gl, i * 3 + 1, none⟩ = false := hw2.la.frozen _
        have m3 : ((wr.setCell ⟨gl, i * 3 + 1, none⟩ (.int .i64 s2.post)).drew).cell? ⟨g, 3, none⟩ = some (.int .i64 s2.post) := by
          show (wr.setCell ⟨gl, i * 3 + 1, none⟩ (.int .i64 s2.post)).cell? _ = _
          rw [(hw2.me.far (p := ⟨gl, i * 3 + 1, none⟩) hw2.d2 _).cell]; rfl
        have mf : ((wr.setCell ⟨gl, i * 3 + 1, none⟩ (.int .i64 s2.post)).drew).frozen? ⟨g, 3, none⟩ = false := by
          show (wr.setCell ⟨gl, i * 3 + 1, none⟩ (.int .i64 s2.post)).frozen? _ = _
          rw [(hw2.me.far (p := ⟨gl, i * 3 + 1, none⟩) hw2.d2 _).frozen]
        have hw3 := hw2.leave i
        have hc3 : Chg (two g gl) w ((((wr.setCell ⟨gl, i * 3 + 1, none⟩ (.int .i64 s2.post))).setCell ⟨g, 3, none⟩ (.int .i64 (s2.post + 1))).drew) :=
          (((hc2.setCell (p := ⟨gl, i * 3 + 1, none⟩) (.inr rfl) _)).setCell (p := ⟨g, 3, none⟩) (.inl rfl) _).drew
        go_wp2
        go_region
        go_wp2
        go_end0
        exact ⟨rfl, by rw [hfin.out]; exact hw3, hc3⟩
end Go.Proofs.Ytgimddboflhpaaa
