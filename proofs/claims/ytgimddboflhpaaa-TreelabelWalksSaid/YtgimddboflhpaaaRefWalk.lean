/- The reference's walk of a forest: what it does. -/
import Derived.Test.YtgimddboflhpaaaRef
namespace Go.Proofs.Ytgimddboflhpaaa
set_option linter.unusedSimpArgs false
set_option linter.unusedVariables false
set_option linter.unusedSectionVars false
open Go.RowKit Tr

def kidsB (ps : List Int) (x : Int) (i : Nat) : List Nat := (List.range i).filter fun k => ps.getD k 0 == x
theorem kidsB_all (ps : List Int) (x : Int) : kidsB ps x ps.length = kids ps x := rfl
theorem kidsB_succ (ps : List Int) (x : Int) (i : Nat) : kidsB ps x (i + 1) = if ps.getD i 0 = x then kidsB ps x i ++ [i] else kidsB ps x i := by
  unfold kidsB
  rw [List.range_succ, List.filter_append]
  split
  · rename_i h; rw [List.filter_cons, if_pos (by simpa using h)]; rfl
  · rename_i h; rw [List.filter_cons, if_neg (by simpa using h)]; simp
theorem kidsB_pre (ps : List Int) (x : Int) {i : Nat} (hi : i ≤ ps.length) : ∃ t, kidsB ps x i ++ t = kids ps x := by
  refine ⟨(List.range' i (ps.length - i)).filter fun k => ps.getD k 0 == x, ?_⟩
  unfold kidsB kids
  rw [← List.filter_append]
  congr 1
  rw [List.range_eq_range', List.range_eq_range']
  have := List.range'_append_1 (s := 0) (m := i) (n := ps.length - i)
  rw [Nat.zero_add] at this
  rw [this]; congr 1; omega
theorem kidsB_flat (ps : List Int) (x : Int) (f : Nat → List Nat) {i : Nat} (hi : i ≤ ps.length) : ((kidsB ps x i).flatMap f).length ≤ ((kids ps x).flatMap f).length := by
  obtain ⟨t, ht⟩ := kidsB_pre ps x hi
  rw [← ht, List.flatMap_append, List.length_append]
  omega

/-- The reference's state in memory. -/
structure Rk (w : World) (g gl n c : Nat) (A : Option Addr) (ps : List Int) (s : St) : Prop where
  me : Own w g 61 [.slice A n c, .slice (some ⟨gl, 0, none⟩) n n, .int .i64 s.pre, .int .i64 s.post]
  la : Own w gl 43 (cl s.L)
  par : RdOut (two g gl) w A (ci ps)
  lenL : s.L.length = n
  d2 : g ≠ gl
theorem RdOut.drew {S : Nat → Prop} {w : World} {A : Option Addr} {xs : List Value} (h : RdOut S w A xs) : RdOut S w.drew A xs := h
theorem RdOut.setCell {S : Nat → Prop} {w : World} {A : Option Addr} {xs : List Value} (h : RdOut S w A xs) {p : Addr} (hp : S p.block) (u : Value) : RdOut S (w.setCell p u) A xs := h.chg ((Chg.refl S w).setCell hp u)
theorem Rk.enter {w : World} {g gl n c : Nat} {A : Option Addr} {ps : List Int} {s : St} (h : Rk w g gl n c A ps s) (i : Nat) (d : Int) :
    Rk ((((w.setCell ⟨gl, i * 3, none⟩ (.int .i64 s.pre)).setCell ⟨gl, i * 3 + 2, none⟩ (.int .i64 d)).setCell ⟨g, 2, none⟩ (.int .i64 (s.pre + 1))).drew) g gl n c A ps (Tr.enter i d s) := by
  refine ⟨?_, ?_, ?_, by simp [Tr.enter, h.lenL], h.d2⟩
  · exact Own.set_ ((h.me.far (p := ⟨gl, i * 3, none⟩) h.d2 (.int .i64 s.pre)).far (p := ⟨gl, i * 3 + 2, none⟩) h.d2 (.int .i64 d)) 2 (.int .i64 (s.pre + 1))
  · have h1 : Own ((w.setCell ⟨gl, i * 3, none⟩ (.int .i64 s.pre)).setCell ⟨gl, i * 3 + 2, none⟩ (.int .i64 d)) gl 43 _ := (h.la.set_ (i * 3) (.int .i64 s.pre)).set_ (i * 3 + 2) (.int .i64 d)
    rw [cl_enter] at h1
    exact h1.far (p := ⟨g, 2, none⟩) (fun e => h.d2 e.symm) (.int .i64 (s.pre + 1))
  · exact (((h.par.setCell (p := ⟨gl, i * 3, none⟩) (.inr rfl) _).setCell (p := ⟨gl, i * 3 + 2, none⟩) (.inr rfl) _).setCell (p := ⟨g, 2, none⟩) (.inl rfl) _).drew
theorem Rk.leave {w : World} {g gl n c : Nat} {A : Option Addr} {ps : List Int} {s : St} (h : Rk w g gl n c A ps s) (i : Nat) :
    Rk ((((w.setCell ⟨gl, i * 3 + 1, none⟩ (.int .i64 s.post))).setCell ⟨g, 3, none⟩ (.int .i64 (s.post + 1))).drew) g gl n c A ps (Tr.leave i s) := by
  refine ⟨?_, ?_, ?_, by simp [Tr.leave, h.lenL], h.d2⟩
  · exact Own.set_ (h.me.far (p := ⟨gl, i * 3 + 1, none⟩) h.d2 (.int .i64 s.post)) 3 (.int .i64 (s.post + 1))
  · have h1 := h.la.set_ (i * 3 + 1) (.int .i64 s.post)
    rw [cl_leave] at h1
    exact h1.far (p := ⟨g, 3, none⟩) (fun e => h.d2 e.symm) (.int .i64 (s.post + 1))
  · exact ((h.par.setCell (p := ⟨gl, i * 3 + 1, none⟩) (.inr rfl) _).setCell (p := ⟨g, 3, none⟩) (.inl rfl) _).drew

def RwalkPost (ps : List Int) (g gl n c : Nat) (A : Option Addr) (f : Nat) (x d : Int) (s : St) (w : World) (e : Ending) (w' : World) : Prop :=
  e = .returned (.tuple #[]) ∧ Rk w' g gl n c A ps (visits ps f (kids ps x) d s) ∧ Chg (two g gl) w w'

def RwalkSaid (ps : List Int) (g gl c : Nat) (A : Option Addr) (f : Nat) : Prop :=
  ∀ (x : Int) (d : Int) (s : St) (w : World), (∀ k ∈ kids ps x, Deep ps f k) → Rk w g gl ps.length c A ps s →
    0 ≤ s.pre → s.pre + ((kids ps x).flatMap (desc ps f)).length ≤ 8192 → 0 ≤ s.post → s.post + ((kids ps x).flatMap (desc ps f)).length ≤ 8192 → 0 ≤ d → d + f ≤ 8192 →
    Calls Try.prog 34 #[.pointer (some ⟨g, 0, none⟩), .int .i64 x, .int .i64 d] w (RwalkPost ps g gl ps.length c A f x d s w)

set_option maxHeartbeats 2000000 in
theorem rwalk_step (ps : List Int) (g gl c : Nat) (A : Option Addr) (f : Nat) (hn : ps.length ≤ 4096) (IH : ∀ f', f = f' + 1 → RwalkSaid ps g gl c A f') : RwalkSaid ps g gl c A f := by
  intro x d s w hdeep hw b0 b1 b2 b3 b4 b5
  have IH := Lib.hid IH; 
  have q0 : w.cell? ⟨g, 0, none⟩ = some (.slice A ps.length c) := by rw [hw.me.cell]; rfl
  go_enter Try.func34, Try.ntmps34
  go_wp2
  clear q0
  obtain ⟨w0, hw0⟩ : ∃ w0 : World, Hid (w0 = w) := ⟨w, rfl⟩
  go_loopg [13] ps.length (fun q k wr => ∃ i : Nat, q = ps.length - i ∧ i ≤ ps.length ∧ k = .int .i64 i ∧ Rk wr g gl ps.length c A ps (visits ps f (kidsB ps x i) d s) ∧ Chg (two g gl) w wr)
  case atStart => exact ⟨0, rfl, Nat.zero_le _, rfl, hw, Chg.refl _ _⟩
  case round =>
    clear hw
    obtain ⟨i, hq, hi, rfl, hw2, hc2⟩ := hrel
    have HQ := Lib.hid hq; clear hq
    by_cases hlt : i < ps.length
    · obtain ⟨b, off, rfl, hc⟩ := Ints.get (show Ints wr A ps from hw2.par.rd) hlt
      have hgd : ps.getD i 0 = ps[i] := getD_get hlt
      have hks := kidsB_succ ps x i
      rw [hgd] at hks
      by_cases hx : ps[i] = x
      · rw [if_pos hx] at hks
        have hb : (ps[i] != x) = false := by simp [hx]
        have hmem : i ∈ kids ps x := mem_kids.2 ⟨hlt, hx⟩
        obtain ⟨f', rfl⟩ : ∃ f', f = f' + 1 := by
          cases f with
          | zero => exact (hdeep i hmem).elim
          | succ f' => exact ⟨f', rfl⟩
        have hd2 := hdeep i hmem
        have hvp := visits_pre ps (f' + 1) (visit_pre ps _) (kidsB ps x i) d s
        have hfl := kidsB_flat ps x (desc ps (f' + 1)) (i := i + 1) (by omega)
        rw [hks, List.flatMap_append, List.length_append] at hfl
        have hde : ([i].flatMap (desc ps (f' + 1))).length = ((kids ps i).flatMap (desc ps f')).length + 1 := by simp [desc]
        rw [hde] at hfl
        have B0 : 0 ≤ (visits ps (f' + 1) (kidsB ps x i) d s).pre := by omega
        have B1 : (visits ps (f' + 1) (kidsB ps x i) d s).pre + ((kids ps i).flatMap (desc ps f')).length + 1 ≤ 8192 := by omega
        have B2 : 0 ≤ (visits ps (f' + 1) (kidsB ps x i) d s).post := by omega
        have B3 : (visits ps (f' + 1) (kidsB ps x i) d s).post + ((kids ps i).flatMap (desc ps f')).length + 1 ≤ 8192 := by omega
        have HK : Hid (visits ps (f' + 1) (kidsB ps x (i + 1)) d s = leave i (visits ps f' (kids ps i) (d + 1) (enter i d (visits ps (f' + 1) (kidsB ps x i) d s)))) := by
          show _ = _
          rw [hks]
          unfold visits
          rw [List.foldl_append]
          rfl
        have HX := Lib.hid hx
        clear hks hvp hfl hde hgd hx b0 b1 b2 b3 hdeep hmem
        generalize visits ps (f' + 1) (kidsB ps x i) d s = s1 at hw2 B0 B1 B2 B3 HK
        have hil : i < s1.L.length := by rw [hw2.lenL]; exact hlt
        have q1 : wr.cell? ⟨g, 1, none⟩ = some (.slice (some ⟨gl, 0, none⟩) ps.length ps.length) := by rw [hw2.me.cell]; rfl
        have q2 : wr.cell? ⟨g, 2, none⟩ = some (.int .i64 s1.pre) := by rw [hw2.me.cell]; rfl
        have l0 : wr.cell? ⟨gl, i * 3, none⟩ = some (.int .i64 s1.L[i].1) := by rw [hw2.la.cell]; exact (cl_get _ _ hil).1
        have l2 : wr.cell? ⟨gl, i * 3 + 2, none⟩ = some (.int .i64 s1.L[i].2.2) := by rw [hw2.la.cell]; exact (cl_get _ _ hil).2.2
        have f0 : wr.frozen? ⟨gl, i * 3, none⟩ = false := hw2.la.frozen _
        have f2 : wr.frozen? ⟨gl, i * 3 + 2, none⟩ = false := hw2.la.frozen _
        have m2 : (((wr.setCell ⟨gl, i * 3, none⟩ (.int .i64 s1.pre)).setCell ⟨gl, i * 3 + 2, none⟩ (.int .i64 d)).drew).cell? ⟨g, 2, none⟩ = some (.int .i64 s1.pre) := by
          show ((wr.setCell ⟨gl, i * 3, none⟩ (.int .i64 s1.pre)).setCell ⟨gl, i * 3 + 2, none⟩ (.int .i64 d)).cell? _ = _
          rw [((hw2.me.far (p := ⟨gl, i * 3, none⟩) hw2.d2 _).far (p := ⟨gl, i * 3 + 2, none⟩) hw2.d2 _).cell]; rfl
        have mf : (((wr.setCell ⟨gl, i * 3, none⟩ (.int .i64 s1.pre)).setCell ⟨gl, i * 3 + 2, none⟩ (.int .i64 d)).drew).frozen? ⟨g, 2, none⟩ = false := by
          show ((wr.setCell ⟨gl, i * 3, none⟩ (.int .i64 s1.pre)).setCell ⟨gl, i * 3 + 2, none⟩ (.int .i64 d)).frozen? _ = _
          rw [((hw2.me.far (p := ⟨gl, i * 3, none⟩) hw2.d2 _).far (p := ⟨gl, i * 3 + 2, none⟩) hw2.d2 _).frozen]
        have hw3 := hw2.enter i d
        have hc3 : Chg (two g gl) w ((((wr.setCell ⟨gl, i * 3, none⟩ (.int .i64 s1.pre)).setCell ⟨gl, i * 3 + 2, none⟩ (.int .i64 d)).setCell ⟨g, 2, none⟩ (.int .i64 (s1.pre + 1))).drew) :=
          (((hc2.setCell (p := ⟨gl, i * 3, none⟩) (.inr rfl) _).setCell (p := ⟨gl, i * 3 + 2, none⟩) (.inr rfl) _).setCell (p := ⟨g, 2, none⟩) (.inl rfl) _).drew
        go_wp2
        go_region
        clear q1 q2 l0 l2 f0 f2 hc
        go_upto_region 6 with (fail)
        clear m2 mf
        generalize ((((wr.setCell ⟨gl, i * 3, none⟩ (.int .i64 s1.pre)).setCell ⟨gl, i * 3 + 2, none⟩ (.int .i64 d)).setCell ⟨g, 2, none⟩ (.int .i64 (s1.pre + 1))).drew) = w3 at hw3 hc3 ⊢
        go_wp2_with fail
        refine ((IH.out f' rfl) i (d + 1) _ _ hd2 hw3 (by show 0 ≤ s1.pre + 1; omega) (by show s1.pre + 1 + _ ≤ _; omega) (by show 0 ≤ s1.post; omega) (by show s1.post + _ ≤ _; omega) (by omega) (by omega)).mono ?_
        rintro e w4 ⟨rfl, hw4, hc4⟩
        have hvp2 := visits_pre ps f' (visit_pre ps _) (kids ps i) (d + 1) (enter i d s1)
        have e2 : (enter i d s1).post = s1.post := rfl
        have C2 : 0 ≤ (visits ps f' (kids ps i) (d + 1) (enter i d s1)).post := by omega
        have C3 : (visits ps f' (kids ps i) (d + 1) (enter i d s1)).post + 1 ≤ 8192 := by omega
        clear hvp2 e2 B0 B1 B2 B3 hw3 hw2
        generalize visits ps f' (kids ps i) (d + 1) (enter i d s1) = s2 at hw4 C2 C3 HK
        have hil2 : i < s2.L.length := by rw [hw4.lenL]; exact hlt
        have q1 : w4.cell? ⟨g, 1, none⟩ = some (.slice (some ⟨gl, 0, none⟩) ps.length ps.length) := by rw [hw4.me.cell]; rfl
        have q3 : w4.cell? ⟨g, 3, none⟩ = some (.int .i64 s2.post) := by rw [hw4.me.cell]; rfl
        have l1 : w4.cell? ⟨gl, i * 3 + 1, none⟩ = some (.int .i64 s2.L[i].2.1) := by rw [hw4.la.cell]; exact (cl_get _ _ hil2).2.1
        have f1 : w4.frozen? ⟨gl, i * 3 + 1, none⟩ = false := hw4.la.frozen _
        have m3 : ((w4.setCell ⟨gl, i * 3 + 1, none⟩ (.int .i64 s2.post)).drew).cell? ⟨g, 3, none⟩ = some (.int .i64 s2.post) := by
          show (w4.setCell ⟨gl, i * 3 + 1, none⟩ (.int .i64 s2.post)).cell? _ = _
          rw [(hw4.me.far (p := ⟨gl, i * 3 + 1, none⟩) hw4.d2 _).cell]; rfl
        have mf : ((w4.setCell ⟨gl, i * 3 + 1, none⟩ (.int .i64 s2.post)).drew).frozen? ⟨g, 3, none⟩ = false := by
          show (w4.setCell ⟨gl, i * 3 + 1, none⟩ (.int .i64 s2.post)).frozen? _ = _
          rw [(hw4.me.far (p := ⟨gl, i * 3 + 1, none⟩) hw4.d2 _).frozen]
        have hw5 := hw4.leave i
        have hc5 : Chg (two g gl) w ((((w4.setCell ⟨gl, i * 3 + 1, none⟩ (.int .i64 s2.post))).setCell ⟨g, 3, none⟩ (.int .i64 (s2.post + 1))).drew) :=
          ((((hc3.trans hc4).setCell (p := ⟨gl, i * 3 + 1, none⟩) (.inr rfl) _)).setCell (p := ⟨g, 3, none⟩) (.inl rfl) _).drew
        go_wp2
        go_region
        go_wp2
        go_roundg (ps.length - (i + 1))
        case measure => have := HQ.out; omega
        case rel => exact ⟨i + 1, rfl, by omega, by go_num, by rw [HK.out]; exact hw5, hc5⟩
      · rw [if_neg hx] at hks
        have hb : (ps[i] != x) = true := by simp [hx]
        have HK := Lib.hid hks
        clear hks hgd hx
        go_wp2
        go_roundg (ps.length - (i + 1))
        case measure => have := HQ.out; omega
        case rel => exact ⟨i + 1, rfl, by omega, by go_num, by rw [HK.out]; exact hw2, hc2⟩
    · obtain rfl : i = ps.length := by omega
      rw [kidsB_all] at hw2
      go_wp2
      go_end0
      exact ⟨rfl, hw2, hc2⟩
theorem rwalk_any (ps : List Int) (g gl c : Nat) (A : Option Addr) (hn : ps.length ≤ 4096) : ∀ f, RwalkSaid ps g gl c A f := by
  intro f
  induction f with
  | zero => exact rwalk_step ps g gl c A 0 hn (fun f' h => by omega)
  | succ f ih => exact rwalk_step ps g gl c A (f + 1) hn (fun f' h => by
      have : f' = f := by omega
      subst this; exact ih)
end Go.Proofs.Ytgimddboflhpaaa
