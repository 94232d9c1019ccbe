/- Parts of the proof: Yr. No condition of its own. -/
import Derived.Test.YtfenjklilocjgaaGreatDoorMem
import Derived.RangeFuncKeeps
import Derived.RangeFuncLeaves
import Derived.RangeFuncCalls
import Derived.OwnWalkIn
import Derived.TacticsInMore
import Derived.LoopNIn
import Derived.LoopIn
set_option linter.unusedSimpArgs false
set_option linter.unusedVariables false
set_option linter.unusedSectionVars false
namespace Go.Proofs.YtfenjklilocjgaaGreatDoor
set_option linter.unusedSimpArgs false
set_option linter.unusedVariables false
set_option linter.unusedSectionVars false
open Go.RowKit

/-- The m blocks from n on. -/
def ItS (n m : Nat) (k : Nat) : Prop := n ≤ k ∧ k < n + m
/-- The blocks of S lie as they lay; the heap has grown. -/
structure KeepS (S : Nat → Prop) (w w' : World) : Prop where
  size : w.heap.size ≤ w'.heap.size
  keep : ∀ k, S k → w'.heap[k]? = w.heap[k]?
/-- What is asked of a function that hands elements on: it lays m blocks of its own first, and changes nothing else. -/
def SeqC {α : Type} (F : Fence) (n : Nat) (P : Program) (gf : Nat) (lb : Array Value) (encs : α → Array Value) (H : World → Prop) (S Sp : List α → Prop) (m : Nat) : Prop :=
  ∀ (l : Nat) (J Jx : List α → World → Prop) (W : World), (∀ pre A, J pre A → H A) →
    (∀ pre A B, J pre A → Chg (ItS W.heap.size m) A B → J pre B) → (∀ pre A B, Jx pre A → Chg (ItS W.heap.size m) A B → Jx pre B) →
    (∀ pre x W1, Sp (pre ++ [x]) → J pre W1 → W.heap.size + m ≤ W1.heap.size → YieldAt F (n - 1) P l (encs x) W1 fun e W' => KeepS (ItS W.heap.size m) W1 W' ∧ ((e = .returned (.bool true) ∧ J (pre ++ [x]) W') ∨ (e = .returned (.bool false) ∧ Jx (pre ++ [x]) W'))) →
    J [] W → CallsIn F n P gf (#[.func (.yield l) #[] #[]] ++ lb) W fun e W' => (∃ v, e = .returned v) ∧ ((∃ xs, S xs ∧ J xs W') ∨ (∃ pre, Sp pre ∧ Jx pre W'))

open Go in
/-- The law. -/
theorem range_all {α : Type} {F : Fence} {n : Nat} {P : Program} {g : Operand} {ps : Array Tmp} {assign body : Code} {Q : Exit → Act → World → Prop} {a : Act} {w : World}
    (hro : F.round = none) (h1 : 1 ≤ n) {gf : Nat} {lb : Array Value} (hg : a.eval g = .func (.func gf) #[] lb) (hFg : F.fn gf) (eg : ∀ args w, (callFunc gf args).run P w = .ok (.enter gf args) w)
    {encs : α → Array Value} (hps : ∀ x, (encs x).size = ps.size) {H : World → Prop} {S Sp : List α → Prop} {m : Nat} (hseq : SeqC F (n - 1) P gf lb encs H S Sp m)
    (I : List α → World → Prop) (Ix : Code → List α → World → Prop) (hIH : ∀ pre A, I pre A → H A)
    (hI : ∀ pre A B, I pre A → Chg (ItS w.heap.size (m + 2)) A B → I pre B) (hIx : ∀ c pre A B, Ix c pre A → Chg (ItS w.heap.size (m + 2)) A B → Ix c pre B) (h0 : I [] w)
    (hround : ∀ (l : Nat) (pre : List α) (x : α) (W : World) (K : Act → World → Prop), ItS w.heap.size (m + 2) l → w.heap.size + (m + 2) ≤ W.heap.size → I pre W → Sp (pre ++ [x]) →
      (∀ a' W', Below W.heap.size W W' → (∀ W2, Chg (fun k => k = l) W' W2 → W2.heap.size = W'.heap.size →
        body.wpIn (F.inRound l) (n - 1 - 1) P (fun e _ W3 => KeepS (ItS w.heap.size (m + 2)) W2 W3 ∧ match e with | .normal => I (pre ++ [x]) W3 | .ret => Ix .ret (pre ++ [x]) W3 | .exit id => Ix (.exit id) (pre ++ [x]) W3 | .goto t => Ix (.goto t) (pre ++ [x]) W3 | _ => False) a' W2) → K a' W') →
      assign.wpIn (F.inRound l) (n - 1 - 1) P (Exit.then K (fun _ _ _ => False)) { tmps := (ps.zip (encs x)).foldl (fun t (p, v) => t.setIfInBounds p v) a.tmps, defers := [] } W)
    (hdone : ∀ (D : Nat) (xs : List α) (W : World), ItS w.heap.size (m + 2) D → S xs → I xs W → W.heap[D]? = some (.deferred (some [])) → Q .normal { a with defers := { target := .collected D, args := #[] } :: a.defers } W)
    (hstop : ∀ (D : Nat) (c : Code) (pre : List α) (W : World), ItS w.heap.size (m + 2) D → Sp pre → Ix c pre W → W.heap[D]? = some (.deferred (some [])) → c.wpIn F n P Q { a with defers := { target := .collected D, args := #[] } :: a.defers } W) :
    (Code.rangeFunc g ps assign body).wpIn F n P Q a w := by
  refine wpIn_rangeFunc ?_
  intro fn hfn
  rw [hro]
  obtain ⟨rec, hrec⟩ : ∃ rec : LoopState → Option Code → Loop, rec = fun st pe => { state := st, pending := pe, fn, tmps := a.tmps, params := ps, assign, body, defers := w.heap.size } := ⟨_, rfl⟩
  obtain ⟨W1, hW1⟩ : ∃ W1, (w.alloc (.deferred (some []))).alloc (.loop (rec .ready none)) = W1 := ⟨_, rfl⟩
  have hL1 : W1.heap[w.heap.size + 1]? = some (.loop (rec .ready none)) := by
    rw [← hW1]; have := World.alloc_heap_new (w.alloc (.deferred (some []))) (.loop (rec .ready none)); rwa [World.size_alloc] at this
  have hK1 : W1.heap[w.heap.size]? = some (.deferred (some [])) := by
    rw [← hW1]; exact (Below.heap_alloc _ _ _ (by simp)).trans (World.alloc_heap_new w _)
  have hs1 : W1.heap.size = w.heap.size + 2 := by rw [← hW1]; simp
  have hc1 : Chg (ItS w.heap.size (m + 2)) w W1 := by rw [← hW1]; exact ((Chg.refl _ w).alloc _).alloc _
  have hI1 : I [] W1 := hI _ _ _ h0 hc1
  have hsub : ∀ k, ItS W1.heap.size m k → ItS w.heap.size (m + 2) k ∧ k ≠ w.heap.size + 1 ∧ k ≠ w.heap.size := fun k hk => by
    obtain ⟨h1, h2⟩ := hk
    exact ⟨⟨by omega, by omega⟩, by omega, by omega⟩
  have hl9 : ItS w.heap.size (m + 2) (w.heap.size + 1) := ⟨by omega, by omega⟩
  have hD9 : ItS w.heap.size (m + 2) w.heap.size := ⟨by omega, by omega⟩
  refine ⟨w.heap.size + 1, [{ target := .collected w.heap.size, args := #[] }], W1, { target := .fn (.func gf) lb, args := #[.func (.yield (w.heap.size + 1)) #[] #[]] }, W1, gf,
    #[.func (.yield (w.heap.size + 1)) #[] #[]] ++ lb, W1, ?_, ?_, ?_, ?_, fun _ => h1, ?_⟩
  · rw [← hW1, hrec]; exact run_enterLoop_outer _ _ _ _ _
  · simp only [resolve, hg]
    simp [go_sem]
  · intro f' hf'; simp [Target.leads] at hf'; subst hf'; exact hFg
  · simp [invoke, go_sem, eg]
  · have hput : ∀ (W : World) (o o' : Obj), W.heap[w.heap.size + 1]? = some o → Chg (fun k => k = w.heap.size + 1) W (W.putObj (w.heap.size + 1) o') := fun W o o' ho =>
      ⟨rfl, rfl, rfl, by simp [World.putObj], fun k _ hk => World.putObj_heap_other hk⟩
    refine (hseq (w.heap.size + 1)
      (fun pre W => I pre W ∧ W.heap[w.heap.size + 1]? = some (.loop (rec .ready none)) ∧ W.heap[w.heap.size]? = some (.deferred (some [])))
      (fun pre W => ∃ c, Ix c pre W ∧ W.heap[w.heap.size + 1]? = some (.loop (rec .done (some c))) ∧ W.heap[w.heap.size]? = some (.deferred (some [])))
      W1 (fun pre A h => hIH pre A h.1)
      (fun pre A B h hc => ?_) (fun pre A B h hc => ?_) ?_ ⟨hI1, hL1, hK1⟩).mono ?_
    · obtain ⟨hi, hl, hk⟩ := h
      have hlt : w.heap.size + 1 < A.heap.size := (Array.getElem?_eq_some_iff.1 hl).1
      exact ⟨hI _ _ _ hi (hc.mono fun k _ hk => (hsub k hk).1), (hc.block _ hlt fun h => (hsub _ h).2.1 rfl).trans hl, (hc.block _ (by omega) fun h => (hsub _ h).2.2 rfl).trans hk⟩
    · obtain ⟨c, hi, hl, hk⟩ := h
      have hlt : w.heap.size + 1 < A.heap.size := (Array.getElem?_eq_some_iff.1 hl).1
      exact ⟨c, hIx _ _ _ _ hi (hc.mono fun k _ hk => (hsub k hk).1), (hc.block _ hlt fun h => (hsub _ h).2.1 rfl).trans hl, (hc.block _ (by omega) fun h => (hsub _ h).2.2 rfl).trans hk⟩
    · rintro pre x W hSx ⟨hi, hl, hk⟩ hsz
      have hlt : w.heap.size + 1 < W.heap.size := (Array.getElem?_eq_some_iff.1 hl).1
      have hy := run_yield (P := P) (args := encs x) hl (by rw [hrec]; exact hps x)
      rw [hrec] at hy
      refine ⟨fn, _, assign, body, hy, roundIn_of_wpIn hfn (hround _ pre x W _ hl9 (by omega) hi hSx ?_)⟩
      intro a' W' hb' hbody
      have hl' : W'.heap[w.heap.size + 1]? = some (.loop (rec .ready none)) := (hb'.block _ hlt).trans hl
      have hlt' : w.heap.size + 1 < W'.heap.size := (Array.getElem?_eq_some_iff.1 hl').1
      have hk' : W'.heap[w.heap.size]? = some (.deferred (some [])) := (hb'.block _ (by omega)).trans hk
      refine ⟨_, run_beginRound hl' (by rw [hrec]), ?_⟩
      have hl2 : (W'.putObj (w.heap.size + 1) (.loop { rec .ready none with state := .busy })).heap[w.heap.size + 1]? = some (.loop { rec .ready none with state := .busy }) := World.putObj_heap_same hlt'
      have hk2 : (W'.putObj (w.heap.size + 1) (.loop { rec .ready none with state := .busy })).heap[w.heap.size]? = some (.deferred (some [])) := (World.putObj_heap_other (by omega)).trans hk'
      refine wpIn_mono (hbody _ (hput W' _ _ hl') (by simp [World.putObj])) ?_
      have fin : ∀ (jump : Option Code) (W3 : World), KeepS (ItS w.heap.size (m + 2)) (W'.putObj (w.heap.size + 1) (.loop { rec .ready none with state := .busy })) W3 →
          (Instr.endRound (w.heap.size + 1) jump).run P W3 = .ok (.bool jump.isNone) (W3.putObj (w.heap.size + 1) (.loop (rec (if jump.isNone then .ready else .done) jump))) ∧
          Chg (fun k => k = w.heap.size + 1) W3 (W3.putObj (w.heap.size + 1) (.loop (rec (if jump.isNone then .ready else .done) jump))) ∧
          (W3.putObj (w.heap.size + 1) (.loop (rec (if jump.isNone then .ready else .done) jump))).heap[w.heap.size + 1]? = some (.loop (rec (if jump.isNone then .ready else .done) jump)) ∧
          (W3.putObj (w.heap.size + 1) (.loop (rec (if jump.isNone then .ready else .done) jump))).heap[w.heap.size]? = some (.deferred (some [])) ∧
          KeepS (ItS W1.heap.size m) W (W3.putObj (w.heap.size + 1) (.loop (rec (if jump.isNone then .ready else .done) jump))) := fun jump W3 hk3 => by
        have hl3 := (hk3.keep _ hl9).trans hl2
        have hk4 := (hk3.keep _ hD9).trans hk2
        have := run_endRound (P := P) jump hl3
        rw [hrec] at this ⊢
        refine ⟨this, hput W3 _ _ hl3, World.putObj_heap_same (Array.getElem?_eq_some_iff.1 hl3).1, (World.putObj_heap_other (by omega)).trans hk4, ?_, fun k hk => ?_⟩
        · have h1 := hk3.size
          have h2 := hb'.size
          simp [World.putObj] at h1 ⊢
          omega
        · obtain ⟨h5, h6, h7⟩ := hsub k hk
          have h8 : k < W.heap.size := by have := hk.2; omega
          exact (World.putObj_heap_other h6).trans ((hk3.keep k h5).trans ((World.putObj_heap_other h6).trans (hb'.block k h8)))
      rintro e a3 W3 ⟨hk3, hp⟩
      have hm : ∀ k, k = w.heap.size + 1 → ItS w.heap.size (m + 2) k := fun k e => e ▸ hl9
      cases e with
      | normal =>
        obtain ⟨hr, hc4, hl4, hk4, hs4⟩ := fin none W3 hk3
        exact ⟨_, _, hr, hs4, .inl ⟨rfl, hI _ _ _ hp (hc4.mono fun k _ e => hm k e), hl4, hk4⟩⟩
      | ret =>
        obtain ⟨hr, hc4, hl4, hk4, hs4⟩ := fin (some .ret) W3 hk3
        exact ⟨_, _, hr, hs4, .inr ⟨rfl, .ret, hIx _ _ _ _ hp (hc4.mono fun k _ e => hm k e), hl4, hk4⟩⟩
      | exit id =>
        obtain ⟨hr, hc4, hl4, hk4, hs4⟩ := fin (some (.exit id)) W3 hk3
        exact ⟨_, _, hr, hs4, .inr ⟨rfl, .exit id, hIx _ _ _ _ hp (hc4.mono fun k _ e => hm k e), hl4, hk4⟩⟩
      | goto t =>
        obtain ⟨hr, hc4, hl4, hk4, hs4⟩ := fin (some (.goto t)) W3 hk3
        exact ⟨_, _, hr, hs4, .inr ⟨rfl, .goto t, hIx _ _ _ _ hp (hc4.mono fun k _ e => hm k e), hl4, hk4⟩⟩
      | panic ch => exact hp.elim
      | outgrown => exact hp.elim
    · rintro e W2 ⟨⟨v, rfl⟩, (⟨xs, hS, hi, hl, hk⟩ | ⟨pre, hSp, c, hi, hl, hk⟩)⟩
      · have hc := (hput W2 _ (.loop (rec .done none)) hl).mono (T := ItS w.heap.size (m + 2)) fun k _ e => by subst e; exact hl9
        exact ⟨none, _, by have := run_endLoop (P := P) hl (by rw [hrec]; simp); rw [hrec] at this; exact this, hdone _ xs _ hD9 hS (hI _ _ _ hi ((hput W2 _ _ hl).mono fun k _ e => by subst e; exact hl9)) ((World.putObj_heap_other (by omega)).trans hk)⟩
      · exact ⟨some c, _, by have := run_endLoop (P := P) hl (by rw [hrec]; simp); rw [hrec] at this; exact this, hstop _ c pre _ hD9 hSp (hIx _ _ _ _ hi ((hput W2 _ _ hl).mono fun k _ e => by subst e; exact hl9)) ((World.putObj_heap_other (by omega)).trans hk)⟩
end Go.Proofs.YtfenjklilocjgaaGreatDoor
