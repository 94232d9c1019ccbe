/- MeasureErrors returns true for every input, and leaves its arguments as they were; the variables that it reads are tied to the program's text. No condition. -/
import Derived.Test.YtjimfbmegmnocaaGreatDoorWn
import Derived.Test.YtjimfbmegmnocaaGreatDoorOpd
import Derived.Test.YtjimfbmegmnocaaGreatDoorCards
import Derived.Test.YtjimfbmegmnocaaGreatDoorTie
import Derived.LaidMore
import Derived.LaidHandle
import Derived.MakeChecks
import Derived.Stop.Joined
import Derived.SevenTiedAt
import Derived.Handed
import Derived.Lay
set_option linter.unusedSimpArgs false
set_option linter.unusedVariables false
set_option maxRecDepth 100000
namespace Go.Proofs.YtjimfbmegmnocaaGreatDoor.measureErrors
open Go.ChangeShapes Go.WideShapes Go.ChangeAt Go.RowKit Go.Deep
theorem own : ownKnob Tryz.prog.godebug = none := by kernel_rfl
theorem laidOut : laidOutB Tryz.prog = true := by kernel_rfl
def ld : List (String × DataW Unit) := [("math/bits.deBruijn32tab", Rows.laid_math_bits_deBruijn32tab), ("math/bits.deBruijn64tab", Rows.laid_math_bits_deBruijn64tab), ("internal/strconv.uint64pow10", Rows.laid_internal_strconv_uint64pow10)]
theorem door_met (os : Os) (args : Array Value) : laidMetH Tryz.prog ld ((World.doorLaid Tryz.prog 24 os).forCall (fun _ _ => 0) ⟨#[], args, []⟩).memory :=
 laidMetH_of_parts3 (fuel := 8) (laidMet_of_run' 8 (by kernel_rfl) (by kernel_rfl)) (by kernel_rfl) (by kernel_rfl)

theorem tab_of {W : World} (h : laidMetH Tryz.prog ld W) : Tab W := by
 rw [MakeChecks.laidMetH_plain _ _ _ (by kernel_rfl)] at h; obtain ⟨ps, hv, -⟩ := h; obtain ⟨_, _, _, _, _, _, _, _, _, _, hv, _⟩ := hv; obtain ⟨_, _, _, _, _, _, _, _, _, _, hv, _⟩ := hv; exact tab_of_head (g := 0) (t := 208) (e := 115) (n := 20) (by kernel_rfl) (by kernel_rfl) (by kernel_rfl) (by kernel_rfl) (by kernel_rfl) (by kernel_rfl) (by kernel_rfl) hv
theorem lifted (os : Os) (started : os.Started) (H : Type) (enc : TypeId × Value -> H) :
  ReturnsInHanded {} Tryz.checked os 6 .any (fun w args => (Rows.measureErrorsSpec.pre enc Tryz.prog Tryz.f6 [] false w args /\ laidMetH Tryz.prog ld w) /\ sizedMet enc Tryz.prog Tryz.f6 (OpenSpec.ofChange Rows.measureErrorsSpec) false w args)
   (Rows.measureErrorsSpec.post enc Tryz.prog Tryz.f6 false true false false) := by
 refine returnsInHanded_of_change_and (C := Tryz.checked) (X := fun w _ => laidMetH Tryz.prog ld w) (fun _ _ _ hh h => h.of_heap hh) own started (by kernel_rfl) Tryz.func6
  (ChangeSpec.witness_shaped (enc := enc) (C := Tryz.checked) (os := os) (X := fun w _ => laidMetH Tryz.prog ld w) false (World.doorLaid Tryz.prog 24 os) #[.slice none 0 0, .slice none 0 0, .int .i64 0] 8 rfl (World.shaped_of_RefB (by kernel_rfl) (by kernel_rfl)) (by kernel_rfl) (by kernel_rfl) (by kernel_rfl) (door_met os _)) ?_
 intro W base args ds gs before hval0 hW hcnd _ hL _; have hval : ∀ (j : Nat) t v, Tryz.f6.params[j]? = some t -> args[j]? = some v -> Value.okWide Tryz.prog W .any base t v := hval0; have hW' := hW; obtain ⟨p, q, hA0, hV, rfl, hfz, hnd⟩ := hW; have hA : DataW.TrodAll enc Tryz.prog W 0 (fun _ => true) true Tryz.f6.params.toList args.toList ds p := hA0; rw [Tryz.params6] at hA hval; obtain ⟨v0, vs0, d0, ds0, p0, q0, hargs, rfl, rfl, h0, r0⟩ := trodAll_cons hA; obtain ⟨v1, vs1, d1, ds1, p1, q1, rfl, rfl, rfl, h1, r1⟩ := trodAll_cons r0; obtain ⟨v2, vs2, d2, ds2, p2, q2, rfl, rfl, rfl, h2, r2⟩ := trodAll_cons r1; obtain ⟨rfl, rfl, rfl⟩ := trodAll_nil r2; obtain rfl : args = #[v0, v1, v2] := by cases args; simp_all
 obtain ⟨rfl, rfl⟩ := trodVars_none hV; have k0 := h0; have lt0 : ∀ x ∈ p0, x.block < W.heap.size := by obtain ⟨m, hm⟩ := k0; exact DataW.trod_lt m _ _ _ hm
 obtain ⟨a0, len0, cap0, rfl⟩ := okWide_slice Tryz.underlying22 (hval 0 22 v0 rfl rfl); obtain ⟨l0, rfl, hlc0, hm0, hI0, hw0⟩ := ints_of2 Tryz.underlying22 Tryz.underlying3 (by kernel_rfl) h0; have k1 := h1; have lt1 : ∀ x ∈ p1, x.block < W.heap.size := by obtain ⟨m, hm⟩ := k1; exact DataW.trod_lt m _ _ _ hm
 obtain ⟨a1, len1, cap1, rfl⟩ := okWide_slice Tryz.underlying42 (hval 1 42 v1 rfl rfl); obtain ⟨l1, hI1⟩ := spans_of h1; have k2 := h2; have lt2 : ∀ x ∈ p2, x.block < W.heap.size := by obtain ⟨m, hm⟩ := k2; exact DataW.trod_lt m _ _ _ hm
 obtain ⟨x2, rfl, rfl, rfl, w2⟩ := open_int Tryz.underlying3 (hval 2 3 v2 rfl rfl) h2; clear hA0 hval0; refine (errors_law a0 l0 cap0 (.slice a1 len1 cap1) l1 x2 W hI0 hlc0 hm0 hw0 hI1 (wide_of w2).1 (wide_of w2).2 (tab_of hL)).mono fun e W' ⟨he, bel⟩ => ?_; subst he; exact ⟨_, rfl, _, _, _, [], _, [], hW', trodAll_mk1 (shut_bool Tryz.underlying4 _), (trodAll_cons_mk (Below.trod laidOut (by kernel_rfl) (of_decide_eq_true (by kernel_rfl)) k0 bel lt0) (trodAll_cons_mk (Below.trod laidOut (by kernel_rfl) (of_decide_eq_true (by kernel_rfl)) k1 bel lt1) (trodAll_cons_mk (Below.trod laidOut (by kernel_rfl) (of_decide_eq_true (by kernel_rfl)) k2 bel lt2) trodAll_mk0))), rfl, bel.frame _, fun h => by cases h⟩

theorem over : Rows.measureErrorsRow.holds Tryz.pinned (OpenSpec.ofChange Rows.measureErrorsSpec) :=
 OpenClaim.holds_of_wide 6 Tryz.f6 rfl rfl rfl rfl rfl rfl rfl ⟨rfl, rfl, rfl, rfl, rfl⟩ rfl rfl rfl rfl rfl (by kernel_rfl) Tryz.func6 (by kernel_rfl)
  (of_decide_eq_true (by kernel_rfl)) (by unfold Func.isWrapper; first | (rw [if_pos (by decide +kernel)]; kernel_rfl) | (rw [if_neg (by decide +kernel)]; exact ⟨rfl, rfl⟩))
  (fun os started H enc _ => lifted os started H enc)

theorem looks_ok : ∀ f fn, Tryz.pinned.checked.prog.funcNamed Rows.measureErrorsRow.func = some f -> Tryz.pinned.checked.prog.funcs[f]? = some fn -> true = Tryz.pinned.checked.prog.looks [] /\ ∀ (j : Nat) t, fn.params[j]? = some t -> Tryz.pinned.checked.prog.wantsStandIn t = false := by
 intro f fn hf hfn; obtain rfl : f = 6 := Option.some.inj ((show Tryz.prog.funcNamed "corpora/corporalaw38.MeasureErrors" = some 6 by kernel_rfl).symm.trans hf) |>.symm
 obtain rfl : fn = Tryz.f6 := (Option.some.inj (Tryz.func6.symm.trans hfn)).symm; exact ⟨by kernel_rfl, fun j t ht => by
  rw [Tryz.params6] at ht; have hm : t ∈ [22, 42, 3] := by simpa using Array.mem_of_getElem? ht
  have hall : ([22, 42, 3].all fun u => !Tryz.prog.wantsStandIn u) = true := by kernel_rfl
  exact (show Tryz.prog.wantsStandIn t = false by simpa using List.all_eq_true.1 hall t hm)⟩
theorem card : Rows.MeasureErrorsCardSaid := by
 refine Claim7.holds_tied_plain_at .later [] [.data, .data, .data] true (true, "b43bb91e5211d98002139c0a1d99f8b91ef06c003a851ddabc66a3bd012c8375") true over ?_ ?_ ?_ ?_ ?_ ?_ ?_ ?_ ?_ ?_
 ·exact (fun _ h => by cases h)
 ·kernel_rfl
 ·exact (fun _ h => by cases h)
 ·exact measureErrors_row_tie
 ·rfl
 ·exact ⟨rfl, rfl⟩
 ·kernel_rfl
 ·rfl
 ·exact looks_ok
 ·kernel_rfl

end Go.Proofs.YtjimfbmegmnocaaGreatDoor.measureErrors
namespace Go.Proofs.YtjimfbmegmnocaaGreatDoor
theorem measureErrors_holds : Rows.MeasureErrorsCardSaid := measureErrors.card
#print axioms measureErrors_holds
end Go.Proofs.YtjimfbmegmnocaaGreatDoor
