/- Parts of the proof: Lce, Opn. No condition of its own. -/
import Derived.Test.YtopfcfbiaadfeaaGreatDoorLy8
import Derived.Test.YtopfcfbiaadfeaaGreatDoorLk
import Derived.Test.YtopfcfbiaadfeaaGreatDoorMw
import Derived.Test.YtopfcfbiaadfeaaGreatDoorLa
import Derived.Test.YtopfcfbiaadfeaaGreatDoorRows
import Derived.Test.YtopfcfbiaadfeaaGreatDoorChecked
import Derived.ProofKit
import Derived.OpenShut
import Derived.ChangeOld
import Derived.Deep.Slices
import Derived.Deep.Fields
import Derived.Lib.SmallJoins
set_option linter.unusedSimpArgs false
set_option linter.unusedVariables false
set_option linter.unusedSectionVars false
set_option maxRecDepth 100000
set_option maxHeartbeats 4000000
namespace Go.Proofs.YtopfcfbiaadfeaaGreatDoor
open Go.RowKit Dg

theorem mod_lit8 (x : Int) (i : Int) (n : Nat) (hi : i = (n : Int)) (h1 : -9223372036854775808 ≤ x) (h2 : x ≤ 9223372036854775807) (hn : 0 < n) (hn2 : n ≤ 1000000) : ∃ k : Nat, k < n ∧ ∀ w, Calls Tryz.prog 12 #[.int .i64 x, .int .i64 i] w fun e w' => e = .returned (.int .i64 (k : Int)) ∧ w = w' := by
  subst hi; exact mod_small x n h1 h2 hn hn2
theorem cells_law (A : Option Addr) (l : List Int) (c : Nat) (K : Int) (w : World) (hA : Ints w A l) (hl : l.length ≤ c) (hc : c ≤ maxLen) (hwf : ∀ x ∈ l, -9223372036854775808 ≤ x ∧ x ≤ 9223372036854775807) (hK1 : -9223372036854775808 ≤ K) (hK2 : K ≤ 9223372036854775807) (ht : Tab w) :
    Calls Tryz.prog 3 #[.slice A l.length c, .int .i64 K] w fun e w' => e = .returned (.bool true) ∧ Below w.heap.size w w' := by
  have T0 := Lib.hid ht; obtain ⟨k, hk, hmod⟩ := mod_lit8 K 5 5 rfl hK1 hK2 (by decide) (by decide); have HM := Lib.hid hmod; have HK : Hid (k ≤ 8) := Lib.hid (by omega); clear ht hmod hk hK1 hK2
  go_enter Tryz.func3, Tryz.ntmps3
  go_wp2_with fail
  refine (new_any A l c w hA hl hc hwf).mono ?_; rintro e w1 ⟨rfl, ⟨l', hT⟩, hb1⟩
  go_wp2_with fail
  refine (cells_any w.heap.size A l' c 0 _ hT).mono ?_; rintro e w2 ⟨a, p, q, n, hm, rfl, hcg⟩; have hbw : Below w.heap.size w w2 := hb1.trans (hcg.below (B := w.heap.size) (fun k hk e => by omega) hb1.size); have HV := Lib.hid hm.1; clear hT hcg hb1 hA hl hc hwf hm
  go_wp2_with fail
  refine (HM.out _).mono ?_; rintro e w3 ⟨rfl, rfl⟩
  go_wp2_with fail
  refine (all_valid HV.out HK.out _ (T0.out.below hbw)).mono ?_; rintro e w4 ⟨rfl, hb4⟩; replace hbw := below6 hbw hb4; clear hb4
  go_wp2_with fail
  refine (known38_yes _ (T0.out.below hbw)).mono ?_; rintro e w5 ⟨rfl, hb5⟩; replace hbw := below6 hbw hb5; clear hb5
  go_wp2
  go_ret
  exact ⟨rfl, hbw⟩
open Go.ChangeShapes Go.WideShapes Go.ChangeAt Go.RowKit Go.Deep

theorem addr_lit {w : World} {x : Addr} {u : Value} (h : w.cell? (x.add 0) = some u) : x = ⟨x.block, x.off, none⟩ := by
  obtain ⟨b, off, spot⟩ := x; have hs : spot = none := by simpa [Addr.add] using World.cell?_spot h
  subst hs
  rfl
theorem wide_of {n : Int} (h : (Lit.int .i64 n).wf = true) : -9223372036854775808 ≤ n ∧ n ≤ 9223372036854775807 := by
  have e1 : IntKind.i64.min = -9223372036854775808 := by decide
  have e2 : IntKind.i64.max = 9223372036854775807 := by decide
  simp [Lit.wf] at h
  omega

section
variable {H : Type} {enc : TypeId × Value → H} {P : Program} {w : World} {base : Nat} {spare : Nat → Bool} {held : Bool}
theorem ints_of2 {t e : TypeId} {a : Option Addr} {len cap : Nat} {d : DataW H} {p : List MemPlace} (ht : P.underlying t = some (.slice e)) (he : P.underlying e = some (.int .i64)) (hc : P.cellsOf e = 1)
    (h : DataW.Trod enc P w base spare held t (.slice a len cap) d p) : ∃ l : List Int, l.length = len ∧ len ≤ cap ∧ cap ≤ maxLen ∧ Ints w a l ∧ Wide l := by
  obtain ⟨fuel, hf⟩ := h
  rcases open_ints ht he hc hf with ⟨hcs, _⟩ | ⟨x, l, c, zs, hcs, _, hl, hm, hz, _, hcell, hwz⟩
  · simp [Value.cells] at hcs
    obtain ⟨rfl, rfl, rfl⟩ := hcs; exact ⟨[], rfl, by omega, by simp [maxLen], Rd.nil _ _, by intro x hx; simp at hx⟩
  · simp [Value.cells] at hcs
    obtain ⟨rfl, rfl, rfl⟩ := hcs; have hz' : len ≤ zs.length := by rw [hz]; split <;> omega
    refine ⟨zs.take len, by rw [List.length_take]; omega, by omega, by omega, ?_, fun n hn => wide_of (hwz n (List.mem_of_mem_take hn))⟩; intro j u hu; have hj : j < len ∧ j < zs.length := by
      have := (List.getElem?_eq_some_iff.1 hu).1
      simp only [ci, List.length_map, List.length_take] at this
      omega
    have hcj := hcell j hj.2; have e := addr_lit (hcell 0 (by omega)); refine ⟨x.block, x.off, by rw [← e], ?_⟩; rw [e, Addr.add_lit] at hcj; rw [hcj]; have : (ci (zs.take len))[j]? = some (.int .i64 (zs.getD j 0)) := by
      simp only [ci, List.getElem?_map, List.getElem?_take, hj.1, if_true, List.getD, List.getElem?_eq_getElem hj.2]
      rfl
    rw [this] at hu; exact hu
end
end Go.Proofs.YtopfcfbiaadfeaaGreatDoor
