/- What the library's Atoi makes of the text of a number. No program in sight. -/
import Derived.Test.YtofijnhkoadfjaaDoorNs
import Derived.Lib.AtoiAll
namespace Go.Proofs.YtofijnhkoadfjaaDoor
set_option linter.unusedSimpArgs false
set_option linter.unusedVariables false
set_option linter.unusedSectionVars false
open Go.RowKit Dg

theorem fold_ge (L : List Nat) : ∀ acc : Nat, acc ≤ L.foldl (fun a d => 10 * a + d) acc := by
  induction L with
  | nil => intro acc; exact Nat.le_refl _
  | cons d l ih => intro acc; exact Nat.le_trans (by omega) (ih (10 * acc + d))
theorem parse_asc : ∀ (L : List Nat) (acc : Nat), (∀ d ∈ L, d < 10) → acc < 18446744073709551616 →
    Lib.parseUint10 acc (asc L) = if L.foldl (fun a d => 10 * a + d) acc < 18446744073709551616 then .ok (L.foldl (fun a d => 10 * a + d) acc) else .range
  | [], acc, _, ha => by
    show Lib.parseUint10 acc [] = _
    unfold Lib.parseUint10
    rw [List.foldl_nil, if_pos ha]
  | d :: l, acc, hd, ha => by
    have h0 := hd d (List.mem_cons_self ..)
    have e : asc (d :: l) = (48 + d).toUInt8 :: asc l := rfl
    have hn : ((48 + d).toUInt8).toNat = 48 + d := asc_toNat h0
    have hg := fold_ge l (10 * acc + d)
    rw [e]
    unfold Lib.parseUint10
    rw [hn, if_pos ⟨by omega, by omega⟩, List.foldl_cons]
    by_cases h1 : 1844674407370955162 ≤ acc
    · rw [if_pos h1, if_neg (by omega)]
    · rw [if_neg h1]
      have e2 : acc * 10 + (48 + d - 48) = 10 * acc + d := by omega
      rw [e2]
      by_cases h2 : 18446744073709551616 ≤ 10 * acc + d
      · rw [if_pos h2, if_neg (by omega)]
      · rw [if_neg h2]
        exact parse_asc l (10 * acc + d) (fun x hx => hd x (List.mem_cons_of_mem _ hx)) (by omega)
theorem atoi_S (n : Nat) : Lib.atoiAll (S n).data.toList = if n < 9223372036854775808 then .ok (n : Int) else .range := by
  rw [S_list]
  have hp := dec_pos n
  have hd := dec_dig n
  have hn := num_dec n
  match hL : dec n, hp with
  | d :: l, _ =>
    rw [hL] at hd hn
    have h0 := hd d (List.mem_cons_self ..)
    have e : asc (d :: l) = (48 + d).toUInt8 :: asc l := rfl
    have hc : ((48 + d).toUInt8).toNat = 48 + d := asc_toNat h0
    have hpar := parse_asc (d :: l) 0 hd (by decide)
    have hnum : (d :: l).foldl (fun a d => 10 * a + d) 0 = n := hn
    rw [hnum, e] at hpar
    rw [e]
    unfold Lib.atoiAll
    simp only [hc]
    rw [if_neg (by omega)]
    unfold Lib.parseMag
    rw [if_neg (by simp), hpar]
    by_cases h1 : n < 18446744073709551616
    · rw [if_pos h1]
      simp only
      by_cases h2 : n < 9223372036854775808
      · rw [if_neg (by omega), if_neg (by omega), if_neg (by omega), if_pos h2]
      · rw [if_pos ⟨by omega, by omega⟩, if_neg h2]
    · rw [if_neg h1, if_neg (by omega)]
end Go.Proofs.YtofijnhkoadfjaaDoor
