/- Parse reads what Format writes. -/
import Derived.Test.YtofijnhkoadfjaaPs
import Derived.Test.YtofijnhkoadfjaaLe
import Derived.Test.YtofijnhkoadfjaaFl
namespace Go.Proofs.Ytofijnhkoadfjaa
set_option linter.unusedSimpArgs false
set_option linter.unusedVariables false
set_option linter.unusedSectionVars false
open Go.RowKit Dg

theorem slash_none : ∀ {P : List UInt8}, (∀ c ∈ P, c ≠ 47) → slash P = (P, [], false)
  | [], _ => rfl
  | c :: l, h => by
    have h1 : c ≠ 47 := h c (List.mem_cons_self ..)
    have := slash_none (P := l) fun x hx => h x (List.mem_cons_of_mem _ hx)
    simp [slash, h1, this]
theorem slash_app : ∀ {P Q : List UInt8}, (∀ c ∈ P, c ≠ 47) → slash (P ++ 47 :: Q) = (P, Q, true)
  | [], _, _ => by simp [slash]
  | c :: l, Q, h => by
    have h1 : c ≠ 47 := h c (List.mem_cons_self ..)
    have := slash_app (P := l) (Q := Q) fun x hx => h x (List.mem_cons_of_mem _ hx)
    simp [slash, h1, this]
theorem unsign_no {l : List UInt8} (h : ∀ c, l.head? = some c → c ≠ 45) : unsign l = (false, l) := by
  unfold unsign
  split
  · exact absurd rfl (h 45 rfl)
  · rfl
/-- Digits, and at least one. -/
def Digs (p : ByteArray) : Prop := p.data.toList ≠ [] ∧ ∀ c ∈ p.data.toList, c ≠ 45 ∧ c ≠ 47
theorem digs_S (n : Nat) : Digs (S n) := by
  unfold Digs
  rw [S_list]
  refine ⟨?_, fun c hc => ?_⟩
  · have := dec_pos n
    intro e
    have h2 := asc_length (dec n)
    rw [e] at h2
    simp at h2
    omega
  · simp only [asc, List.mem_map] at hc
    obtain ⟨d, hd, rfl⟩ := hc
    have h1 := dec_dig n d hd
    have h2 := asc_toNat h1
    constructor
    · intro e; rw [e] at h2; have : (45 : UInt8).toNat = 45 := rfl; omega
    · intro e; rw [e] at h2; have : (47 : UInt8).toNat = 47 := rfl; omega
theorem fmt_list (n : Bool) (p t : ByteArray) : (FmtS n p t).data.toList = (if n then [45] else []) ++ p.data.toList ++ (if t = ⟨#[49]⟩ then [] else 47 :: t.data.toList) := by
  unfold FmtS
  cases n <;> by_cases ht : t = ⟨#[49]⟩ <;> simp [ht]
theorem unsign_fmt (n : Bool) {P : List UInt8} (h : P ≠ [] ∧ ∀ c ∈ P, c ≠ 45 ∧ c ≠ 47) (R : List UInt8) : unsign ((if n then [45] else []) ++ P ++ R) = (n, P ++ R) := by
  cases n
  · refine unsign_no fun c hc => ?_
    match P, h with
    | x :: l, h => simp at hc; exact hc ▸ (h.2 x (List.mem_cons_self ..)).1
  · simp [unsign]
theorem parts_fmt0 (n : Bool) {p : ByteArray} (hp : Digs p) : Parts (FmtS n p ⟨#[49]⟩) n p ⟨#[]⟩ false := by
  have hu : unsign (FmtS n p ⟨#[49]⟩).data.toList = (n, p.data.toList) := by
    rw [fmt_list, if_pos rfl, unsign_fmt n hp, List.append_nil]
  have hs := slash_none (P := p.data.toList) fun c hc => (hp.2 c hc).2
  constructor <;> simp [hu, hs]
theorem parts_fmt1 (n : Bool) {p t : ByteArray} (hp : Digs p) (ht : t ≠ ⟨#[49]⟩) : Parts (FmtS n p t) n p t true := by
  have hu : unsign (FmtS n p t).data.toList = (n, p.data.toList ++ 47 :: t.data.toList) := by
    rw [fmt_list, if_neg ht, unsign_fmt n hp]
  have hs := slash_app (P := p.data.toList) (Q := t.data.toList) fun c hc => (hp.2 c hc).2
  constructor <;> simp [hu, hs]
theorem fmt_size (n : Bool) (p t : ByteArray) : (FmtS n p t).size ≤ p.size + t.size + 2 := by
  have e := fmt_list n p t
  have h : ∀ b : ByteArray, b.size = b.data.toList.length := fun b => rfl
  rw [h, h p, h t, e]
  cases n <;> by_cases ht : t = ⟨#[49]⟩ <;> simp [ht] <;> omega
theorem parse_fmt {x : Rat} {k : Nat} (hx : Few k x) (hk : k ≤ 10000) (w : World) (h0 : Cell0 w) : Calls Try.prog 30 #[.string (FmtS (decide (x.num < 0)) (S x.num.natAbs) (S x.den))] w fun e w' => e = .returned (.tuple #[RV x, .int .i64 0]) ∧ Below w.heap.size w w' := by
  have hsz := fmt_size (decide (x.num < 0)) (S x.num.natAbs) (S x.den)
  rw [S_size, S_size] at hsz
  have h1 := hx.1
  have h2 := hx.2
  have ok := hx.ok (show k ≤ 20000 by omega)
  have hi : ∀ w, Calls Try.prog 28 #[RV x] w fun e w' => e = .returned (.bool true) ∧ Below w.heap.size w w' := fun w => isratio_yes w ok
  by_cases hd : S x.den = ⟨#[49]⟩
  · have hR : RV x = .agg #[.bool (decide (x.num < 0)), .string (S x.num.natAbs), .string ⟨#[49]⟩] := by
      show RatV _ _ _ = _
      unfold RatV
      rw [hd]
    rw [hR] at hi ⊢
    rw [hd] at hsz ⊢
    exact parse_yes0 (by omega) (parts_fmt0 _ (digs_S _)) hi w h0
  · exact parse_yes1 (by omega) (parts_fmt1 _ (digs_S _) hd) hi (str_ne1 hd) w h0
theorem floor_few {x : Rat} {k : Nat} (hx : Few k x) (hk : 0 < k) : Few (k + 1) ((x.floor : Int) : Rat) := by
  have hb : ∀ n m : Nat, (dec n).length ≤ k → m ≤ n + 1 → (dec m).length ≤ k + 1 := by
    intro n m hn hm
    refine dec_len_le (by omega) ?_
    have h1 := few_lt hn
    have h2 : 0 < 10 ^ k := Nat.pow_pos (by decide)
    rw [Nat.pow_succ]; omega
  have hd1 : (dec 1).length ≤ k + 1 := by
    have : (dec 1).length ≤ 1 := dec_len_le (by decide) (by decide)
    omega
  have hq : x.num.natAbs / x.den ≤ x.num.natAbs := Nat.div_le_self _ _
  obtain ⟨f1, f2⟩ := floor_parts x
  by_cases h : decide (x.num < 0) = true ∧ 0 < x.num.natAbs % x.den
  · rw [f1 h]
    exact few_rat (by decide) (hb _ _ hx.1 (by omega)) hd1
  · rw [f2 h]
    exact few_rat (by decide) (hb _ _ hx.1 (by omega)) hd1
theorem floor_ok {x : Rat} {k : Nat} (hx : Few k x) (hk0 : 0 < k) (hk : k ≤ 10000) (w : World) : Calls Try.prog 29 #[RV x] w fun e w' => e = .returned (.tuple #[RV ((x.floor : Int) : Rat), .int .i64 0]) ∧ Below w.heap.size w w' :=
  (floor_yes (hx.ok (by omega)) w).mono fun e w' ⟨h1, h2⟩ => ⟨h1.ok ((floor_few hx hk0).ok (by omega)), h2⟩
end Go.Proofs.Ytofijnhkoadfjaa
