/- Parts of the proof: Ll. No condition of its own. -/
import Derived.Test.YtffldjghdcfpiaaGreatDoorJa
import Derived.Test.YtffldjghdcfpiaaGreatDoorRgt
set_option linter.unusedSimpArgs false
set_option linter.unusedVariables false
set_option linter.unusedSectionVars false
set_option maxRecDepth 100000
set_option maxHeartbeats 4000000
namespace Go.Proofs.YtffldjghdcfpiaaGreatDoor.Kl
theorem mpow (a b : Rat) : ∀ n : Nat, (a * b) ^ n = a ^ n * b ^ n
  | 0 => by simp
  | n + 1 => by rw [Rat.pow_succ, Rat.pow_succ, Rat.pow_succ, mpow a b n]; grind
theorem pmono {s t : Rat} (h0 : 0 ≤ s) (h : s ≤ t) : ∀ n : Nat, s ^ n ≤ t ^ n
  | 0 => by simp
  | n + 1 => by
    rw [Rat.pow_succ, Rat.pow_succ]; have h1 := Rat.mul_le_mul_of_nonneg_right (pmono h0 h n) h0; have h2 := Rat.mul_le_mul_of_nonneg_left h (Rat.pow_nonneg (n := n) (show (0 : Rat) ≤ t by grind))
    grind
theorem tangent {a b : Rat} (ha : 0 ≤ a) (hb : 0 ≤ b) : ∀ n : Nat, ((n : Rat) + 1) * a ^ n * b ≤ b ^ (n + 1) + (n : Rat) * a ^ (n + 1)
  | 0 => by simp; grind
  | n + 1 => by
    have ih := tangent ha hb n; have h1 := Rat.mul_le_mul_of_nonneg_right ih hb; have hp : (0 : Rat) ≤ a ^ n := Rat.pow_nonneg ha; have hs : (0 : Rat) ≤ (b - a) * (b - a) := by
      rcases (Rat.le_total : a ≤ b ∨ b ≤ a) with h | h
      · exact Rat.mul_nonneg (by grind) (by grind)
      · have := Rat.mul_nonneg (a := a - b) (b := a - b) (by grind) (by grind)
        grind
    have hn : (0 : Rat) ≤ (n : Rat) + 1 := by
      have : (0 : Rat) ≤ (n : Rat) := by exact_mod_cast Nat.zero_le n
      grind
    have h2 := Rat.mul_nonneg (Rat.mul_nonneg hn hp) hs; have e1 : a ^ (n + 1) = a ^ n * a := Rat.pow_succ ..; have e2 : a ^ (n + 1 + 1) = a ^ n * a * a := by rw [Rat.pow_succ, e1]
    have e3 : b ^ (n + 1 + 1) = b ^ (n + 1) * b := Rat.pow_succ ..; have e4 : ((n + 1 : Nat) : Rat) = (n : Rat) + 1 := by simp
    rw [e4, e2, e3, e1]; rw [e1] at h1; generalize a ^ n = p at *; generalize b ^ (n + 1) = q at *; generalize (n : Rat) = m at *
    grind
def Mean (n : Nat) (s p : Rat) : Prop := 0 ≤ s ∧ 0 ≤ p ∧ p * (n : Rat) ^ n ≤ s ^ n
theorem Mean.zero : Mean 0 0 1 := by
  refine ⟨by decide, by decide, ?_⟩
  simp
theorem nat_pos {n : Nat} (h : 0 < n) : (0 : Rat) < (n : Rat) := by exact_mod_cast h
theorem Mean.step {n : Nat} {s p x : Rat} (h : Mean n s p) (hx : 0 ≤ x) : Mean (n + 1) (s + x) (p * x) := by
  obtain ⟨h1, h2, h3⟩ := h; refine ⟨by grind, Rat.mul_nonneg h2 hx, ?_⟩
  rcases Nat.eq_zero_or_pos n with rfl | hn
  · simp at h3 ⊢
    have := Rat.mul_le_mul_of_nonneg_right h3 hx
    grind
  · have hm := nat_pos hn; have hm1 : (0 : Rat) < (n : Rat) + 1 := by grind
    obtain ⟨a, ha⟩ : ∃ a : Rat, a * n = s := ⟨s / n, by rw [Rat.div_mul_cancel (by grind)]⟩; obtain ⟨b, hb⟩ : ∃ b : Rat, b * ((n : Rat) + 1) = s + x := ⟨(s + x) / ((n : Rat) + 1), by rw [Rat.div_mul_cancel (by grind)]⟩; have ha0 : 0 ≤ a := by
      rw [← Rat.not_lt]; intro h
      have := Rat.mul_lt_mul_of_pos_right h hm
      grind
    have hb0 : 0 ≤ b := by
      rw [← Rat.not_lt]; intro h
      have := Rat.mul_lt_mul_of_pos_right h hm1
      grind
    have T := tangent ha0 hb0 n; have e1 : a ^ (n + 1) = a ^ n * a := Rat.pow_succ ..; have hp : (0 : Rat) < (n : Rat) ^ n := Rat.pow_pos hm; have hpa : p ≤ a ^ n := by
      rw [← ha, mpow] at h3; rw [← Rat.not_lt]; intro h
      have := Rat.mul_lt_mul_of_pos_right h hp
      grind
    have hx2 := Rat.mul_le_mul_of_nonneg_right hpa hx; have hk : p * x ≤ b ^ (n + 1) := by
      rw [e1] at T; generalize a ^ n = A at *; generalize b ^ (n + 1) = B at *; generalize (n : Rat) = m at *; have : (m + 1) * A * b = A * (b * (m + 1)) := by grind
      have h5 : A * (b * (m + 1)) = A * s + A * x := by rw [hb]; grind
      have h6 : m * (A * a) = A * s := by rw [← ha]; grind
      grind
    have e4 : ((n + 1 : Nat) : Rat) = (n : Rat) + 1 := by simp
    rw [e4, ← hb, mpow]; exact Rat.mul_le_mul_of_nonneg_right hk (Rat.pow_nonneg (by grind))
theorem Mean.steps {n : Nat} {s p x : Rat} (h : Mean n s p) (hx : 0 ≤ x) : ∀ k : Nat, Mean (n + k) (s + k * x) (p * x ^ k)
  | 0 => by simpa [Rat.add_zero] using h
  | k + 1 => by
    have := (Mean.steps h hx k).step hx; have e1 : s + ((k : Nat) : Rat) * x + x = s + ((k + 1 : Nat) : Rat) * x := by
      have e4 : ((k + 1 : Nat) : Rat) = (k : Rat) + 1 := by simp
      rw [e4]; grind
    have e2 : p * x ^ k * x = p * x ^ (k + 1) := by rw [Rat.pow_succ]; grind
    rw [e1, e2] at this; exact this
theorem Mean.le_one {n : Nat} {s p : Rat} (h : Mean n s p) (hs : s ≤ n) : p ≤ 1 := by
  obtain ⟨h1, h2, h3⟩ := h
  rcases Nat.eq_zero_or_pos n with rfl | hn
  · simpa using h3
  · have hm := nat_pos hn; have hp : (0 : Rat) < (n : Rat) ^ n := Rat.pow_pos hm; have hle : s ^ n ≤ (n : Rat) ^ n := pmono h1 hs n; rw [← Rat.not_lt]; intro h
    have := Rat.mul_lt_mul_of_pos_right h hp
    grind
end Go.Proofs.YtffldjghdcfpiaaGreatDoor.Kl
/- The log-likelihood is not negative in its upper end: the plain law. No program in sight. -/
namespace Go.Proofs.YtffldjghdcfpiaaGreatDoor
open Go.RowKit Dg

theorem one_pow' : ∀ n : Nat, (1 : Rat) ^ n = 1
  | 0 => by simp
  | n + 1 => by rw [Rat.pow_succ, one_pow' n, Rat.mul_one]
theorem pow_add' (y : Rat) (a : Nat) : ∀ b : Nat, y ^ (a + b) = y ^ a * y ^ b
  | 0 => by simp
  | b + 1 => by rw [← Nat.add_assoc, Rat.pow_succ, pow_add' y a b, Rat.pow_succ, Rat.mul_assoc]
structure LF where
  o : Nat
  r : Nat
  c : Nat
  h : Int
def sumO : List LF → Nat
  | [] => 0
  | t :: l => t.o + sumO l
def sumRC : List LF → Nat
  | [] => 0
  | t :: l => t.r * t.c + sumRC l
def sumH : List LF → Int
  | [] => 0
  | t :: l => (t.o : Int) * t.h + sumH l
def LF.fits (N K : Nat) (t : LF) : Prop := 0 < t.o → 0 < t.r ∧ 0 < t.c ∧ (rat false (t.o * N) (t.r * t.c)) ^ K ≤ p2 t.h
theorem kl_mean (N : Nat) (hN : 0 < N) (K : Nat) : ∀ l : List LF, (∀ t ∈ l, t.fits N K) → ∃ (s p : Rat), Kl.Mean (sumO l) s p ∧ 0 < p ∧ s * (N : Rat) ≤ (sumRC l : Nat) ∧ 1 ≤ p2 (sumH l) * p ^ K
  | [], _ => ⟨0, 1, Kl.Mean.zero, by decide, by simp [sumRC], by simp [sumH, p2_zero, one_pow']⟩
  | t :: l, hl => by
    obtain ⟨s, p, hm, hp, hs, h1⟩ := kl_mean N hN K l fun x hx => hl x (List.mem_cons_of_mem _ hx)
    rcases Nat.eq_zero_or_pos t.o with h0 | h0
    · refine ⟨s, p, ?_, hp, ?_, ?_⟩
      · rw [sumO, h0, Nat.zero_add]; exact hm
      · have : ((sumRC l : Nat) : Rat) ≤ ((sumRC (t :: l) : Nat) : Rat) := by
          rw [Rat.natCast_le_natCast]; rw [sumRC]; omega
        grind
      · rw [sumH, h0]; simpa using h1
    · obtain ⟨hr, hc, hf⟩ := hl t (List.mem_cons_self ..) h0; have hor : (0 : Rat) < (t.o : Rat) := Rat.natCast_pos.2 h0; have hNr : (0 : Rat) < (N : Rat) := Rat.natCast_pos.2 hN; have hrr : (0 : Rat) < (t.r : Rat) := Rat.natCast_pos.2 hr; have hcr : (0 : Rat) < (t.c : Rat) := Rat.natCast_pos.2 hc; rw [rat_quo] at hf; rw [Rat.natCast_mul, Rat.natCast_mul] at hf; obtain ⟨y, hy⟩ : ∃ y : Rat, y * ((t.o : Rat) * N) = (t.r : Rat) * t.c := ⟨(t.r : Rat) * t.c / ((t.o : Rat) * N), by rw [Rat.div_mul_cancel]; have := Rat.mul_pos hor hNr; grind⟩; have hon := Rat.mul_pos hor hNr; have hrc := Rat.mul_pos hrr hcr; have hy0 : 0 < y := by
        rw [← Rat.not_le]; intro h
        have := Rat.mul_le_mul_of_nonneg_right h (Rat.le_of_lt hon)
        grind
      have hxy : ((t.o : Rat) * N / ((t.r : Rat) * t.c)) * y = 1 := by
        rw [← hy, Rat.div_def]; have hne : y * ((t.o : Rat) * N) ≠ 0 := by rw [hy]; grind
        have e : (t.o : Rat) * N * (y * ((t.o : Rat) * N))⁻¹ * y = (y * ((t.o : Rat) * N)) * (y * ((t.o : Rat) * N))⁻¹ := by grind
        rw [e, Rat.mul_inv_cancel _ hne]
      refine ⟨s + t.o * y, p * y ^ t.o, ?_, Rat.mul_pos hp (Rat.pow_pos hy0), ?_, ?_⟩
      · rw [sumO, Nat.add_comm]; exact hm.steps (Rat.le_of_lt hy0) t.o
      · rw [sumRC, Rat.natCast_add, Rat.natCast_mul]; have : (s + (t.o : Rat) * y) * N = s * N + y * ((t.o : Rat) * N) := by grind
        rw [this, hy]; grind
      · rw [sumH, p2_add, Int.mul_comm, p2_mul, Kl.mpow]; generalize hX : (t.o : Rat) * N / ((t.r : Rat) * t.c) = X at *; have e2 : (y ^ t.o) ^ K = (y ^ K) ^ t.o := by
          have pm : ∀ (a b : Nat), (y ^ a) ^ b = y ^ (a * b) := by
            intro a b
            induction b with
            | zero => simp
            | succ b ih => rw [Rat.pow_succ, ih, Nat.mul_succ, pow_add']
          rw [pm, pm, Nat.mul_comm]
        rw [e2]; have hyK : 0 < y ^ K := Rat.pow_pos hy0; have h3 : 1 ≤ p2 t.h * y ^ K := by
          have h4 := Rat.mul_le_mul_of_nonneg_right hf (Rat.le_of_lt hyK); rw [← Kl.mpow, hxy] at h4
          simpa [one_pow'] using h4
        have h5 : (1 : Rat) ≤ (p2 t.h * y ^ K) ^ t.o := by
          have := Kl.pmono (s := 1) (by decide) h3 t.o
          simpa [one_pow'] using this
        rw [Kl.mpow] at h5; have h6 : 0 < p2 (sumH l) * p ^ K := Rat.mul_pos (p2_pos _) (Rat.pow_pos hp); have h7 := Rat.mul_le_mul_of_nonneg_right h5 (Rat.le_of_lt h6)
        grind
theorem kl_pos {N K : Nat} {l : List LF} (hN : 0 < N) (hl : ∀ t ∈ l, t.fits N K) (ho : sumO l = N) (hrc : sumRC l ≤ N * N) : 0 ≤ sumH l := by
  obtain ⟨s, p, hm, hp, hs, h1⟩ := kl_mean N hN K l hl; rw [ho] at hm; have hNr : (0 : Rat) < (N : Rat) := Rat.natCast_pos.2 hN; have hs2 : s ≤ (N : Rat) := by
    rw [← Rat.not_lt]; intro h
    have h2 := Rat.mul_lt_mul_of_pos_right h hNr; have h3 : ((sumRC l : Nat) : Rat) ≤ ((N * N : Nat) : Rat) := Rat.natCast_le_natCast.2 hrc; rw [Rat.natCast_mul] at h3
    grind
  have hp1 := hm.le_one hs2; have hpK : p ^ K ≤ 1 := by
    have := Kl.pmono (Rat.le_of_lt hp) hp1 K
    simpa [one_pow'] using this
  rw [← Int.not_lt]; intro h
  have h2 : p2 (sumH l) < p2 0 := p2_lt h; rw [p2_zero] at h2; have h3 := Rat.mul_le_mul_of_nonneg_left hpK (Rat.le_of_lt (p2_pos (sumH l)))
  grind
open Go.RowKit Dg

def fo (a p q n : Nat) : Nat → Nat
  | 0 => a
  | 1 => p - a
  | 2 => q - a
  | _ => n + a - p - q
def fr (p n : Nat) : Nat → Nat
  | 0 => p
  | 1 => p
  | _ => n - p
def fc (q n : Nat) : Nat → Nat
  | 0 => q
  | 1 => n - q
  | 2 => q
  | _ => n - q
theorem VC.fo_le {a p q n : Nat} (h : VC a p q n) (i : Nat) : fo a p q n i ≤ fr p n i ∧ fo a p q n i ≤ fc q n i ∧ fr p n i ≤ n ∧ fc q n i ≤ n ∧ n ≤ 4294967296 := by
  have h1 := h.pn; have h2 := h.qn; have h3 := h.n2; have h4 := h.ap; have h5 := h.aq; have h6 := h.pq; have h7 := h.n1
  match i with
  | 0 => simp only [fo, fr, fc]; omega
  | 1 => simp only [fo, fr, fc]; omega
  | 2 => simp only [fo, fr, fc]; omega
  | i + 3 => simp only [fo, fr, fc]; omega
def fx (a p q n i : Nat) : Rat := rat false (prodN [fo a p q n i, n]) (prodN [fr p n i, fc q n i])
def flo (a p q n k : Nat) (e : Nat → Int) : Nat → Rat
  | 0 => rat false 0 1
  | i + 1 => if fo a p q n i = 0 then flo a p q n k e i else flo a p q n k e i + scLo (uq (e i) k) (hiq (fx a p q n i) (e i) k) (rat false (2 * fo a p q n i) 1)
def fhi (a p q n k : Nat) (e : Nat → Int) : Nat → Rat
  | 0 => rat false 0 1
  | i + 1 => if fo a p q n i = 0 then fhi a p q n k e i else fhi a p q n k e i + scHi (uq (e i) k) (hiq (fx a p q n i) (e i) k) (rat false (2 * fo a p q n i) 1)
structure FStep (a p q n k : Nat) (e : Nat → Int) (i : Nat) : Prop where
  quo : ∀ e', QRes (prodN [fo a p q n i, n]) (prodN [fr p n i, fc q n i]) e' → e' = .returned (.tuple #[RV (fx a p q n i), .int .i64 0])
  bits : RetV 29 #[RV (fx a p q n i), .int .i64 (k : Int)] (.tuple #[IV (uq (e i) k) (hiq (fx a p q n i) (e i) k), .int .i64 0])
  whole : RetV 28 #[.int .i64 ((2 * fo a p q n i : Nat) : Int)] (IV (rat false (2 * fo a p q n i) 1) (rat false (2 * fo a p q n i) 1))
  scale : RetV 30 #[IV (uq (e i) k) (hiq (fx a p q n i) (e i) k), RV (rat false (2 * fo a p q n i) 1)] (.tuple #[IV (scLo (uq (e i) k) (hiq (fx a p q n i) (e i) k) (rat false (2 * fo a p q n i) 1)) (scHi (uq (e i) k) (hiq (fx a p q n i) (e i) k) (rat false (2 * fo a p q n i) 1)), .int .i64 0])
  add : RetV 31 #[IV (flo a p q n k e i) (fhi a p q n k e i), IV (scLo (uq (e i) k) (hiq (fx a p q n i) (e i) k) (rat false (2 * fo a p q n i) 1)) (scHi (uq (e i) k) (hiq (fx a p q n i) (e i) k) (rat false (2 * fo a p q n i) 1))] (.tuple #[IV (flo a p q n k e (i + 1)) (fhi a p q n k e (i + 1)), .int .i64 0])
theorem rat_one' (m : Nat) : rat false m 1 = (m : Rat) := by
  rw [rat_quo]; have h2 : ((1 : Nat) : Rat) = 1 := rfl; rw [h2]; have h := Rat.div_mul_cancel (a := (m : Rat)) (b := 1) (by decide)
  rwa [Rat.mul_one] at h
theorem rat_nonneg' (m : Nat) : (0 : Rat) ≤ rat false m 1 := by
  rw [rat_one']; exact Rat.natCast_nonneg
theorem sc_le {x y s : Rat} (h : x ≤ y) : scLo x y s ≤ scHi x y s := by
  unfold scLo scHi
  split
  · rename_i hs
    have h1 := Rat.mul_le_mul_of_nonneg_right h (show (0 : Rat) ≤ -s by grind)
    grind
  · rename_i hs
    exact Rat.mul_le_mul_of_nonneg_right h (Rat.not_lt.1 hs)
theorem fsum_ok (a p q n k : Nat) (hv : VC a p q n) (hk : k ≤ 8) (e : Nat → Int) (he : ∀ i, fo a p q n i = 0 ∨ -1000000 ≤ e i ∧ e i ≤ 1000000) : ∀ i, Few (18 + 19 * i) (flo a p q n k e i) ∧ Few (18 + 19 * i) (fhi a p q n k e i) ∧ flo a p q n k e i ≤ fhi a p q n k e i
  | 0 => ⟨one_few (by decide) (by decide), one_few (by decide) (by decide), Rat.le_refl⟩
  | i + 1 => by
    obtain ⟨h1, h2, h3⟩ := fsum_ok a p q n k hv hk e he i; unfold flo fhi
    by_cases h0 : fo a p q n i = 0
    · rw [if_pos h0, if_pos h0]; exact ⟨few_le h1 (by omega), few_le h2 (by omega), h3⟩
    · rw [if_neg h0, if_neg h0]; obtain ⟨g1, g2⟩ := (he i).resolve_left h0; have u1 := uq_few (n := e i) (k := k) (by omega) (by omega) hk; have u2 := hiq_few (x := fx a p q n i) g1 g2 hk; have hb := hv.fo_le i; have u3 : Few 11 (rat false (2 * fo a p q n i) 1) := one_few (by decide) (by omega); obtain ⟨s1, s2⟩ := few_sc (by decide) u1 u2 u3; refine ⟨?_, ?_, ?_⟩
      · have := few_add' h1 s1; exact few_le this (by omega)
      · have := few_add' h2 s2; exact few_le this (by omega)
      · have := sc_le (s := rat false (2 * fo a p q n i) 1) (hiq_le (fx a p q n i) (e i) k)
        grind
theorem fstep_yes {a p q n k : Nat} (hv : VC a p q n) (hk : k ≤ 8) (w0 : World) : ∃ e : Nat → Int, (∀ i, 0 < fo a p q n i → IsLog (fx a p q n i ^ (2 ^ k)) (e i) ∧ -1000000 ≤ e i ∧ e i ≤ 1000000) ∧ ∀ i, i < 4 → 0 < fo a p q n i → FStep a p q n k e i := by
  have hx : ∀ i, 0 < fo a p q n i → OkR (fx a p q n i) ∧ Few 70 (fx a p q n i) ∧ 0 < fx a p q n i ∧ 0 < prodN [fr p n i, fc q n i] := by
    intro i h0; have hb := hv.fo_le i; have hp : 0 < prodN [fo a p q n i, n] := by simp only [prodN, Nat.mul_one]; exact Nat.mul_pos h0 (by omega)
    have hq : 0 < prodN [fr p n i, fc q n i] := by simp only [prodN, Nat.mul_one]; exact Nat.mul_pos (by omega) (by omega)
    have hf := few_quo hq (VC.prod (a := a) (p := p) (q := q) (n := n) (x := fo a p q n i) (y := n) (by omega) (by omega)) (VC.prod (a := a) (p := p) (q := q) (n := n) (x := fr p n i) (y := fc q n i) (by omega) (by omega)); exact ⟨hf.ok (by decide), hf, rat_pos' hp hq, hq⟩
  have hE : ∀ i, ∃ z : Int, 0 < fo a p q n i → IsLog (fx a p q n i ^ (2 ^ k)) z ∧ -1000000 ≤ z ∧ z ≤ 1000000 ∧ RetV 29 #[RV (fx a p q n i), .int .i64 (k : Int)] (.tuple #[IV (uq z k) (hiq (fx a p q n i) z k), .int .i64 0]) := by
    intro i
    rcases Nat.eq_zero_or_pos (fo a p q n i) with h0 | h0
    · exact ⟨0, fun h => absurd h (by omega)⟩
    · obtain ⟨-, h2, h3, -⟩ := hx i h0; obtain ⟨z, g1, g2, g3, -, g5⟩ := ebits_yes h2 h3 hk w0; exact ⟨z, fun _ => ⟨g1, g2, g3, g5⟩⟩
  have hC : ∃ e : Nat → Int, ∀ i, 0 < fo a p q n i → IsLog (fx a p q n i ^ (2 ^ k)) (e i) ∧ -1000000 ≤ e i ∧ e i ≤ 1000000 ∧ RetV 29 #[RV (fx a p q n i), .int .i64 (k : Int)] (.tuple #[IV (uq (e i) k) (hiq (fx a p q n i) (e i) k), .int .i64 0]) := ⟨fun i => (hE i).choose, fun i => (hE i).choose_spec⟩; obtain ⟨e, he⟩ := hC; refine ⟨e, fun i h0 => ⟨(he i h0).1, (he i h0).2.1, (he i h0).2.2.1⟩, ?_⟩; intro i hi h0; obtain ⟨h1, h2, h3, h4⟩ := hx i h0; obtain ⟨g1, g2, g3, g4⟩ := he i h0; have hb := hv.fo_le i; have u1 := uq_few (n := e i) (k := k) (by omega) (by omega) hk; have u2 := hiq_few (x := fx a p q n i) g2 g3 hk; have u3 : Few 11 (rat false (2 * fo a p q n i) 1) := one_few (by decide) (by omega); obtain ⟨s1, s2⟩ := few_sc (by decide) u1 u2 u3; have hle := hiq_le (fx a p q n i) (e i) k; obtain ⟨t1, t2, t3⟩ := fsum_ok a p q n k hv hk e (fun j => by
    rcases Nat.eq_zero_or_pos (fo a p q n j) with h | h
    · exact .inl h
    · exact .inr ⟨(he j h).2.1, (he j h).2.2.1⟩) i
  have hn0 : fo a p q n i ≠ 0 := by omega
  refine ⟨qres_yes h4 h1, g4, whole_yes _ (by omega), ?_, ?_⟩
  · exact escale_yes (few_le u1 (show 7 ≤ 11 by decide)) (few_le u2 (show 7 ≤ 11 by decide)) u3 (by decide) (by decide) hle
  · have := eadd_yes (j := 94) (few_le t1 (by omega)) (few_le t2 (by omega)) (few_le s1 (by decide)) (few_le s2 (by decide)) (by decide) t3 (sc_le hle); rw [flo, fhi, if_neg hn0, if_neg hn0]; exact this
def fh (a p q n k : Nat) (e : Nat → Int) (i : Nat) : Int := if p2 (e i) = fx a p q n i ^ (2 ^ k) then e i else e i + 1
def flf (a p q n k : Nat) (e : Nat → Int) (i : Nat) : LF := ⟨fo a p q n i, fr p n i, fc q n i, fh a p q n k e i⟩
theorem scHi_nat {x y : Rat} (m : Nat) : scHi x y (rat false m 1) = y * rat false m 1 := by
  unfold scHi; rw [if_neg (Rat.not_lt.2 (rat_nonneg' m))]
theorem uq_val (z : Int) (k : Nat) : uq z k * ((2 ^ k : Nat) : Rat) = (z : Rat) := by
  rw [uq_eq, Rat.div_mul_cancel]; have : (0 : Rat) < ((2 ^ k : Nat) : Rat) := Rat.natCast_pos.2 (Nat.pow_pos (by decide))
  grind
theorem fhi_step (a p q n k : Nat) (e : Nat → Int) (i : Nat) : fhi a p q n k e (i + 1) * ((2 ^ k : Nat) : Rat) = fhi a p q n k e i * ((2 ^ k : Nat) : Rat) + 2 * (((fo a p q n i : Int) * fh a p q n k e i : Int) : Rat) := by
  rw [fhi]
  by_cases h0 : fo a p q n i = 0
  · rw [if_pos h0, h0]; have e1 : (((0 : Nat) : Int) * fh a p q n k e i) = 0 := by simp
    have e2 : ((0 : Int) : Rat) = 0 := rfl; rw [e1, e2, Rat.mul_zero, Rat.add_zero]
  · rw [if_neg h0, scHi_nat, rat_one']; have e1 : hiq (fx a p q n i) (e i) k = uq (fh a p q n k e i) k := by
      unfold hiq fh
      split <;> rfl
    have h2 := uq_val (fh a p q n k e i) k; rw [e1, Rat.intCast_mul]; have e3 : (((2 * fo a p q n i : Nat)) : Rat) = 2 * (((fo a p q n i : Nat) : Int) : Rat) := by
      rw [Rat.natCast_mul]; rfl
    rw [e3, ← h2]
    grind
theorem fhi_pos {a p q n k : Nat} (hv : VC a p q n) (e : Nat → Int) (he : ∀ i, 0 < fo a p q n i → IsLog (fx a p q n i ^ (2 ^ k)) (e i)) : (0 : Rat) ≤ fhi a p q n k e 4 := by
  have hs : fhi a p q n k e 4 * ((2 ^ k : Nat) : Rat) = 2 * ((sumH [flf a p q n k e 0, flf a p q n k e 1, flf a p q n k e 2, flf a p q n k e 3] : Int) : Rat) := by
    rw [fhi_step, fhi_step, fhi_step, fhi_step]; have e0 : fhi a p q n k e 0 = 0 := by rw [fhi, rat_one']; rfl
    rw [e0]
    simp only [sumH, flf, Rat.intCast_add, Rat.intCast_mul]
    have : ((0 : Int) : Rat) = 0 := rfl
    grind
  have h1 := hv.pn; have h2 := hv.qn; have h3 := hv.n2; have h4 := hv.ap; have h5 := hv.aq; have h6 := hv.pq; have h7 := hv.n1
  have hk : 0 ≤ sumH [flf a p q n k e 0, flf a p q n k e 1, flf a p q n k e 2, flf a p q n k e 3] := by
    refine kl_pos (N := n) (K := 2 ^ k) (by omega) ?_ ?_ ?_
    · have key : ∀ i, (flf a p q n k e i).fits n (2 ^ k) := by
        intro i h0; have hb := hv.fo_le i
        simp only [flf] at h0 ⊢
        refine ⟨by omega, by omega, ?_⟩; have hl := he i h0; have ex : rat false (fo a p q n i * n) (fr p n i * fc q n i) = fx a p q n i := by
          unfold fx
          simp only [prodN, Nat.mul_one]
        rw [ex]; unfold fh
        split
        · rename_i h; rw [h]; exact Rat.le_refl
        · exact Rat.le_of_lt hl.2
      intro t ht
      simp only [List.mem_cons, List.not_mem_nil, or_false] at ht
      rcases ht with rfl | rfl | rfl | rfl <;> exact key _
    · simp only [sumO, flf, fo]
      omega
    · simp only [sumRC, flf, fr, fc]
      obtain ⟨u, rfl⟩ : ∃ u, n = p + u := ⟨n - p, by omega⟩; obtain ⟨v, hv'⟩ : ∃ v, p + u = q + v := ⟨p + u - q, by omega⟩; have e1 : p + u - p = u := by omega
      have e2 : p + u - q = v := by omega
      rw [e1, e2]; have : (p + u) * (p + u) = (p + u) * (q + v) := by rw [hv']
      rw [this, Nat.mul_add, Nat.add_mul, Nat.add_mul]
      omega
  have hp : (0 : Rat) < ((2 ^ k : Nat) : Rat) := Rat.natCast_pos.2 (Nat.pow_pos (by decide)); have hr : (0 : Rat) ≤ ((sumH [flf a p q n k e 0, flf a p q n k e 1, flf a p q n k e 2, flf a p q n k e 3] : Int) : Rat) := Rat.intCast_nonneg.2 hk; rw [← Rat.not_lt]; intro hlt
  have := Rat.mul_lt_mul_of_pos_right hlt hp
  grind
theorem one_log {e : Int} {k : Nat} (h : IsLog ((1 : Rat) ^ (2 ^ k)) e) : e = 0 ∧ uq e k = 0 ∧ hiq 1 e k = 0 := by
  have e1 : (1 : Rat) ^ (2 ^ k) = 1 := one_pow' _; rw [e1] at h; have h0 : e = 0 := h.eq ⟨by rw [p2_zero]; exact Rat.le_refl, by decide⟩; subst h0; have u0 : uq 0 k = 0 := by
    rw [uq_eq]; have : ((0 : Int) : Rat) = 0 := rfl; rw [this, Rat.div_def, Rat.zero_mul]
  refine ⟨rfl, u0, ?_⟩; unfold hiq; rw [if_pos (by rw [e1]; exact p2_zero), u0]
open Go.RowKit Dg

theorem Own.far6 {w : World} {g : Nat} {t : TypeId} {cs : List Value} (h : Own w g t cs) {b : Nat} (hb : g ≠ b) (u v x y z q : Value) :
    Own ((((((w.setCell ⟨b, 0, none⟩ u).setCell ⟨b, 1, none⟩ v).setCell ⟨b, 2, none⟩ x).setCell ⟨b, 3, none⟩ y).setCell ⟨b, 4, none⟩ z).setCell ⟨b, 5, none⟩ q) g t cs :=
  ((((((h.far (p := ⟨b, 0, none⟩) hb u).far (p := ⟨b, 1, none⟩) hb v).far (p := ⟨b, 2, none⟩) hb x).far (p := ⟨b, 3, none⟩) hb y).far (p := ⟨b, 4, none⟩) hb z).far (p := ⟨b, 5, none⟩) hb q)
def LM (B : Nat) (t : TypeId) (a0 a1 c0 c1 : Value) (l6 l7 l8 l9 : Bool) (x y : Value) (w : World) : Prop :=
  (l8 = true → l6 = true) ∧ (l9 = true → l7 = true) ∧
  (l6 = true → ∃ g, x = .pointer (some ⟨g, 0, none⟩) ∧ B ≤ g ∧ Own w g t (if l8 then [a0, a1] else [.int .i64 0, .int .i64 0])) ∧
  (l7 = true → ∃ g, y = .pointer (some ⟨g, 0, none⟩) ∧ B ≤ g ∧ Own w g t (if l9 then [c0, c1] else [.int .i64 0, .int .i64 0])) ∧
  (l6 = true → l7 = true → x ≠ y)
theorem ptr_ne {w : World} {g : Nat} {t : TypeId} {cs : List Value} (h : Own w g t cs) : (.pointer (some ⟨w.heap.size, 0, none⟩) : Value) ≠ .pointer (some ⟨g, 0, none⟩) := by
  intro e; have := h.lt
  simp only [Value.pointer.injEq, Option.some.injEq, Addr.mk.injEq, and_true] at e
  omega
theorem LM.a6 {B : Nat} {t : TypeId} {a0 a1 c0 c1 : Value} {l6 l7 l8 l9 : Bool} {x y : Value} {w : World} (h : LM B t a0 a1 c0 c1 l6 l7 l8 l9 x y w) (hl : l6 = false) (hB : B ≤ w.heap.size) :
    LM B t a0 a1 c0 c1 true l7 l8 l9 (.pointer (some ⟨w.heap.size, 0, none⟩)) y (w.alloc (.cells #[.int .i64 0, .int .i64 0] t)) := by
  subst hl; obtain ⟨h1, h2, -, h4, -⟩ := h; have h8 : l8 = false := by cases l8 <;> simp_all
  subst h8; refine ⟨fun _ => rfl, h2, fun _ => ⟨_, rfl, hB, Own.new w t [.int .i64 0, .int .i64 0]⟩, fun e => ?_, fun _ e => ?_⟩
  · obtain ⟨g, e1, e2, e3⟩ := h4 e; exact ⟨g, e1, e2, e3.alloc _⟩
  · obtain ⟨g, e1, -, e3⟩ := h4 e; rw [e1]; exact ptr_ne e3
theorem LM.a7 {B : Nat} {t : TypeId} {a0 a1 c0 c1 : Value} {l6 l7 l8 l9 : Bool} {x y : Value} {w : World} (h : LM B t a0 a1 c0 c1 l6 l7 l8 l9 x y w) (hl : l7 = false) (hB : B ≤ w.heap.size) :
    LM B t a0 a1 c0 c1 l6 true l8 l9 x (.pointer (some ⟨w.heap.size, 0, none⟩)) (w.alloc (.cells #[.int .i64 0, .int .i64 0] t)) := by
  subst hl; obtain ⟨h1, h2, h3, -, -⟩ := h; have h9 : l9 = false := by cases l9 <;> simp_all
  subst h9; refine ⟨h1, fun _ => rfl, fun e => ?_, fun _ => ⟨_, rfl, hB, Own.new w t [.int .i64 0, .int .i64 0]⟩, fun e _ => ?_⟩
  · obtain ⟨g, e1, e2, e3⟩ := h3 e; exact ⟨g, e1, e2, e3.alloc _⟩
  · obtain ⟨g, e1, -, e3⟩ := h3 e; rw [e1]; exact fun e9 => ptr_ne e3 e9.symm
theorem LM.s8 {B : Nat} {t : TypeId} {a0 a1 c0 c1 : Value} {l6 l7 l8 l9 : Bool} {x y : Value} {w : World} {g : Nat} (h : LM B t a0 a1 c0 c1 l6 l7 l8 l9 x y w) (h6 : l6 = true) (h7 : l7 = true) (h8 : l8 = false) (hx : x = .pointer (some ⟨g, 0, none⟩)) :
    LM B t a0 a1 c0 c1 l6 l7 true l9 x y ((w.setCell ⟨g, 0, none⟩ a0).setCell ⟨g, 1, none⟩ a1) := by
  subst h6 h7 h8 hx; obtain ⟨h1, h2, h3, h4, h5⟩ := h; refine ⟨fun _ => rfl, h2, fun _ => ?_, fun _ => ?_, h5⟩
  · obtain ⟨g', e1, e2, e3⟩ := h3 rfl
    simp only [Value.pointer.injEq, Option.some.injEq, Addr.mk.injEq, and_true] at e1
    subst e1; exact ⟨g, rfl, e2, (e3.set_ 0 a0).set_ 1 a1⟩
  · obtain ⟨g', e1, e2, e3⟩ := h4 rfl; have hne : g' ≠ g := by
      intro e; subst e
      exact h5 rfl rfl e1.symm
    exact ⟨g', e1, e2, (e3.far (p := ⟨g, 0, none⟩) hne a0).far (p := ⟨g, 1, none⟩) hne a1⟩
theorem LM.s9 {B : Nat} {t : TypeId} {a0 a1 c0 c1 : Value} {l6 l7 l8 l9 : Bool} {x y : Value} {w : World} {g : Nat} (h : LM B t a0 a1 c0 c1 l6 l7 l8 l9 x y w) (h6 : l6 = true) (h7 : l7 = true) (h9 : l9 = false) (hy : y = .pointer (some ⟨g, 0, none⟩)) :
    LM B t a0 a1 c0 c1 l6 l7 l8 true x y ((w.setCell ⟨g, 0, none⟩ c0).setCell ⟨g, 1, none⟩ c1) := by
  subst h6 h7 h9 hy; obtain ⟨h1, h2, h3, h4, h5⟩ := h; refine ⟨h1, fun _ => rfl, fun _ => ?_, fun _ => ?_, h5⟩
  · obtain ⟨g', e1, e2, e3⟩ := h3 rfl; have hne : g' ≠ g := by
      intro e; subst e
      exact h5 rfl rfl e1
    exact ⟨g', e1, e2, (e3.far (p := ⟨g, 0, none⟩) hne c0).far (p := ⟨g, 1, none⟩) hne c1⟩
  · obtain ⟨g', e1, e2, e3⟩ := h4 rfl
    simp only [Value.pointer.injEq, Option.some.injEq, Addr.mk.injEq, and_true] at e1
    subst e1; exact ⟨g, rfl, e2, (e3.set_ 0 c0).set_ 1 c1⟩
def LStep (o r c n k : Nat) (O : Int) (nf : Nat → Bool) (sf tf : Nat → ByteArray) (ng : Nat → Bool) (sg tg : Nat → ByteArray) (i : Nat) : Prop :=
  (o = 0 ∧ nf (i + 1) = nf i ∧ sf (i + 1) = sf i ∧ tf (i + 1) = tf i ∧ ng (i + 1) = ng i ∧ sg (i + 1) = sg i ∧ tg (i + 1) = tg i) ∨
  (0 < o ∧ ∃ (nx : Bool) (sx tx : ByteArray) (ny : Bool) (sy ty : ByteArray) (nz : Bool) (sz tz : ByteArray) (nh : Bool) (sh th : ByteArray) (nu : Bool) (su tu : ByteArray) (nv : Bool) (sv tv : ByteArray), (∀ e, QRes (prodN [o, n]) (prodN [r, c]) e → e = .returned (.tuple #[.agg #[.bool nx, .string sx, .string tx], .int .i64 0])) ∧
    RetV 29 #[.agg #[.bool nx, .string sx, .string tx], .int .i64 (k : Int)] (.tuple #[.agg #[.bool ny, .string sy, .string ty, .bool nz, .string sz, .string tz], .int .i64 0]) ∧ RetV 28 #[.int .i64 (2 * O)] (.agg #[.bool nh, .string sh, .string th, .bool nh, .string sh, .string th]) ∧
    RetV 30 #[.agg #[.bool ny, .string sy, .string ty, .bool nz, .string sz, .string tz], .agg #[.bool nh, .string sh, .string th]] (.tuple #[.agg #[.bool nu, .string su, .string tu, .bool nv, .string sv, .string tv], .int .i64 0]) ∧ RetV 31 #[.agg #[.bool (nf i), .string (sf i), .string (tf i), .bool (ng i), .string (sg i), .string (tg i)], .agg #[.bool nu, .string su, .string tu, .bool nv, .string sv, .string tv]] (.tuple #[.agg #[.bool (nf (i + 1)), .string (sf (i + 1)), .string (tf (i + 1)), .bool (ng (i + 1)), .string (sg (i + 1)), .string (tg (i + 1))], .int .i64 0]))
theorem ll_idx {a p q n : Nat} (hv : VC a p q n) (k : Nat) (hk : k < 4) (z : Int) (hz : z = (k : Int)) : ∃ (O R C : Int) (m2 m3 : Nat), O = ((fo a p q n k : Nat) : Int) ∧ R = ((fr p n k : Nat) : Int) ∧ C = ((fc q n k : Nat) : Int) ∧
    (∀ w : World, (Instr.index 54 (.agg #[.int .i64 ((a : Int)), .int .i64 ((p : Int) - (a : Int)), .int .i64 ((q : Int) - (a : Int)), .int .i64 ((n : Int) - (p : Int) - (q : Int) + (a : Int))]) (.int .i64 z)).run Tryz.prog w = .ok (.int .i64 O) w) ∧ IntKind.i64.wrap (z.tdiv 2) = (m2 : Int) ∧ z.tmod 2 = (m3 : Int) ∧ m2 < 2 ∧ m3 < 2 ∧
    ([.int .i64 ((p : Int)), .int .i64 ((n : Int) - (p : Int))] : List Value)[m2]? = some (.int .i64 R) ∧ ([.int .i64 ((q : Int)), .int .i64 ((n : Int) - (q : Int))] : List Value)[m3]? = some (.int .i64 C) := by
  have g1 := hv.pn; have g2 := hv.qn; have g3 := hv.n2; have g4 := hv.ap; have g5 := hv.aq; have g6 := hv.pq; have g7 := hv.n1
  have hk8 : k = 0 ∨ k = 1 ∨ k = 2 ∨ k = 3 := by omega
  rcases hk8 with rfl | rfl | rfl | rfl
  · replace hz : z = 0 := hz; subst hz; exact ⟨(a : Int), (p : Int), (q : Int), 0, 0, by simp only [fo] <;> omega, by simp only [fr] <;> omega, by simp only [fc] <;> omega, fun _ => by kernel_rfl, by decide, by decide, by decide, by decide, rfl, rfl⟩
  · replace hz : z = 1 := hz; subst hz; exact ⟨(p : Int) - (a : Int), (p : Int), (n : Int) - (q : Int), 0, 1, by simp only [fo] <;> omega, by simp only [fr] <;> omega, by simp only [fc] <;> omega, fun _ => by kernel_rfl, by decide, by decide, by decide, by decide, rfl, rfl⟩
  · replace hz : z = 2 := hz; subst hz; exact ⟨(q : Int) - (a : Int), (n : Int) - (p : Int), (q : Int), 1, 0, by simp only [fo] <;> omega, by simp only [fr] <;> omega, by simp only [fc] <;> omega, fun _ => by kernel_rfl, by decide, by decide, by decide, by decide, rfl, rfl⟩
  · replace hz : z = 3 := hz; subst hz; exact ⟨(n : Int) - (p : Int) - (q : Int) + (a : Int), (n : Int) - (p : Int), (n : Int) - (q : Int), 1, 1, by simp only [fo] <;> omega, by simp only [fr] <;> omega, by simp only [fc] <;> omega, fun _ => by kernel_rfl, by decide, by decide, by decide, by decide, rfl, rfl⟩
theorem ll_core {a p q n k : Nat} (nf : Nat → Bool) (sf tf : Nat → ByteArray) (ng : Nat → Bool) (sg tg : Nat → ByteArray) (hv : VC a p q n) (hk : k ≤ 8) (hw : RetV 28 #[.int .i64 0] (.agg #[.bool (nf 0), .string (sf 0), .string (tf 0), .bool (ng 0), .string (sg 0), .string (tg 0)]))
    (hs : ∀ k' : Nat, k' < 4 → ∀ O : Int, O = ((fo a p q n k' : Nat) : Int) → LStep (fo a p q n k') (fr p n k') (fc q n k') n k O nf sf tf ng sg tg k')
    (w : World) (ht : Tab w) :
    Calls Tryz.prog 13 #[.agg #[.int .i64 (a : Int), .int .i64 (p : Int), .int .i64 (q : Int), .int .i64 (n : Int)], .int .i64 (k : Int)] w fun e w' => e = .returned (.tuple #[.agg #[.bool (nf 4), .string (sf 4), .string (tf 4), .bool (ng 4), .string (sg 4), .string (tg 4)], .int .i64 0]) ∧ Below w.heap.size w w' := by
  have HV := Lib.hid hv; have HK := Lib.hid hk; have T0 := Lib.hid ht; have HW0 := Lib.hid hw; have HS := Lib.hid hs; clear hv hk ht hw hs; obtain ⟨o_c, o_r, hbw⟩ := new2 w [.int .i64 (a : Int), .int .i64 (p : Int), .int .i64 (q : Int), .int .i64 (n : Int)] [.bool false, .string ⟨#[]⟩, .string ⟨#[]⟩, .bool false, .string ⟨#[]⟩, .string ⟨#[]⟩] 23 34
  go_enter Tryz.func13, Tryz.ntmps13
  go_upto_region 1 with (fail)
  generalize ((w.alloc (.cells #[.int .i64 (a : Int), .int .i64 (p : Int), .int .i64 (q : Int), .int .i64 (n : Int)] 23)).alloc (.cells #[.bool false, .string ⟨#[]⟩, .string ⟨#[]⟩, .bool false, .string ⟨#[]⟩, .string ⟨#[]⟩] 34)) = wb at o_c o_r hbw ⊢; obtain ⟨qc_0, qc_1, qc_2, qc_3⟩ := o_c.cells4
  go_wp2_with fail
  clear qc_0 qc_1 qc_2 qc_3; refine (check_yes HV.out HK.out _).mono ?_; rintro e w1 ⟨rfl, hb1⟩; replace o_c := o_c.below hb1 o_c.lt; replace o_r := o_r.below hb1 o_r.lt; replace hbw := below6 hbw hb1; clear hb1; have y0 : IntKind.i64.wrap ((n : Int) - (p : Int)) = (n : Int) - (p : Int) := IntWalk.i64_in _ (by have := HV.out.all; omega); have y1 : IntKind.i64.wrap ((n : Int) - (q : Int)) = (n : Int) - (q : Int) := IntWalk.i64_in _ (by have := HV.out.all; omega); obtain ⟨qc_0, qc_1, qc_2, qc_3⟩ := o_c.cells4
  go_upto_region 4 with (fail)
  obtain ⟨qc_0, qc_1, qc_2, qc_3⟩ := o_c.cells4; refine wp_reg_m (fun a b => Below w1.heap.size a b) (fun L u w => LM w1.heap.size 57 (.int .i64 ((p : Int))) (.int .i64 ((n : Int) - (p : Int))) (.int .i64 ((q : Int))) (.int .i64 ((n : Int) - (q : Int))) (L 16) (L 17) (L 18) (L 19) (u 16) (u 17) w) ((Below.refl _)) (fun _ _ _ h h' => Below.trans h h') [some 22, some 23, some 24, some 25, some 26, some 27, some 28, some 29, some 30, some 31, some 32, some 33, some 34, some 35, some 36, some 37, some 7, some 8, none, none] [isV ?v1_0, isV ?v1_1, isV ?v1_2, isV ?v1_3, isV ?v1_4, isV ?v1_5, isV ?v1_6, isV ?v1_7, isV ?v1_8, isV ?v1_9, isV ?v1_10, isV ?v1_11, isV ?v1_12, isV ?v1_13, isV ?v1_14, isV ?v1_15, (fun _ _ => True), (fun _ _ => True), anyV, anyV] rfl (by kernel_rfl) rfl rfl ?n1 ?k1 ⟨?s1_0, ?s1_1, ?s1_2, ?s1_3, ?s1_4, ?s1_5, ?s1_6, ?s1_7, ?s1_8, ?s1_9, ?s1_10, ?s1_11, ?s1_12, ?s1_13, ?s1_14, ?s1_15, ?s1_16, ?s1_17, ?s1_18, ?s1_19, trivial⟩ ?p1
  case s1_0 =>
    intro L9 u9 t9 w9 hT9 hL9 hD9 hV9 hO9 hM9 K9 hK9; have o9_2 := hO9 2 _ (show List.contains _ _ = false from by kernel_rfl) rfl; clear hV9 hO9; clear hL9 hD9; go_simp
    (refine hK9 _ _ ((Below.refl _) w9) ?_ hM9; exact rfl)
  case s1_1 =>
    intro L9 u9 t9 w9 hT9 hL9 hD9 hV9 hO9 hM9 K9 hK9; obtain ⟨x9_0, p9_0, q9_0⟩ := hV9.g 0 22 rfl rfl (by kernel_rfl); obtain ⟨q9_0, e9_0⟩ := q9_0; obtain rfl : x9_0 = ?v1_0 := q9_0; clear e9_0; clear hV9 hO9; clear hL9 hD9; have d9_0 := grow_cell hT9 qc_0; have d9_1 := grow_cell hT9 qc_1; have d9_2 := grow_cell hT9 qc_2; have d9_3 := grow_cell hT9 qc_3; go_simp
    (refine hK9 _ _ ((Below.refl _) w9) ?_ hM9; exact rfl)
  case s1_2 =>
    intro L9 u9 t9 w9 hT9 hL9 hD9 hV9 hO9 hM9 K9 hK9; have o9_2 := hO9 2 _ (show List.contains _ _ = false from by kernel_rfl) rfl; clear hV9 hO9; clear hL9 hD9; go_simp
    (refine hK9 _ _ ((Below.refl _) w9) ?_ hM9; exact rfl)
  case s1_3 =>
    intro L9 u9 t9 w9 hT9 hL9 hD9 hV9 hO9 hM9 K9 hK9; obtain ⟨x9_2, p9_2, q9_2⟩ := hV9.g 2 24 rfl rfl (by kernel_rfl); obtain ⟨q9_2, e9_2⟩ := q9_2; obtain rfl : x9_2 = ?v1_2 := q9_2; clear e9_2; clear hV9 hO9; clear hL9 hD9; have d9_0 := grow_cell hT9 qc_0; have d9_1 := grow_cell hT9 qc_1; have d9_2 := grow_cell hT9 qc_2; have d9_3 := grow_cell hT9 qc_3; go_simp
    (refine hK9 _ _ ((Below.refl _) w9) ?_ hM9; exact rfl)
  case s1_4 =>
    intro L9 u9 t9 w9 hT9 hL9 hD9 hV9 hO9 hM9 K9 hK9; have o9_2 := hO9 2 _ (show List.contains _ _ = false from by kernel_rfl) rfl; clear hV9 hO9; clear hL9 hD9; go_simp
    (refine hK9 _ _ ((Below.refl _) w9) ?_ hM9; exact rfl)
  case s1_5 =>
    intro L9 u9 t9 w9 hT9 hL9 hD9 hV9 hO9 hM9 K9 hK9; obtain ⟨x9_4, p9_4, q9_4⟩ := hV9.g 4 26 rfl rfl (by kernel_rfl); obtain ⟨q9_4, e9_4⟩ := q9_4; obtain rfl : x9_4 = ?v1_4 := q9_4; clear e9_4; clear hV9 hO9; clear hL9 hD9; have d9_0 := grow_cell hT9 qc_0; have d9_1 := grow_cell hT9 qc_1; have d9_2 := grow_cell hT9 qc_2; have d9_3 := grow_cell hT9 qc_3; go_simp
    (refine hK9 _ _ ((Below.refl _) w9) ?_ hM9; exact rfl)
  case s1_6 =>
    intro L9 u9 t9 w9 hT9 hL9 hD9 hV9 hO9 hM9 K9 hK9; obtain ⟨x9_3, p9_3, q9_3⟩ := hV9.g 3 25 rfl rfl (by kernel_rfl); obtain ⟨q9_3, e9_3⟩ := q9_3; obtain rfl : x9_3 = ?v1_3 := q9_3; clear e9_3; obtain ⟨x9_5, p9_5, q9_5⟩ := hV9.g 5 27 rfl rfl (by kernel_rfl); obtain ⟨q9_5, e9_5⟩ := q9_5; obtain rfl : x9_5 = ?v1_5 := q9_5; clear e9_5; clear hV9 hO9; clear hL9 hD9; go_simp
    (refine hK9 _ _ ((Below.refl _) w9) ?_ hM9; exact rfl)
  case s1_7 =>
    intro L9 u9 t9 w9 hT9 hL9 hD9 hV9 hO9 hM9 K9 hK9; obtain ⟨x9_1, p9_1, q9_1⟩ := hV9.g 1 23 rfl rfl (by kernel_rfl); obtain ⟨q9_1, e9_1⟩ := q9_1; obtain rfl : x9_1 = ?v1_1 := q9_1; clear e9_1; obtain ⟨x9_6, p9_6, q9_6⟩ := hV9.g 6 28 rfl rfl (by kernel_rfl); obtain ⟨q9_6, e9_6⟩ := q9_6; obtain rfl : x9_6 = ?v1_6 := q9_6; clear e9_6; clear hV9 hO9; clear hL9 hD9; go_simp
    (refine hK9 _ _ ((Below.refl _) w9) ?_ hM9; exact rfl)
  case s1_8 =>
    intro L9 u9 t9 w9 hT9 hL9 hD9 hV9 hO9 hM9 K9 hK9; have o9_2 := hO9 2 _ (show List.contains _ _ = false from by kernel_rfl) rfl; clear hV9 hO9; clear hL9 hD9; go_simp
    (refine hK9 _ _ ((Below.refl _) w9) ?_ hM9; exact rfl)
  case s1_9 =>
    intro L9 u9 t9 w9 hT9 hL9 hD9 hV9 hO9 hM9 K9 hK9; obtain ⟨x9_8, p9_8, q9_8⟩ := hV9.g 8 30 rfl rfl (by kernel_rfl); obtain ⟨q9_8, e9_8⟩ := q9_8; obtain rfl : x9_8 = ?v1_8 := q9_8; clear e9_8; clear hV9 hO9; clear hL9 hD9; have d9_0 := grow_cell hT9 qc_0; have d9_1 := grow_cell hT9 qc_1; have d9_2 := grow_cell hT9 qc_2; have d9_3 := grow_cell hT9 qc_3; go_simp
    (refine hK9 _ _ ((Below.refl _) w9) ?_ hM9; exact rfl)
  case s1_10 =>
    intro L9 u9 t9 w9 hT9 hL9 hD9 hV9 hO9 hM9 K9 hK9; have o9_2 := hO9 2 _ (show List.contains _ _ = false from by kernel_rfl) rfl; clear hV9 hO9; clear hL9 hD9; go_simp
    (refine hK9 _ _ ((Below.refl _) w9) ?_ hM9; exact rfl)
  case s1_11 =>
    intro L9 u9 t9 w9 hT9 hL9 hD9 hV9 hO9 hM9 K9 hK9; obtain ⟨x9_10, p9_10, q9_10⟩ := hV9.g 10 32 rfl rfl (by kernel_rfl); obtain ⟨q9_10, e9_10⟩ := q9_10; obtain rfl : x9_10 = ?v1_10 := q9_10; clear e9_10; clear hV9 hO9; clear hL9 hD9; have d9_0 := grow_cell hT9 qc_0; have d9_1 := grow_cell hT9 qc_1; have d9_2 := grow_cell hT9 qc_2; have d9_3 := grow_cell hT9 qc_3; go_simp
    (refine hK9 _ _ ((Below.refl _) w9) ?_ hM9; exact rfl)
  case s1_12 =>
    intro L9 u9 t9 w9 hT9 hL9 hD9 hV9 hO9 hM9 K9 hK9; have o9_2 := hO9 2 _ (show List.contains _ _ = false from by kernel_rfl) rfl; clear hV9 hO9; clear hL9 hD9; go_simp
    (refine hK9 _ _ ((Below.refl _) w9) ?_ hM9; exact rfl)
  case s1_13 =>
    intro L9 u9 t9 w9 hT9 hL9 hD9 hV9 hO9 hM9 K9 hK9; obtain ⟨x9_12, p9_12, q9_12⟩ := hV9.g 12 34 rfl rfl (by kernel_rfl); obtain ⟨q9_12, e9_12⟩ := q9_12; obtain rfl : x9_12 = ?v1_12 := q9_12; clear e9_12; clear hV9 hO9; clear hL9 hD9; have d9_0 := grow_cell hT9 qc_0; have d9_1 := grow_cell hT9 qc_1; have d9_2 := grow_cell hT9 qc_2; have d9_3 := grow_cell hT9 qc_3; go_simp
    (refine hK9 _ _ ((Below.refl _) w9) ?_ hM9; exact rfl)
  case s1_14 =>
    intro L9 u9 t9 w9 hT9 hL9 hD9 hV9 hO9 hM9 K9 hK9; obtain ⟨x9_11, p9_11, q9_11⟩ := hV9.g 11 33 rfl rfl (by kernel_rfl); obtain ⟨q9_11, e9_11⟩ := q9_11; obtain rfl : x9_11 = ?v1_11 := q9_11; clear e9_11; obtain ⟨x9_13, p9_13, q9_13⟩ := hV9.g 13 35 rfl rfl (by kernel_rfl); obtain ⟨q9_13, e9_13⟩ := q9_13; obtain rfl : x9_13 = ?v1_13 := q9_13; clear e9_13; clear hV9 hO9; clear hL9 hD9; go_simp
    (refine hK9 _ _ ((Below.refl _) w9) ?_ hM9; exact rfl)
  case s1_15 =>
    intro L9 u9 t9 w9 hT9 hL9 hD9 hV9 hO9 hM9 K9 hK9; obtain ⟨x9_9, p9_9, q9_9⟩ := hV9.g 9 31 rfl rfl (by kernel_rfl); obtain ⟨q9_9, e9_9⟩ := q9_9; obtain rfl : x9_9 = ?v1_9 := q9_9; clear e9_9; obtain ⟨x9_14, p9_14, q9_14⟩ := hV9.g 14 36 rfl rfl (by kernel_rfl); obtain ⟨q9_14, e9_14⟩ := q9_14; obtain rfl : x9_14 = ?v1_14 := q9_14; clear e9_14; clear hV9 hO9; clear hL9 hD9; go_simp
    (refine hK9 _ _ ((Below.refl _) w9) ?_ hM9; exact rfl)
  case s1_16 =>
    intro L9 u9 t9 w9 hT9 hL9 hD9 hV9 hO9 hM9 K9 hK9; clear hV9 hO9; go_simp; exact hK9 _ _ ((Below.refl _ _).alloc hT9.size _) trivial (LM.a6 hM9 hL9 hT9.size)
  case s1_17 =>
    intro L9 u9 t9 w9 hT9 hL9 hD9 hV9 hO9 hM9 K9 hK9; clear hV9 hO9; go_simp; exact hK9 _ _ ((Below.refl _ _).alloc hT9.size _) trivial (LM.a7 hM9 hL9 hT9.size)
  case s1_18 =>
    intro L9 u9 t9 w9 hT9 hL9 hD9 hV9 hO9 hM9 K9 hK9; obtain ⟨x9_7, p9_7, q9_7⟩ := hV9.g 7 29 rfl rfl (by kernel_rfl); obtain ⟨q9_7, e9_7⟩ := q9_7; obtain rfl : x9_7 = ?v1_7 := q9_7; clear e9_7; obtain ⟨x9_16, p9_16, q9_16⟩ := hV9.g 16 7 rfl rfl (by kernel_rfl); obtain ⟨q9_16, e9_16⟩ := q9_16; replace q9_16 : ((fun _ _ => True)) x9_16 w9 := q9_16; clear hV9 hO9; have l6 := hD9 16 rfl; have l7 := hD9 17 rfl; obtain ⟨g, hg, hB, ho⟩ := hM9.2.2.1 l6; rw [hL9] at ho; have e9 := e9_16; rw [hg] at e9; subst e9; clear e9_16; obtain ⟨g0, g1⟩ := ho.cells2; obtain ⟨f0, f1⟩ := ho.frozens2; have HM := Lib.hid (LM.s8 hM9 l6 l7 hL9 hg); clear hM9 hg ho hL9 hD9 l6 l7; go_simp; exact hK9 undef _ (((Below.refl _ _).setCell hB _).setCell hB _) trivial HM.out
  case s1_19 =>
    intro L9 u9 t9 w9 hT9 hL9 hD9 hV9 hO9 hM9 K9 hK9; obtain ⟨x9_15, p9_15, q9_15⟩ := hV9.g 15 37 rfl rfl (by kernel_rfl); obtain ⟨q9_15, e9_15⟩ := q9_15; obtain rfl : x9_15 = ?v1_15 := q9_15; clear e9_15; obtain ⟨x9_17, p9_17, q9_17⟩ := hV9.g 17 8 rfl rfl (by kernel_rfl); obtain ⟨q9_17, e9_17⟩ := q9_17; replace q9_17 : ((fun _ _ => True)) x9_17 w9 := q9_17; clear hV9 hO9; have l6 := hD9 16 rfl; have l7 := hD9 17 rfl; obtain ⟨g, hg, hB, ho⟩ := hM9.2.2.2.1 l7; rw [hL9] at ho; have e9 := e9_17; rw [hg] at e9; subst e9; clear e9_17; obtain ⟨g0, g1⟩ := ho.cells2; obtain ⟨f0, f1⟩ := ho.frozens2; have HM := Lib.hid (LM.s9 hM9 l6 l7 hL9 hg); clear hM9 hg ho hL9 hD9 l6 l7; go_simp; exact hK9 undef _ (((Below.refl _ _).setCell hB _).setCell hB _) trivial HM.out
  case n1 =>
    intro L9 u9 h9; have h6 := h9 16 (by decide); have h7 := h9 17 (by decide); have h8 := h9 18 (by decide); have h5 := h9 19 (by decide)
    show LM _ _ _ _ _ _ (L9 16) (L9 17) (L9 18) (L9 19) _ _ _
    rw [h6, h7, h8, h5]; exact ⟨fun h => h, fun h => h, fun h => absurd h (by decide), fun h => absurd h (by decide), fun h => absurd h (by decide)⟩
  case k1 =>
    intro i9 v9 w9 x9 h9 g9
    match i9, h9 with
    | 0, h9 => exact h9
    | 1, h9 => exact h9
    | 2, h9 => exact h9
    | 3, h9 => exact h9
    | 4, h9 => exact h9
    | 5, h9 => exact h9
    | 6, h9 => exact h9
    | 7, h9 => exact h9
    | 8, h9 => exact h9
    | 9, h9 => exact h9
    | 10, h9 => exact h9
    | 11, h9 => exact h9
    | 12, h9 => exact h9
    | 13, h9 => exact h9
    | 14, h9 => exact h9
    | 15, h9 => exact h9
    | 16, h9 => (replace h9 : (fun _ _ => True) v9 w9 := h9); exact trivial
    | 17, h9 => (replace h9 : (fun _ _ => True) v9 w9 := h9); exact trivial
    | 18, h9 => exact h9
    | 19, h9 => exact h9
    | _ + 20, h9 => exact trivial
  intro u9 w9 hE9 hM9 hu9; have r9_0 : u9 0 = ?v1_0 := hu9 0 (by decide); have r9_1 : u9 1 = ?v1_1 := hu9 1 (by decide); have r9_2 : u9 2 = ?v1_2 := hu9 2 (by decide); have r9_3 : u9 3 = ?v1_3 := hu9 3 (by decide); have r9_4 : u9 4 = ?v1_4 := hu9 4 (by decide); have r9_5 : u9 5 = ?v1_5 := hu9 5 (by decide); have r9_6 : u9 6 = ?v1_6 := hu9 6 (by decide); have r9_7 : u9 7 = ?v1_7 := hu9 7 (by decide); have r9_8 : u9 8 = ?v1_8 := hu9 8 (by decide); have r9_9 : u9 9 = ?v1_9 := hu9 9 (by decide); have r9_10 : u9 10 = ?v1_10 := hu9 10 (by decide); have r9_11 : u9 11 = ?v1_11 := hu9 11 (by decide); have r9_12 : u9 12 = ?v1_12 := hu9 12 (by decide); have r9_13 : u9 13 = ?v1_13 := hu9 13 (by decide); have r9_14 : u9 14 = ?v1_14 := hu9 14 (by decide); have r9_15 : u9 15 = ?v1_15 := hu9 15 (by decide); have r9_16 : (fun _ _ => True) (u9 16) w9 := hu9 16 (by decide); have r9_17 : (fun _ _ => True) (u9 17) w9 := hu9 17 (by decide)
  clear hu9
  simp only [putAll, Act.put, List.setIfInBounds_toArray, List.set_cons_succ, List.set_cons_zero, List.getD_cons_succ, List.getD_cons_zero, Nat.reduceAdd, Nat.zero_add]
  simp only [r9_0, r9_1, r9_2, r9_3, r9_4, r9_5, r9_6, r9_7, r9_8, r9_9, r9_10, r9_11, r9_12, r9_13, r9_14, r9_15]
  clear r9_0 r9_1 r9_2 r9_3 r9_4 r9_5 r9_6 r9_7 r9_8 r9_9 r9_10 r9_11 r9_12 r9_13 r9_14 r9_15; obtain ⟨-, -, h6, h7, -⟩ := hM9; obtain ⟨ga, hga, hgaB, o_a⟩ := h6 rfl; obtain ⟨gb, hgb, hgbB, o_b⟩ := h7 rfl; clear h6 h7 hgaB hgbB; replace o_a : Own w9 ga 57 [.int .i64 ((p : Int)), .int .i64 ((n : Int) - (p : Int))] := o_a; replace o_b : Own w9 gb 57 [.int .i64 ((q : Int)), .int .i64 ((n : Int) - (q : Int))] := o_b; have hbE : Below w1.heap.size w1 w9 := Grow.of_drew (w := w1) hE9; rw [hga, hgb]; clear hE9 hga hgb r9_16 r9_17 qc_0 qc_1 qc_2 qc_3; replace o_c := o_c.below hbE o_c.lt; replace o_r := o_r.below hbE o_r.lt; replace hbw := below6 hbw hbE; clear hbE; obtain ⟨wq2, hwq2⟩ : ∃ x : World, x = w9 := ⟨_, rfl⟩; rw [← hwq2] at o_c o_r o_a o_b hbw ⊢; clear hwq2 w9
  go_wp2_with fail
  refine (HW0.out _).mono ?_; rintro e w3 ⟨rfl, hb3⟩; replace o_c := o_c.below hb3 o_c.lt; replace o_r := o_r.below hb3 o_r.lt; replace o_a := o_a.below hb3 o_a.lt; replace o_b := o_b.below hb3 o_b.lt; replace hbw := below6 hbw hb3; clear hb3; have lt_c := o_c.lt; have lt_r := o_r.lt; have lt_a := o_a.lt; have lt_b := o_b.lt; have hs_s := hbw.size; obtain ⟨o_s, hz4⟩ := new1 w3 [.bool (nf 0), .string (sf 0), .string (tf 0), .bool (ng 0), .string (sg 0), .string (tg 0)] 34; replace o_c := o_c.alloc (.cells #[.bool (nf 0), .string (sf 0), .string (tf 0), .bool (ng 0), .string (sg 0), .string (tg 0)] 34); replace o_r := o_r.alloc (.cells #[.bool (nf 0), .string (sf 0), .string (tf 0), .bool (ng 0), .string (sg 0), .string (tg 0)] 34); replace o_a := o_a.alloc (.cells #[.bool (nf 0), .string (sf 0), .string (tf 0), .bool (ng 0), .string (sg 0), .string (tg 0)] 34); replace o_b := o_b.alloc (.cells #[.bool (nf 0), .string (sf 0), .string (tf 0), .bool (ng 0), .string (sg 0), .string (tg 0)] 34)
  replace hbw := below6 hbw hz4; clear hz4
  go_upto_region 6 with (fail)
  generalize (w3.alloc (.cells #[.bool (nf 0), .string (sf 0), .string (tf 0), .bool (ng 0), .string (sg 0), .string (tg 0)] 34)) = wa5 at o_c o_r o_a o_b o_s hbw ⊢; generalize w3.heap.size = g5 at o_s hs_s lt_c lt_r lt_a lt_b ⊢; have nes_c : w.heap.size ≠ g5 := by omega
  have nes_r : w.heap.size + 1 ≠ g5 := by omega
  have nes_a : ga ≠ g5 := by omega
  have nes_b : gb ≠ g5 := by omega
  clear lt_c lt_r lt_a lt_b; obtain ⟨qc_0, qc_1, qc_2, qc_3⟩ := o_c.cells4
  go_wp2_with fail
  clear qc_0 qc_1 qc_2 qc_3; refine (observed_yes HV.out _).mono ?_; rintro e w6 ⟨rfl, hb6⟩; replace o_c := o_c.below hb6 o_c.lt; replace o_r := o_r.below hb6 o_r.lt; replace o_a := o_a.below hb6 o_a.lt; replace o_b := o_b.below hb6 o_b.lt; replace o_s := o_s.below hb6 o_s.lt; replace hbw := below6 hbw hb6; clear hb6
  go_upto_region 7 with (fail)
  go_loopg [41] 4 (fun qn v41 wr => ∃ (k : Nat) (z : Int), qn = 4 - k ∧ k ≤ 4 ∧ z = (k : Int) ∧ v41 = .int .i64 z ∧ Own wr (w.heap.size) 23 [.int .i64 (a : Int), .int .i64 (p : Int), .int .i64 (q : Int), .int .i64 (n : Int)] ∧ Own wr (w.heap.size + 1) 34 [.bool false, .string ⟨#[]⟩, .string ⟨#[]⟩, .bool false, .string ⟨#[]⟩, .string ⟨#[]⟩] ∧ Own wr (ga) 57 [.int .i64 ((p : Int)), .int .i64 ((n : Int) - (p : Int))] ∧ Own wr (gb) 57 [.int .i64 ((q : Int)), .int .i64 ((n : Int) - (q : Int))] ∧ Own wr (g5) 34 [.bool (nf k), .string (sf k), .string (tf k), .bool (ng k), .string (sg k), .string (tg k)] ∧ Below w.heap.size w wr)
  case atStart => exact ⟨0, 0, rfl, by decide, rfl, rfl, o_c, o_r, o_a, o_b, o_s, hbw⟩
  case round =>
    clear o_c o_r o_a o_b o_s hbw; obtain ⟨k, z, hq, hk9, hz, rfl, o_c, o_r, o_a, o_b, o_s, hbw⟩ := hrel; have HQ := Lib.hid hq; clear hq
    replace HQ := Lib.hid (And.intro HQ.out hz)
    by_cases hk4 : k < 4
    · obtain ⟨O, R, C, m2, m3, hO, hR, hC, hix, hq2, hq3, hm2, hm3, hAR, hBC⟩ := ll_idx HV.out k hk4 z hz; have hA : wr.cell? ⟨ga, m2, none⟩ = some (.int .i64 R) := (o_a.cell m2).trans hAR; have hB : wr.cell? ⟨gb, m3, none⟩ = some (.int .i64 C) := (o_b.cell m3).trans hBC; have hS := HS.out k hk4 O hO; obtain ⟨fO, hfO⟩ : ∃ x, x = fo a p q n k := ⟨_, rfl⟩; obtain ⟨fR, hfR⟩ : ∃ x, x = fr p n k := ⟨_, rfl⟩; obtain ⟨fC, hfC⟩ : ∃ x, x = fc q n k := ⟨_, rfl⟩; rw [← hfO, ← hfR, ← hfC] at hS; rw [← hfO] at hO; rw [← hfR] at hR; rw [← hfC] at hC; have HO : Hid (O = (fO : Int) ∧ R = (fR : Int) ∧ C = (fC : Int) ∧ fO ≤ 4294967296 ∧ fR ≤ 4294967296 ∧ fC ≤ 4294967296 ∧ n ≤ 4294967296) := by
        have h9 := HV.out.fo_le k; rw [← hfO, ← hfR, ← hfC] at h9; exact Lib.hid ⟨hO, hR, hC, by omega, by omega, by omega, by omega⟩
      have tz : decide (z < 4) = true := decide_eq_true (by omega); have i22 : (m2 : Int) < 2 := by omega
      have i32 : (m3 : Int) < 2 := by omega
      have zw : IntKind.i64.wrap (z + 1) = z + 1 := IntWalk.i64_in _ (by omega); clear hAR hBC hO hR hC hfO hfR hfC hz
      rcases hS with ⟨h0, e1, e2, e3, e4, e5, e6⟩ | ⟨h0, nx, sx, tx, ny, sy, ty, nz, sz, tz, nh, sh, th, nu, su, tu, nv, sv, tv, HEND, HBI, HWH, HSC, HAD⟩
      · skip
        have ho : O = 0 := by have := HO.out; omega
        have o1 : (O == 0) = true := beq_iff_eq.2 ho; have o2 : decide (O = 0) = true := decide_eq_true ho; clear ho h0 hA hB hq2 hq3
        go_wp2_with fail
        go_roundg (3 - k)
        case measure => have := HQ.out; omega
        case rel => exact ⟨k + 1, z + 1, by omega, by omega, by have := HQ.out; omega, by go_num, o_c, o_r, o_a, o_b, by rw [e1, e2, e3, e4, e5, e6]; exact o_s, hbw⟩
      · skip
        have ho : 0 < O := by have := HO.out; omega
        have o1 : (O == 0) = false := beq_eq_false_iff_ne.2 (by omega); have o2 : decide (O = 0) = false := decide_eq_false (by omega); clear ho h0; replace HEND := Lib.hid HEND; replace HBI := Lib.hid HBI; replace HWH := Lib.hid HWH; replace HSC := Lib.hid HSC; replace HAD := Lib.hid HAD; have y3 : IntKind.i64.wrap (2 * O) = 2 * O := IntWalk.i64_in _ (by have := HO.out; omega)
        go_upto_region 10 with (fail)
        have E1 : Hid ([O, (n : Int)] = [fO, n].map fun (x : Nat) => (x : Int)) := by
          have := HO.out; exact Lib.hid (by simp <;> omega)
        have M1 : Hid (Smalls [fO, n]) := by
          have := HO.out; exact Lib.hid ⟨by simp, by simp <;> omega⟩
        have E2 : Hid ([R, C] = [fR, fC].map fun (x : Nat) => (x : Int)) := by
          have := HO.out; exact Lib.hid (by simp <;> omega)
        have M2 : Hid (Smalls [fR, fC]) := by
          have := HO.out; exact Lib.hid ⟨by simp, by simp <;> omega⟩
        obtain ⟨qc_0, qc_1, qc_2, qc_3⟩ := o_c.cells4; refine wp_reg_st [some 48, some 49, some 50, some 51, some 52, some 53, some 54, some 55, some 56, some 57, some 58, some 59, some 60, some 61, some 62, some 47, some 63, some 64, some 12, none, some 13] [isV ?v2_0, isV ?v2_1, isV ?v2_2, isV ?v2_3, (fun v w' => ∃ b5, v = .slice (some ⟨b5, 0, none⟩) 2 2 ∧ Own w' b5 3 [.int .i64 (O), .int .i64 ((n : Int))]), isV ?v2_5, isV (.int .i64 (m2 : Int)), isV (.pointer (some ⟨ga, m2, none⟩)), isV ?v2_8, isV ?v2_9, isV (.int .i64 (m3 : Int)), isV (.pointer (some ⟨gb, m3, none⟩)), isV ?v2_12, (fun v w' => ∃ b5, v = .slice (some ⟨b5, 0, none⟩) 2 2 ∧ Own w' b5 3 [.int .i64 (R), .int .i64 (C)]), isV (.tuple #[.agg #[.bool nx, .string sx, .string tx], .int .i64 0]), isV ?v2_15, isV ?v2_16, isV ?v2_17, (fun v w' => ∃ b5, v = .pointer (some ⟨b5, 0, none⟩) ∧ wr.heap.size ≤ b5 ∧ Own w' b5 26 [.bool false, .string ⟨#[]⟩, .string ⟨#[]⟩]), fun _ _ => False, fun _ _ => False] [anyV, anyV, anyV, anyV, anyV, anyV, anyV, anyV, anyV, anyV, anyV, anyV, anyV, anyV, anyV, anyV, anyV, isV ?v2_17, anyV, anyV, isV ?w2_20] 19 [0, 1, 2, 3, 4, 5, 6, 7, 8, 9, 10, 11, 12, 13, 14, 15, 16, 18] (fun u w' => ∃ b5, u 18 = .pointer (some ⟨b5, 0, none⟩) ∧ Own w' b5 26 [.bool nx, .string sx, .string tx] ∧ Below wr.heap.size wr w') rfl (by kernel_rfl) rfl rfl (by decide) (by kernel_rfl) (by kernel_rfl) (by rintro u u' w9 h ⟨b5, e, hrest⟩; exact ⟨b5, (h 18 (by decide) rfl).symm.trans e, hrest⟩) ?k2 ?m2 ⟨?s2_0, ?s2_1, ?s2_2, ?s2_3, ?s2_4, ?s2_5, ?s2_6, ?s2_7, ?s2_8, ?s2_9, ?s2_10, ?s2_11, ?s2_12, ?s2_13, ?s2_14, ?s2_15, ?s2_16, ?s2_17, ?s2_18, ?s2_19, ?s2_20, trivial⟩ ?p2
        case s2_0 =>
          rw [if_neg (by decide)]
          constructor
          · rw [if_neg (by decide)]; intro t9 w9 hT9 hV9 hO9 K9 hK9; have o9_2 := hO9 2 _ (.inl (show List.contains _ _ = false from by kernel_rfl)) rfl; clear hV9 hO9; have d9_0 := grow_cell hT9 qc_0; have d9_1 := grow_cell hT9 qc_1; have d9_2 := grow_cell hT9 qc_2; have d9_3 := grow_cell hT9 qc_3; have d9_4 := grow_cell hT9 hA; have d9_5 := grow_cell hT9 hB; go_simp
            (refine hK9 _ _ (Grow.refl _) ?_; exact rfl)
          · rw [if_pos (by decide)]; trivial
        case s2_1 =>
          rw [if_neg (by decide)]
          constructor
          · rw [if_neg (by decide)]; intro t9 w9 hT9 hV9 hO9 K9 hK9; have o9_11 := hO9 11 _ (.inl (show List.contains _ _ = false from by kernel_rfl)) rfl; clear hV9 hO9; go_simp
            (refine hK9 _ _ (Grow.refl _) ?_; exact rfl)
          · rw [if_pos (by decide)]; trivial
        case s2_2 =>
          rw [if_neg (by decide)]
          constructor
          · rw [if_neg (by decide)]; intro t9 w9 hT9 hV9 hO9 K9 hK9; have o9_2 := hO9 2 _ (.inl (show List.contains _ _ = false from by kernel_rfl)) rfl; clear hV9 hO9; go_simp
            (refine hK9 _ _ (Grow.refl _) ?_; exact rfl)
          · rw [if_pos (by decide)]; trivial
        case s2_3 =>
          rw [if_neg (by decide)]
          constructor
          · rw [if_neg (by decide)]; intro t9 w9 hT9 hV9 hO9 K9 hK9; obtain ⟨x9_2, p9_2, q9_2⟩ := hV9.g 2 50 rfl rfl (by kernel_rfl); obtain rfl : x9_2 = ?v2_2 := q9_2; clear hV9 hO9; have d9_0 := grow_cell hT9 qc_0; have d9_1 := grow_cell hT9 qc_1; have d9_2 := grow_cell hT9 qc_2; have d9_3 := grow_cell hT9 qc_3; have d9_4 := grow_cell hT9 hA; have d9_5 := grow_cell hT9 hB; go_simp
            (refine hK9 _ _ (Grow.refl _) ?_; exact rfl)
          · rw [if_pos (by decide)]; trivial
        case s2_4 =>
          rw [if_neg (by decide)]
          constructor
          · rw [if_neg (by decide)]; intro t9 w9 hT9 hV9 hO9 K9 hK9; obtain ⟨x9_1, p9_1, q9_1⟩ := hV9.g 1 49 rfl rfl (by kernel_rfl); obtain rfl : x9_1 = ?v2_1 := q9_1; obtain ⟨x9_3, p9_3, q9_3⟩ := hV9.g 3 51 rfl rfl (by kernel_rfl); obtain rfl : x9_3 = ?v2_3 := q9_3; clear hV9 hO9; go_simp; have g8 := (Grow.refl w9).al (.cells #[.int .i64 (O), .int .i64 ((n : Int))] 3); exact hK9 _ _ g8 ⟨_, rfl, Own.new _ _ [_, _]⟩
          · rw [if_pos (by decide)]; trivial
        case s2_5 =>
          rw [if_neg (by decide)]
          constructor
          · rw [if_neg (by decide)]; intro t9 w9 hT9 hV9 hO9 K9 hK9; have o9_10 := hO9 10 _ (.inl (show List.contains _ _ = false from by kernel_rfl)) rfl; clear hV9 hO9; go_simp
            (refine hK9 _ _ (Grow.refl _) ?_; exact rfl)
          · rw [if_pos (by decide)]; trivial
        case s2_6 =>
          rw [if_neg (by decide)]
          constructor
          · rw [if_neg (by decide)]; intro t9 w9 hT9 hV9 hO9 K9 hK9; obtain ⟨x9_5, p9_5, q9_5⟩ := hV9.g 5 53 rfl rfl (by kernel_rfl); obtain rfl : x9_5 = ?v2_5 := q9_5; clear hV9 hO9; go_simp
            (refine hK9 _ _ (Grow.refl _) ?_; exact rfl)
          · rw [if_pos (by decide)]; trivial
        case s2_7 =>
          rw [if_neg (by decide)]
          constructor
          · rw [if_neg (by decide)]; intro t9 w9 hT9 hV9 hO9 K9 hK9; obtain ⟨x9_6, p9_6, q9_6⟩ := hV9.g 6 54 rfl rfl (by kernel_rfl); obtain rfl : x9_6 = (.int .i64 (m2 : Int)) := q9_6; have o9_7 := hO9 7 _ (.inl (show List.contains _ _ = false from by kernel_rfl)) rfl; clear hV9 hO9; go_simp
            (refine hK9 _ _ (Grow.refl _) ?_; exact rfl)
          · rw [if_pos (by decide)]; trivial
        case s2_8 =>
          rw [if_neg (by decide)]
          constructor
          · rw [if_neg (by decide)]; intro t9 w9 hT9 hV9 hO9 K9 hK9; obtain ⟨x9_7, p9_7, q9_7⟩ := hV9.g 7 55 rfl rfl (by kernel_rfl); obtain rfl : x9_7 = (.pointer (some ⟨ga, m2, none⟩)) := q9_7; clear hV9 hO9; have d9_0 := grow_cell hT9 qc_0; have d9_1 := grow_cell hT9 qc_1; have d9_2 := grow_cell hT9 qc_2; have d9_3 := grow_cell hT9 qc_3; have d9_4 := grow_cell hT9 hA; have d9_5 := grow_cell hT9 hB; go_simp
            (refine hK9 _ _ (Grow.refl _) ?_; exact rfl)
          · rw [if_pos (by decide)]; trivial
        case s2_9 =>
          rw [if_neg (by decide)]
          constructor
          · rw [if_neg (by decide)]; intro t9 w9 hT9 hV9 hO9 K9 hK9; have o9_10 := hO9 10 _ (.inl (show List.contains _ _ = false from by kernel_rfl)) rfl; clear hV9 hO9; go_simp
            (refine hK9 _ _ (Grow.refl _) ?_; exact rfl)
          · rw [if_pos (by decide)]; trivial
        case s2_10 =>
          rw [if_neg (by decide)]
          constructor
          · rw [if_neg (by decide)]; intro t9 w9 hT9 hV9 hO9 K9 hK9; obtain ⟨x9_9, p9_9, q9_9⟩ := hV9.g 9 57 rfl rfl (by kernel_rfl); obtain rfl : x9_9 = ?v2_9 := q9_9; clear hV9 hO9; go_simp
            (refine hK9 _ _ (Grow.refl _) ?_; exact rfl)
          · rw [if_pos (by decide)]; trivial
        case s2_11 =>
          rw [if_neg (by decide)]
          constructor
          · rw [if_neg (by decide)]; intro t9 w9 hT9 hV9 hO9 K9 hK9; obtain ⟨x9_10, p9_10, q9_10⟩ := hV9.g 10 58 rfl rfl (by kernel_rfl); obtain rfl : x9_10 = (.int .i64 (m3 : Int)) := q9_10; have o9_8 := hO9 8 _ (.inl (show List.contains _ _ = false from by kernel_rfl)) rfl; clear hV9 hO9; go_simp
            (refine hK9 _ _ (Grow.refl _) ?_; exact rfl)
          · rw [if_pos (by decide)]; trivial
        case s2_12 =>
          rw [if_neg (by decide)]
          constructor
          · rw [if_neg (by decide)]; intro t9 w9 hT9 hV9 hO9 K9 hK9; obtain ⟨x9_11, p9_11, q9_11⟩ := hV9.g 11 59 rfl rfl (by kernel_rfl); obtain rfl : x9_11 = (.pointer (some ⟨gb, m3, none⟩)) := q9_11; clear hV9 hO9; have d9_0 := grow_cell hT9 qc_0; have d9_1 := grow_cell hT9 qc_1; have d9_2 := grow_cell hT9 qc_2; have d9_3 := grow_cell hT9 qc_3; have d9_4 := grow_cell hT9 hA; have d9_5 := grow_cell hT9 hB; go_simp
            (refine hK9 _ _ (Grow.refl _) ?_; exact rfl)
          · rw [if_pos (by decide)]; trivial
        case s2_13 =>
          rw [if_neg (by decide)]
          constructor
          · rw [if_neg (by decide)]; intro t9 w9 hT9 hV9 hO9 K9 hK9; obtain ⟨x9_8, p9_8, q9_8⟩ := hV9.g 8 56 rfl rfl (by kernel_rfl); obtain rfl : x9_8 = ?v2_8 := q9_8; obtain ⟨x9_12, p9_12, q9_12⟩ := hV9.g 12 60 rfl rfl (by kernel_rfl); obtain rfl : x9_12 = ?v2_12 := q9_12; clear hV9 hO9; go_simp; have g8 := (Grow.refl w9).al (.cells #[.int .i64 (R), .int .i64 (C)] 3); exact hK9 _ _ g8 ⟨_, rfl, Own.new _ _ [_, _]⟩
          · rw [if_pos (by decide)]; trivial
        case s2_14 =>
          rw [if_neg (by decide)]
          constructor
          · rw [if_neg (by decide)]; intro t9 w9 hT9 hV9 hO9 K9 hK9; obtain ⟨x9_0, p9_0, q9_0⟩ := hV9.g 0 48 rfl rfl (by kernel_rfl); obtain rfl : x9_0 = ?v2_0 := q9_0; obtain ⟨x9_4, p9_4, q9_4⟩ := hV9.g 4 52 rfl rfl (by kernel_rfl); replace q9_4 : ((fun v w' => ∃ b5, v = .slice (some ⟨b5, 0, none⟩) 2 2 ∧ Own w' b5 3 [.int .i64 (O), .int .i64 ((n : Int))])) x9_4 _ := q9_4; obtain ⟨x9_13, p9_13, q9_13⟩ := hV9.g 13 61 rfl rfl (by kernel_rfl); replace q9_13 : ((fun v w' => ∃ b5, v = .slice (some ⟨b5, 0, none⟩) 2 2 ∧ Own w' b5 3 [.int .i64 (R), .int .i64 (C)])) x9_13 _ := q9_13; clear hV9 hO9; obtain ⟨b4, hx4, ho4⟩ := q9_4; subst hx4; obtain ⟨b3, hx3, ho3⟩ := q9_13; subst hx3; have HR4 := Lib.hid ho4.rd0; have HR3 := Lib.hid ho3.rd0; go_simp; refine (quot_any HV.out (some ⟨b4, 0, none⟩) [O, (n : Int)] [fO, n] 2 (some ⟨b3, 0, none⟩) [R, C] [fR, fC] 2 _ HR4.out E1.out (by simp) (by decide) M1.out HR3.out E2.out (by simp) (by decide) M2.out ((T0.out.below hbw).below hT9.below)).mono ?_
            rintro e w8 ⟨hq, hb8⟩; have he := HEND.out _ hq; subst he; exact hK9 _ _ hb8 rfl
          · rw [if_pos (by decide)]; trivial
        case s2_15 =>
          rw [if_neg (by decide)]
          constructor
          · rw [if_neg (by decide)]; intro t9 w9 hT9 hV9 hO9 K9 hK9; obtain ⟨x9_14, p9_14, q9_14⟩ := hV9.g 14 62 rfl rfl (by kernel_rfl); obtain rfl : x9_14 = (.tuple #[.agg #[.bool nx, .string sx, .string tx], .int .i64 0]) := q9_14; clear hV9 hO9; go_simp
            (refine hK9 _ _ (Grow.refl _) ?_; exact rfl)
          · rw [if_pos (by decide)]; trivial
        case s2_16 =>
          rw [if_neg (by decide)]
          constructor
          · rw [if_neg (by decide)]; intro t9 w9 hT9 hV9 hO9 K9 hK9; obtain ⟨x9_15, p9_15, q9_15⟩ := hV9.g 15 47 rfl rfl (by kernel_rfl); obtain rfl : x9_15 = ?v2_15 := q9_15; clear hV9 hO9; go_simp
            (refine hK9 _ _ (Grow.refl _) ?_; exact rfl)
          · rw [if_pos (by decide)]; trivial
        case s2_17 =>
          rw [if_neg (by decide)]
          constructor
          · rw [if_neg (by decide)]; intro t9 w9 hT9 hV9 hO9 K9 hK9; obtain ⟨x9_15, p9_15, q9_15⟩ := hV9.g 15 47 rfl rfl (by kernel_rfl); obtain rfl : x9_15 = ?v2_15 := q9_15; clear hV9 hO9; go_simp
            (refine hK9 _ _ (Grow.refl _) ?_; exact rfl)
          · rw [if_neg (by decide)]; intro t9 w9 hV9 hO9 K9 hK9; obtain ⟨x9_15, p9_15, q9_15⟩ := hV9.g 15 47 rfl rfl (by kernel_rfl); obtain ⟨_, q9_15⟩ := q9_15.pre (by decide); obtain rfl : x9_15 = ?v2_15 := q9_15; clear hV9 hO9; go_simp
            (refine hK9 _ ?_; exact rfl)
        case s2_18 =>
          rw [if_neg (by decide)]
          constructor
          · rw [if_neg (by decide)]; intro t9 w9 hT9 hV9 hO9 K9 hK9; clear hV9 hO9; go_simp; have g8 := (Grow.refl w9).al (.cells #[.bool false, .string ⟨#[]⟩, .string ⟨#[]⟩] 26); exact hK9 _ _ g8 ⟨_, rfl, hT9.below.size, Own.new _ _ [_, _, _]⟩
          · rw [if_pos (by decide)]; trivial
        case s2_19 =>
          rw [if_pos (by decide)]; intro t9 w9 hT9 hV9 hO9 K9 hK9; obtain ⟨x9_16, p9_16, q9_16⟩ := hV9.g 16 63 (by decide) rfl (by kernel_rfl); obtain rfl : x9_16 = ?v2_16 := q9_16; obtain ⟨x9_18, p9_18, q9_18⟩ := hV9.g 18 12 (by decide) rfl (by kernel_rfl); replace q9_18 : ((fun v w' => ∃ b5, v = .pointer (some ⟨b5, 0, none⟩) ∧ wr.heap.size ≤ b5 ∧ Own w' b5 26 [.bool false, .string ⟨#[]⟩, .string ⟨#[]⟩])) x9_18 _ := q9_18; clear hV9 hO9; obtain ⟨b5, hx5, hb5, hg⟩ := q9_18; subst hx5; obtain ⟨hg0, hg1, hg2⟩ := hg.cells3; obtain ⟨hf0, hf1, hf2⟩ := hg.frozens3; have HE := Lib.hid (⟨b5, fval_of p9_18 rfl, hg.set3 (.bool nx) (.string sx) (.string tx), Below.set3 hT9.below hb5 (.bool nx) (.string sx) (.string tx)⟩ : (fun u w' => ∃ b5, u 18 = .pointer (some ⟨b5, 0, none⟩) ∧ Own w' b5 26 [.bool nx, .string sx, .string tx] ∧ Below wr.heap.size wr w') (fval [some 48, some 49, some 50, some 51, some 52, some 53, some 54, some 55, some 56, some 57, some 58, some 59, some 60, some 61, some 62, some 47, some 63, some 64, some 12, none, some 13] t9) (((w9.setCell ⟨b5, 0, none⟩ (.bool nx)).setCell ⟨b5, 1, none⟩ (.string sx)).setCell ⟨b5, 2, none⟩ (.string tx)))
          go_simp; exact hK9 undef _ HE.out trivial
        case s2_20 =>
          rw [if_neg (by decide)]
          constructor
          · rw [if_pos (by rfl)]; trivial
          · rw [if_neg (by decide)]; intro t9 w9 hV9 hO9 K9 hK9; obtain ⟨x9_17, p9_17, q9_17⟩ := hV9.g 17 64 rfl rfl (by kernel_rfl); have q9_17 := q9_17.late (by decide); obtain rfl : x9_17 = ?v2_17 := q9_17; clear hV9 hO9; go_simp
            (refine hK9 _ ?_; exact rfl)
        case k2 =>
          intro i9 v9 w9 x9 h9 g9
          match i9, h9 with
          | 0, h9 => exact h9
          | 1, h9 => exact h9
          | 2, h9 => exact h9
          | 3, h9 => exact h9
          | 4, h9 => (replace h9 : (fun v w' => ∃ b5, v = .slice (some ⟨b5, 0, none⟩) 2 2 ∧ Own w' b5 3 [.int .i64 (O), .int .i64 ((n : Int))]) v9 w9 := h9); obtain ⟨b5, rfl, h8⟩ := h9; exact ⟨b5, rfl, h8.below g9 h8.lt⟩
          | 5, h9 => exact h9
          | 6, h9 => exact h9
          | 7, h9 => exact h9
          | 8, h9 => exact h9
          | 9, h9 => exact h9
          | 10, h9 => exact h9
          | 11, h9 => exact h9
          | 12, h9 => exact h9
          | 13, h9 => (replace h9 : (fun v w' => ∃ b5, v = .slice (some ⟨b5, 0, none⟩) 2 2 ∧ Own w' b5 3 [.int .i64 (R), .int .i64 (C)]) v9 w9 := h9); obtain ⟨b5, rfl, h8⟩ := h9; exact ⟨b5, rfl, h8.below g9 h8.lt⟩
          | 14, h9 => exact h9
          | 15, h9 => exact h9
          | 16, h9 => exact h9
          | 17, h9 => exact h9
          | 18, h9 => (replace h9 : (fun v w' => ∃ b5, v = .pointer (some ⟨b5, 0, none⟩) ∧ wr.heap.size ≤ b5 ∧ Own w' b5 26 [.bool false, .string ⟨#[]⟩, .string ⟨#[]⟩]) v9 w9 := h9); obtain ⟨b5, rfl, h7, h8⟩ := h9; exact ⟨b5, rfl, h7, h8.below g9 h8.lt⟩
          | 19, h9 => exact h9
          | 20, h9 => exact h9
          | _ + 21, h9 => exact trivial
        case m2 =>
          intro i9 v9 w9 x9 a s h
          match i9, a, s, h with
          | 0, a, _, _ => exact absurd (by decide) a
          | 1, a, _, _ => exact absurd (by decide) a
          | 2, a, _, _ => exact absurd (by decide) a
          | 3, a, _, _ => exact absurd (by decide) a
          | 4, a, _, _ => exact absurd (by decide) a
          | 5, a, _, _ => exact absurd (by decide) a
          | 6, a, _, _ => exact absurd (by decide) a
          | 7, a, _, _ => exact absurd (by decide) a
          | 8, a, _, _ => exact absurd (by decide) a
          | 9, a, _, _ => exact absurd (by decide) a
          | 10, a, _, _ => exact absurd (by decide) a
          | 11, a, _, _ => exact absurd (by decide) a
          | 12, a, _, _ => exact absurd (by decide) a
          | 13, a, _, _ => exact absurd (by decide) a
          | 14, a, _, _ => exact absurd (by decide) a
          | 15, a, _, _ => exact absurd (by decide) a
          | 16, a, _, _ => exact absurd (by decide) a
          | 17, _, _, h => exact h
          | 18, a, _, _ => exact absurd (by decide) a
          | 19, _, s, _ => exact absurd rfl s
          | 20, _, _, h => exact False.elim h
          | _ + 21, _, _, _ => exact trivial
        intro u9 w9 hE9 hu9; obtain ⟨_, r9_0⟩ := (hu9 0 (by decide)).pre (by decide); replace r9_0 : u9 0 = ?v2_0 := r9_0; obtain ⟨_, r9_1⟩ := (hu9 1 (by decide)).pre (by decide); replace r9_1 : u9 1 = ?v2_1 := r9_1; obtain ⟨_, r9_2⟩ := (hu9 2 (by decide)).pre (by decide); replace r9_2 : u9 2 = ?v2_2 := r9_2; obtain ⟨_, r9_3⟩ := (hu9 3 (by decide)).pre (by decide); replace r9_3 : u9 3 = ?v2_3 := r9_3; obtain ⟨_, r9_5⟩ := (hu9 5 (by decide)).pre (by decide); replace r9_5 : u9 5 = ?v2_5 := r9_5; obtain ⟨_, r9_6⟩ := (hu9 6 (by decide)).pre (by decide); replace r9_6 : u9 6 = (.int .i64 (m2 : Int)) := r9_6; obtain ⟨_, r9_7⟩ := (hu9 7 (by decide)).pre (by decide); replace r9_7 : u9 7 = (.pointer (some ⟨ga, m2, none⟩)) := r9_7; obtain ⟨_, r9_8⟩ := (hu9 8 (by decide)).pre (by decide); replace r9_8 : u9 8 = ?v2_8 := r9_8; obtain ⟨_, r9_9⟩ := (hu9 9 (by decide)).pre (by decide); replace r9_9 : u9 9 = ?v2_9 := r9_9
        obtain ⟨_, r9_10⟩ := (hu9 10 (by decide)).pre (by decide); replace r9_10 : u9 10 = (.int .i64 (m3 : Int)) := r9_10; obtain ⟨_, r9_11⟩ := (hu9 11 (by decide)).pre (by decide); replace r9_11 : u9 11 = (.pointer (some ⟨gb, m3, none⟩)) := r9_11; obtain ⟨_, r9_12⟩ := (hu9 12 (by decide)).pre (by decide); replace r9_12 : u9 12 = ?v2_12 := r9_12; obtain ⟨_, r9_14⟩ := (hu9 14 (by decide)).pre (by decide); replace r9_14 : u9 14 = (.tuple #[.agg #[.bool nx, .string sx, .string tx], .int .i64 0]) := r9_14; obtain ⟨_, r9_15⟩ := (hu9 15 (by decide)).pre (by decide); replace r9_15 : u9 15 = ?v2_15 := r9_15; obtain ⟨_, r9_16⟩ := (hu9 16 (by decide)).pre (by decide); replace r9_16 : u9 16 = ?v2_16 := r9_16; have r9_17 : u9 17 = ?v2_17 := (hu9 17 (by decide)).late (by decide); have r9_20 : u9 20 = ?w2_20 := (hu9 20 (by decide)).late (by decide); clear hu9; obtain ⟨gx, hu18, o_x, hbE⟩ := hE9
        simp only [putAll, Act.put, List.setIfInBounds_toArray, List.set_cons_succ, List.set_cons_zero, List.getD_cons_succ, List.getD_cons_zero, Nat.reduceAdd, Nat.zero_add]
        simp only [r9_0, r9_1, r9_2, r9_3, r9_5, r9_6, r9_7, r9_8, r9_9, r9_10, r9_11, r9_12, r9_14, r9_15, r9_16, r9_17, r9_20]
        clear r9_0 r9_1 r9_2 r9_3 r9_5 r9_6 r9_7 r9_8 r9_9 r9_10 r9_11 r9_12 r9_14 r9_15 r9_16 r9_17 r9_20; rw [hu18]; clear hu18 qc_0 qc_1 qc_2 qc_3 hA hB; replace o_c := o_c.below hbE o_c.lt; replace o_r := o_r.below hbE o_r.lt; replace o_a := o_a.below hbE o_a.lt; replace o_b := o_b.below hbE o_b.lt; replace o_s := o_s.below hbE o_s.lt; replace hbw := below6 hbw hbE; clear hbE; obtain ⟨wq7, hwq7⟩ : ∃ x : World, x = w9 := ⟨_, rfl⟩; rw [← hwq7] at o_c o_r o_a o_b o_s o_x hbw ⊢; clear hwq7 w9
        go_upto_region 13 with (fail)
        obtain ⟨qx_0, qx_1, qx_2⟩ := o_x.cells3
        go_wp2_with fail
        clear qx_0 qx_1 qx_2; refine (HBI.out _).mono ?_; rintro e w8 ⟨rfl, hb8⟩; replace o_c := o_c.below hb8 o_c.lt; replace o_r := o_r.below hb8 o_r.lt; replace o_a := o_a.below hb8 o_a.lt; replace o_b := o_b.below hb8 o_b.lt; replace o_s := o_s.below hb8 o_s.lt; replace o_x := o_x.below hb8 o_x.lt; replace hbw := below6 hbw hb8; clear hb8; have lt_c := o_c.lt; have lt_r := o_r.lt; have lt_a := o_a.lt; have lt_b := o_b.lt; have lt_s := o_s.lt; have lt_x := o_x.lt; have hs_y := hbw.size; obtain ⟨o_y, hz9⟩ := new1 w8 [.bool ny, .string sy, .string ty, .bool nz, .string sz, .string tz] 34; replace o_c := o_c.alloc (.cells #[.bool ny, .string sy, .string ty, .bool nz, .string sz, .string tz] 34); replace o_r := o_r.alloc (.cells #[.bool ny, .string sy, .string ty, .bool nz, .string sz, .string tz] 34); replace o_a := o_a.alloc (.cells #[.bool ny, .string sy, .string ty, .bool nz, .string sz, .string tz] 34)
        replace o_b := o_b.alloc (.cells #[.bool ny, .string sy, .string ty, .bool nz, .string sz, .string tz] 34); replace o_s := o_s.alloc (.cells #[.bool ny, .string sy, .string ty, .bool nz, .string sz, .string tz] 34); replace o_x := o_x.alloc (.cells #[.bool ny, .string sy, .string ty, .bool nz, .string sz, .string tz] 34); replace hbw := below6 hbw hz9; clear hz9
        go_upto_region 16 with (fail)
        generalize (w8.alloc (.cells #[.bool ny, .string sy, .string ty, .bool nz, .string sz, .string tz] 34)) = wa10 at o_c o_r o_a o_b o_s o_x o_y hbw ⊢; generalize w8.heap.size = g10 at o_y hs_y lt_c lt_r lt_a lt_b lt_s lt_x ⊢; have ne_c : w.heap.size ≠ g10 := by omega
        have ne_r : w.heap.size + 1 ≠ g10 := by omega
        have ne_a : ga ≠ g10 := by omega
        have ne_b : gb ≠ g10 := by omega
        have ne_s : g5 ≠ g10 := by omega
        have ne_x : gx ≠ g10 := by omega
        obtain ⟨qy_0, qy_1, qy_2, qy_3, qy_4, qy_5⟩ := o_y.cells6; refine wp_reg_st [some 80, some 81, some 82, some 83, some 84, some 85, some 79, some 86, some 87, none, some 13] [isV ?v3_0, isV ?v3_1, isV (.int .i64 (2 * (O))), isV (.agg #[.bool nh, .string sh, .string th, .bool nh, .string sh, .string th]), isV ?v3_4, isV (.tuple #[.agg #[.bool nu, .string su, .string tu, .bool nv, .string sv, .string tv], .int .i64 0]), isV ?v3_6, isV ?v3_7, isV ?v3_8, fun _ _ => False, fun _ _ => False] [anyV, anyV, anyV, anyV, anyV, anyV, anyV, anyV, isV ?v3_8, anyV, isV ?w3_10] 9 [0, 1, 2, 3, 4, 5, 6, 7] (fun _ => fun w' => Below w.heap.size w w' ∧ Own w' (g10) 34 [.bool nu, .string su, .string tu, .bool nv, .string sv, .string tv] ∧ Own w' (w.heap.size) 23 [.int .i64 (a : Int), .int .i64 (p : Int), .int .i64 (q : Int), .int .i64 (n : Int)] ∧ Own w' (w.heap.size + 1) 34 [.bool false, .string ⟨#[]⟩, .string ⟨#[]⟩, .bool false, .string ⟨#[]⟩, .string ⟨#[]⟩] ∧ Own w' (ga) 57 [.int .i64 ((p : Int)), .int .i64 ((n : Int) - (p : Int))] ∧ Own w' (gb) 57 [.int .i64 ((q : Int)), .int .i64 ((n : Int) - (q : Int))] ∧ Own w' (g5) 34 [.bool (nf k), .string (sf k), .string (tf k), .bool (ng k), .string (sg k), .string (tg k)]) rfl (by kernel_rfl) rfl rfl (by decide) (by kernel_rfl) (by kernel_rfl) (fun _ _ _ _ h => h) ?k3 ?m3 ⟨?s3_0, ?s3_1, ?s3_2, ?s3_3, ?s3_4, ?s3_5, ?s3_6, ?s3_7, ?s3_8, ?s3_9, ?s3_10, trivial⟩ ?p3
        case s3_0 =>
          rw [if_neg (by decide)]
          constructor
          · rw [if_neg (by decide)]; intro t9 w9 hT9 hV9 hO9 K9 hK9; have o9_14 := hO9 14 _ (.inl (show List.contains _ _ = false from by kernel_rfl)) rfl; clear hV9 hO9; have d9_0 := grow_cell hT9 qy_0; have d9_1 := grow_cell hT9 qy_1; have d9_2 := grow_cell hT9 qy_2; have d9_3 := grow_cell hT9 qy_3; have d9_4 := grow_cell hT9 qy_4; have d9_5 := grow_cell hT9 qy_5; go_simp
            (refine hK9 _ _ (Grow.refl _) ?_; exact rfl)
          · rw [if_pos (by decide)]; trivial
        case s3_1 =>
          rw [if_neg (by decide)]
          constructor
          · rw [if_neg (by decide)]; intro t9 w9 hT9 hV9 hO9 K9 hK9; have o9_11 := hO9 11 _ (.inl (show List.contains _ _ = false from by kernel_rfl)) rfl; clear hV9 hO9; go_simp
            (refine hK9 _ _ (Grow.refl _) ?_; exact rfl)
          · rw [if_pos (by decide)]; trivial
        case s3_2 =>
          rw [if_neg (by decide)]
          constructor
          · rw [if_neg (by decide)]; intro t9 w9 hT9 hV9 hO9 K9 hK9; obtain ⟨x9_1, p9_1, q9_1⟩ := hV9.g 1 81 rfl rfl (by kernel_rfl); obtain rfl : x9_1 = ?v3_1 := q9_1; clear hV9 hO9; go_simp
            (refine hK9 _ _ (Grow.refl _) ?_; exact rfl)
          · rw [if_pos (by decide)]; trivial
        case s3_3 =>
          rw [if_neg (by decide)]
          constructor
          · rw [if_neg (by decide)]; intro t9 w9 hT9 hV9 hO9 K9 hK9; obtain ⟨x9_2, p9_2, q9_2⟩ := hV9.g 2 82 rfl rfl (by kernel_rfl); obtain rfl : x9_2 = (.int .i64 (2 * (O))) := q9_2; clear hV9 hO9; go_simp; refine (HWH.out _).mono ?_; rintro e w8 ⟨rfl, hb8⟩; exact hK9 _ _ hb8 rfl
          · rw [if_pos (by decide)]; trivial
        case s3_4 =>
          rw [if_neg (by decide)]
          constructor
          · rw [if_neg (by decide)]; intro t9 w9 hT9 hV9 hO9 K9 hK9; obtain ⟨x9_3, p9_3, q9_3⟩ := hV9.g 3 83 rfl rfl (by kernel_rfl); obtain rfl : x9_3 = (.agg #[.bool nh, .string sh, .string th, .bool nh, .string sh, .string th]) := q9_3; clear hV9 hO9; go_simp
            (refine hK9 _ _ (Grow.refl _) ?_; exact rfl)
          · rw [if_pos (by decide)]; trivial
        case s3_5 =>
          rw [if_neg (by decide)]
          constructor
          · rw [if_neg (by decide)]; intro t9 w9 hT9 hV9 hO9 K9 hK9; obtain ⟨x9_0, p9_0, q9_0⟩ := hV9.g 0 80 rfl rfl (by kernel_rfl); obtain rfl : x9_0 = ?v3_0 := q9_0; obtain ⟨x9_4, p9_4, q9_4⟩ := hV9.g 4 84 rfl rfl (by kernel_rfl); obtain rfl : x9_4 = ?v3_4 := q9_4; clear hV9 hO9; go_simp; refine (HSC.out _).mono ?_; rintro e w8 ⟨rfl, hb8⟩; exact hK9 _ _ hb8 rfl
          · rw [if_pos (by decide)]; trivial
        case s3_6 =>
          rw [if_neg (by decide)]
          constructor
          · rw [if_neg (by decide)]; intro t9 w9 hT9 hV9 hO9 K9 hK9; obtain ⟨x9_5, p9_5, q9_5⟩ := hV9.g 5 85 rfl rfl (by kernel_rfl); obtain rfl : x9_5 = (.tuple #[.agg #[.bool nu, .string su, .string tu, .bool nv, .string sv, .string tv], .int .i64 0]) := q9_5; clear hV9 hO9; go_simp
            (refine hK9 _ _ (Grow.refl _) ?_; exact rfl)
          · rw [if_pos (by decide)]; trivial
        case s3_7 =>
          rw [if_neg (by decide)]
          constructor
          · rw [if_neg (by decide)]; intro t9 w9 hT9 hV9 hO9 K9 hK9; obtain ⟨x9_6, p9_6, q9_6⟩ := hV9.g 6 79 rfl rfl (by kernel_rfl); obtain rfl : x9_6 = ?v3_6 := q9_6; clear hV9 hO9; go_simp
            (refine hK9 _ _ (Grow.refl _) ?_; exact rfl)
          · rw [if_pos (by decide)]; trivial
        case s3_8 =>
          rw [if_neg (by decide)]
          constructor
          · rw [if_neg (by decide)]; intro t9 w9 hT9 hV9 hO9 K9 hK9; obtain ⟨x9_6, p9_6, q9_6⟩ := hV9.g 6 79 rfl rfl (by kernel_rfl); obtain rfl : x9_6 = ?v3_6 := q9_6; clear hV9 hO9; go_simp
            (refine hK9 _ _ (Grow.refl _) ?_; exact rfl)
          · rw [if_neg (by decide)]; intro t9 w9 hV9 hO9 K9 hK9; obtain ⟨x9_6, p9_6, q9_6⟩ := hV9.g 6 79 rfl rfl (by kernel_rfl); obtain ⟨_, q9_6⟩ := q9_6.pre (by decide); obtain rfl : x9_6 = ?v3_6 := q9_6; clear hV9 hO9; go_simp
            (refine hK9 _ ?_; exact rfl)
        case s3_9 =>
          rw [if_pos (by decide)]; intro t9 w9 hT9 hV9 hO9 K9 hK9; obtain ⟨x9_7, p9_7, q9_7⟩ := hV9.g 7 86 (by decide) rfl (by kernel_rfl); obtain rfl : x9_7 = ?v3_7 := q9_7; have o9_14 := hO9 14 _ (.inl (show List.contains _ _ = false from by kernel_rfl)) rfl; clear hV9 hO9; have og := o_y.below hT9.below o_y.lt; obtain ⟨hg0, hg1, hg2, hg3, hg4, hg5⟩ := og.cells6; obtain ⟨hf0, hf1, hf2, hf3, hf4, hf5⟩ := og.frozens6; have HE := Lib.hid (⟨Below.set6 (below6 hbw hT9.below) (g := g10) (by omega) (.bool nu) (.string su) (.string tu) (.bool nv) (.string sv) (.string tv), og.set6 (.bool nu) (.string su) (.string tu) (.bool nv) (.string sv) (.string tv), (o_c.below hT9.below o_c.lt).far6 ne_c (.bool nu) (.string su) (.string tu) (.bool nv) (.string sv) (.string tv), (o_r.below hT9.below o_r.lt).far6 ne_r (.bool nu) (.string su) (.string tu) (.bool nv) (.string sv) (.string tv), (o_a.below hT9.below o_a.lt).far6 ne_a (.bool nu) (.string su) (.string tu) (.bool nv) (.string sv) (.string tv), (o_b.below hT9.below o_b.lt).far6 ne_b (.bool nu) (.string su) (.string tu) (.bool nv) (.string sv) (.string tv), (o_s.below hT9.below o_s.lt).far6 ne_s (.bool nu) (.string su) (.string tu) (.bool nv) (.string sv) (.string tv)⟩ : (fun w' => Below w.heap.size w w' ∧ Own w' (g10) 34 [.bool nu, .string su, .string tu, .bool nv, .string sv, .string tv] ∧ Own w' (w.heap.size) 23 [.int .i64 (a : Int), .int .i64 (p : Int), .int .i64 (q : Int), .int .i64 (n : Int)] ∧ Own w' (w.heap.size + 1) 34 [.bool false, .string ⟨#[]⟩, .string ⟨#[]⟩, .bool false, .string ⟨#[]⟩, .string ⟨#[]⟩] ∧ Own w' (ga) 57 [.int .i64 ((p : Int)), .int .i64 ((n : Int) - (p : Int))] ∧ Own w' (gb) 57 [.int .i64 ((q : Int)), .int .i64 ((n : Int) - (q : Int))] ∧ Own w' (g5) 34 [.bool (nf k), .string (sf k), .string (tf k), .bool (ng k), .string (sg k), .string (tg k)]) ((((((w9.setCell ⟨g10, 0, none⟩ (.bool nu)).setCell ⟨g10, 1, none⟩ (.string su)).setCell ⟨g10, 2, none⟩ (.string tu)).setCell ⟨g10, 3, none⟩ (.bool nv)).setCell ⟨g10, 4, none⟩ (.string sv)).setCell ⟨g10, 5, none⟩ (.string tv)))
          go_simp; exact hK9 undef _ HE.out trivial
        case s3_10 =>
          rw [if_neg (by decide)]
          constructor
          · rw [if_pos (by rfl)]; trivial
          · rw [if_neg (by decide)]; intro t9 w9 hV9 hO9 K9 hK9; obtain ⟨x9_8, p9_8, q9_8⟩ := hV9.g 8 87 rfl rfl (by kernel_rfl); have q9_8 := q9_8.late (by decide); obtain rfl : x9_8 = ?v3_8 := q9_8; clear hV9 hO9; go_simp
            (refine hK9 _ ?_; exact rfl)
        case k3 =>
          intro i9 v9 w9 x9 h9 g9
          match i9, h9 with
          | 0, h9 => exact h9
          | 1, h9 => exact h9
          | 2, h9 => exact h9
          | 3, h9 => exact h9
          | 4, h9 => exact h9
          | 5, h9 => exact h9
          | 6, h9 => exact h9
          | 7, h9 => exact h9
          | 8, h9 => exact h9
          | 9, h9 => exact h9
          | 10, h9 => exact h9
          | _ + 11, h9 => exact trivial
        case m3 =>
          intro i9 v9 w9 x9 a s h
          match i9, a, s, h with
          | 0, a, _, _ => exact absurd (by decide) a
          | 1, a, _, _ => exact absurd (by decide) a
          | 2, a, _, _ => exact absurd (by decide) a
          | 3, a, _, _ => exact absurd (by decide) a
          | 4, a, _, _ => exact absurd (by decide) a
          | 5, a, _, _ => exact absurd (by decide) a
          | 6, a, _, _ => exact absurd (by decide) a
          | 7, a, _, _ => exact absurd (by decide) a
          | 8, _, _, h => exact h
          | 9, _, s, _ => exact absurd rfl s
          | 10, _, _, h => exact False.elim h
          | _ + 11, _, _, _ => exact trivial
        intro u9 w9 hE9 hu9; obtain ⟨_, r9_0⟩ := (hu9 0 (by decide)).pre (by decide); replace r9_0 : u9 0 = ?v3_0 := r9_0; obtain ⟨_, r9_1⟩ := (hu9 1 (by decide)).pre (by decide); replace r9_1 : u9 1 = ?v3_1 := r9_1; obtain ⟨_, r9_2⟩ := (hu9 2 (by decide)).pre (by decide); replace r9_2 : u9 2 = (.int .i64 (2 * (O))) := r9_2; obtain ⟨_, r9_3⟩ := (hu9 3 (by decide)).pre (by decide); replace r9_3 : u9 3 = (.agg #[.bool nh, .string sh, .string th, .bool nh, .string sh, .string th]) := r9_3; obtain ⟨_, r9_4⟩ := (hu9 4 (by decide)).pre (by decide); replace r9_4 : u9 4 = ?v3_4 := r9_4; obtain ⟨_, r9_5⟩ := (hu9 5 (by decide)).pre (by decide); replace r9_5 : u9 5 = (.tuple #[.agg #[.bool nu, .string su, .string tu, .bool nv, .string sv, .string tv], .int .i64 0]) := r9_5; obtain ⟨_, r9_6⟩ := (hu9 6 (by decide)).pre (by decide); replace r9_6 : u9 6 = ?v3_6 := r9_6; obtain ⟨_, r9_7⟩ := (hu9 7 (by decide)).pre (by decide)
        replace r9_7 : u9 7 = ?v3_7 := r9_7; have r9_8 : u9 8 = ?v3_8 := (hu9 8 (by decide)).late (by decide); have r9_10 : u9 10 = ?w3_10 := (hu9 10 (by decide)).late (by decide); clear hu9; obtain ⟨hbz, oz_y, oz_c, oz_r, oz_a, oz_b, oz_s⟩ := hE9
        simp only [putAll, Act.put, List.setIfInBounds_toArray, List.set_cons_succ, List.set_cons_zero, List.getD_cons_succ, List.getD_cons_zero, Nat.reduceAdd, Nat.zero_add]
        simp only [r9_0, r9_1, r9_2, r9_3, r9_4, r9_5, r9_6, r9_7, r9_8, r9_10]
        clear r9_0 r9_1 r9_2 r9_3 r9_4 r9_5 r9_6 r9_7 r9_8 r9_10; clear o_c o_r o_a o_b o_s o_y o_x hbw

        have o_c := oz_c; have o_r := oz_r; have o_a := oz_a; have o_b := oz_b; have o_s := oz_s; have o_y := oz_y; have hbw := hbz; clear hbz oz_c oz_r oz_a oz_b oz_s oz_y; obtain ⟨wq12, hwq12⟩ : ∃ x : World, x = w9 := ⟨_, rfl⟩; rw [← hwq12] at o_c o_r o_a o_b o_s o_y hbw ⊢; clear hwq12 w9; obtain ⟨qs_0, qs_1, qs_2, qs_3, qs_4, qs_5⟩ := o_s.cells6; obtain ⟨qy_0, qy_1, qy_2, qy_3, qy_4, qy_5⟩ := o_y.cells6
        go_wp2_with fail
        clear qs_0 qs_1 qs_2 qs_3 qs_4 qs_5 qy_0 qy_1 qy_2 qy_3 qy_4 qy_5
        go_wp2_with fail
        refine (HAD.out _).mono ?_; rintro e w13 ⟨rfl, hb13⟩; replace o_c := o_c.below hb13 o_c.lt; replace o_r := o_r.below hb13 o_r.lt; replace o_a := o_a.below hb13 o_a.lt; replace o_b := o_b.below hb13 o_b.lt; replace o_s := o_s.below hb13 o_s.lt; replace o_y := o_y.below hb13 o_y.lt; replace hbw := below6 hbw hb13; clear hb13; obtain ⟨qs_0, qs_1, qs_2, qs_3, qs_4, qs_5⟩ := o_s.cells6; obtain ⟨fs_0, fs_1, fs_2, fs_3, fs_4, fs_5⟩ := o_s.frozens6; have oz := o_s.set6 (.bool (nf (k + 1))) (.string (sf (k + 1))) (.string (tf (k + 1))) (.bool (ng (k + 1))) (.string (sg (k + 1))) (.string (tg (k + 1))); have sz9 := Below.set6 hbw (g := g5) (by omega) (.bool (nf (k + 1))) (.string (sf (k + 1))) (.string (tf (k + 1))) (.bool (ng (k + 1))) (.string (sg (k + 1))) (.string (tg (k + 1))); replace o_c := o_c.far6 nes_c (.bool (nf (k + 1))) (.string (sf (k + 1))) (.string (tf (k + 1))) (.bool (ng (k + 1))) (.string (sg (k + 1))) (.string (tg (k + 1)))
        replace o_r := o_r.far6 nes_r (.bool (nf (k + 1))) (.string (sf (k + 1))) (.string (tf (k + 1))) (.bool (ng (k + 1))) (.string (sg (k + 1))) (.string (tg (k + 1))); replace o_a := o_a.far6 nes_a (.bool (nf (k + 1))) (.string (sf (k + 1))) (.string (tf (k + 1))) (.bool (ng (k + 1))) (.string (sg (k + 1))) (.string (tg (k + 1))); replace o_b := o_b.far6 nes_b (.bool (nf (k + 1))) (.string (sf (k + 1))) (.string (tf (k + 1))) (.bool (ng (k + 1))) (.string (sg (k + 1))) (.string (tg (k + 1)))
        go_wp2_with fail
        go_roundg (3 - k)
        case measure => have := HQ.out; omega
        case rel => exact ⟨k + 1, z + 1, by omega, by omega, by have := HQ.out; omega, by go_num, o_c, o_r, o_a, o_b, oz, sz9⟩
    · obtain rfl : k = 4 := by omega
      replace hz : z = 4 := hz; subst hz; obtain ⟨qs_0, qs_1, qs_2, qs_3, qs_4, qs_5⟩ := o_s.cells6; obtain ⟨qr_0, qr_1, qr_2, qr_3, qr_4, qr_5⟩ := o_r.cells6; obtain ⟨fr_0, fr_1, fr_2, fr_3, fr_4, fr_5⟩ := o_r.frozens6; have oz := o_r.set6 (.bool (nf 4)) (.string (sf 4)) (.string (tf 4)) (.bool (ng 4)) (.string (sg 4)) (.string (tg 4)); have sz9 := Below.set6 hbw (g := w.heap.size + 1) (by omega) (.bool (nf 4)) (.string (sf 4)) (.string (tf 4)) (.bool (ng 4)) (.string (sg 4)) (.string (tg 4))
      go_wp2_with fail
      generalize ((((((wr.setCell ⟨w.heap.size + 1, 0, none⟩ (.bool (nf 4))).setCell ⟨w.heap.size + 1, 1, none⟩ (.string (sf 4))).setCell ⟨w.heap.size + 1, 2, none⟩ (.string (tf 4))).setCell ⟨w.heap.size + 1, 3, none⟩ (.bool (ng 4))).setCell ⟨w.heap.size + 1, 4, none⟩ (.string (sg 4))).setCell ⟨w.heap.size + 1, 5, none⟩ (.string (tg 4))) = wz at oz sz9 ⊢; obtain ⟨z0, z1, z2, z3, z4, z5⟩ := oz.cells6; exact bodyPost_ret (v := .tuple #[.agg #[.bool (nf 4), .string (sf 4), .string (tf 4), .bool (ng 4), .string (sg 4), .string (tg 4)], .int .i64 0]) (by simp [results, Tryz.results13, go_sem, z0, z1, z2, z3, z4, z5]) rfl ⟨rfl, sz9⟩
theorem ll_yes {a p q n k : Nat} (hv : VC a p q n) (hk : k ≤ 8) (w0 : World) : ∃ e : Nat → Int, (∀ i, 0 < fo a p q n i → IsLog (fx a p q n i ^ (2 ^ k)) (e i) ∧ -1000000 ≤ e i ∧ e i ≤ 1000000) ∧
    ∀ w, Tab w → Calls Tryz.prog 13 #[CV a p q n, .int .i64 (k : Int)] w fun e' w' => e' = .returned (.tuple #[IV (flo a p q n k e 4) (fhi a p q n k e 4), .int .i64 0]) ∧ Below w.heap.size w w' := by
  obtain ⟨e, h1, h2⟩ := fstep_yes hv hk w0; refine ⟨e, h1, fun w ht => ?_⟩; have hw : RetV 28 #[.int .i64 0] (IV (flo a p q n k e 0) (fhi a p q n k e 0)) := whole_yes 0 (by decide); have g1 := hv.pn; have g2 := hv.qn; have g3 := hv.n2; have g4 := hv.ap; have g5 := hv.aq; have g6 := hv.pq; have g7 := hv.n1
  have key : ∀ (i : Nat) (O : Int), i < 4 → O = ((fo a p q n i : Nat) : Int) → LStep (fo a p q n i) (fr p n i) (fc q n i) n k O (fun i => decide ((flo a p q n k e i).num < 0)) (fun i => S (flo a p q n k e i).num.natAbs) (fun i => S (flo a p q n k e i).den) (fun i => decide ((fhi a p q n k e i).num < 0)) (fun i => S (fhi a p q n k e i).num.natAbs) (fun i => S (fhi a p q n k e i).den) i := by
    intro i O hi hO
    rcases Nat.eq_zero_or_pos (fo a p q n i) with h0 | h0
    · refine .inl ⟨h0, ?_⟩; have e1 : flo a p q n k e (i + 1) = flo a p q n k e i := by rw [flo, if_pos h0]
      have e2 : fhi a p q n k e (i + 1) = fhi a p q n k e i := by rw [fhi, if_pos h0]
      simp only [e1, e2, and_self]
    · obtain ⟨s1, s2, s3, s4, s5⟩ := h2 i hi h0; have e1 : (((2 * fo a p q n i : Nat)) : Int) = 2 * O := by omega
      rw [e1] at s3; exact .inr ⟨h0, _, _, _, _, _, _, _, _, _, _, _, _, _, _, _, _, _, _, s1, s2, s3, s4, s5⟩
  exact ll_core _ _ _ _ _ _ hv hk hw (fun i hi O hO => key i O hi hO) w ht
end Go.Proofs.YtffldjghdcfpiaaGreatDoor
