/- Parts of the proof: Nd0. No condition of its own. -/
import Derived.Test.YtjimfbmegmnocaaGreatDoorNb
import Derived.Laws.CopyOwn
set_option linter.unusedSimpArgs false
set_option linter.unusedVariables false
set_option maxRecDepth 100000
set_option maxHeartbeats 8000000
namespace Go.Proofs.YtjimfbmegmnocaaGreatDoor
open Go.RowKit

theorem blen_top {t : Nat} (ht : t ≠ 0) (ht2 : t < 4294967296) : blen t <= 32 /\ 0 < blen t /\ 2147483648 <= t * 2 ^ (32 - blen t) /\ (t + 1) * 2 ^ (32 - blen t) <= 4294967296 := by
 have h1 : blen t <= 32 := Dg.dg_le (Nat.le_refl 2) (by omega); have h2 := blen_pos (show 0 < t by omega); have g1 := blen_ge (show 0 < t by omega); have g2 := blen_lt t; refine ⟨h1, h2, ?_, ?_⟩
 ·have e : (2147483648 : Nat) = 2 ^ (blen t - 1) * 2 ^ (32 - blen t) := by
   rw [<- Nat.pow_add]; have : blen t - 1 + (32 - blen t) = 31 := by omega
   rw [this]
  rw [e]; exact Nat.mul_le_mul_right _ g1
 ·have e : (4294967296 : Nat) = 2 ^ blen t * 2 ^ (32 - blen t) := by
   rw [<- Nat.pow_add]; have : blen t + (32 - blen t) = 32 := by omega
   rw [this]
  rw [e]; exact Nat.mul_le_mul_right _ g2
theorem norm_shift {n k s : Nat} (h : (dw n).length = k + 1) (hs : s = 32 - blen ((dw n)[k]'(by omega))) :
  ∃ h2 : (dw (n * 2 ^ s)).length = k + 1, 2147483648 <= (dw (n * 2 ^ s))[k]'(by omega) /\ s < 32 := by
 obtain ⟨low, h1, h2⟩ := top_split h; have h3 := dw_top h; have h4 := dw_get_lt n k (by omega); generalize (dw n)[k]'(by omega) = t at h2 h3 h4 hs; obtain ⟨b1, b2, b3, b4⟩ := blen_top h3 h4; rw [<- hs] at b3 b4; have hlo : 4294967296 ^ k * 2147483648 <= n * 2 ^ s := by
  have e : 4294967296 ^ k * (t * 2 ^ s) <= n * 2 ^ s := by
   rw [<- Nat.mul_assoc]; exact Nat.mul_le_mul_right _ (by omega)
  exact Nat.le_trans (Nat.mul_le_mul_left _ b3) e
 have hhi : n * 2 ^ s < 4294967296 ^ (k + 1) := by
  have e : n * 2 ^ s < 4294967296 ^ k * (t + 1) * 2 ^ s := by
   refine Nat.mul_lt_mul_of_pos_right ?_ (Nat.pow_pos (by decide)); rw [Nat.mul_add]; omega
  rw [Nat.pow_succ]; refine Nat.lt_of_lt_of_le e ?_; rw [Nat.mul_assoc]; exact Nat.mul_le_mul_left _ b4
 have hlen : (dw (n * 2 ^ s)).length = k + 1 := by
  have a1 : (dw (n * 2 ^ s)).length <= k + 1 := Dg.dg_le b32 hhi
  rcases Nat.lt_or_ge k (dw (n * 2 ^ s)).length with h | h
  ·omega
  ·exfalso
   have a2 := Dg.dg_lt b32 (n * 2 ^ s); have a3 : 4294967296 ^ (Dg.dg 4294967296 (n * 2 ^ s)).length <= 4294967296 ^ k := Nat.pow_le_pow_right (by decide) h
   omega
 refine ⟨hlen, ?_, by omega⟩; obtain ⟨low', l1, l2⟩ := top_split hlen; generalize (dw (n * 2 ^ s))[k]'(by omega) = t' at l2 |-
 rcases Nat.lt_or_ge t' 2147483648 with h | h
 ·exfalso
  have := Nat.mul_le_mul_left (4294967296 ^ k) (show t' + 1 <= 2147483648 by omega); rw [Nat.mul_add] at this
  omega
 ·exact h
theorem shift_len {m s : Nat} (hs : s < 32) : (dw (m * 2 ^ s)).length <= (dw m).length + 1 := by
 refine Dg.dg_le b32 ?_; rw [Nat.pow_succ]; refine Nat.mul_lt_mul'' (Dg.dg_lt b32 m) ?_; have := pow_le31 hs
 omega
theorem win_val {U : List Nat} {k1 n1 : Nat} (h : k1 + n1 <= U.length) (b : Nat) : Dg.val b U = Dg.val b (U.take k1) + b ^ k1 * (Dg.val b ((U.drop k1).take n1) + b ^ n1 * Dg.val b (U.drop (k1 + n1))) := by
 rw [take_drop_val U k1 (by omega) b, take_drop_val (U.drop k1) n1 (by rw [List.length_drop]; omega) b, List.drop_drop]
theorem drop_win {U : List Nat} {k1 n1 : Nat} (h : k1 + n1 <= U.length) (b : Nat) : Dg.val b (U.drop k1) = Dg.val b ((U.drop k1).take n1) + b ^ n1 * Dg.val b (U.drop (k1 + n1)) := by
 rw [take_drop_val (U.drop k1) n1 (by rw [List.length_drop]; omega) b, List.drop_drop]
theorem top3 {U : List Nat} {k1 h : Nat} (hl : k1 + h + 2 < U.length) (b : Nat) : Dg.val b ((U.drop k1).take (h + 3)) = ((U[k1 + h + 2] * b + U[k1 + h + 1]) * b + U[k1 + h]) * b ^ h + Dg.val b ((U.drop k1).take h) := by
 have e1 : k1 + (h + 2) = k1 + h + 2 := by omega
 have e2 : k1 + (h + 1) = k1 + h + 1 := by omega
 rw [win_succ (i := h + 2) (by omega), win_succ (i := h + 1) (by omega), win_succ (i := h) (by omega)]; have alg : ∀ P x y z r : Nat, r + P * z + P * b * y + P * b * b * x = ((x * b + y) * b + z) * P + r := by
  intro P x y z r; have e1 : ((x * b + y) * b + z) * P = x * b * b * P + y * b * P + z * P := by rw [Nat.add_mul, Nat.add_mul, Nat.add_mul]
  have e2 : P * b * b * x = x * b * b * P := by ac_rfl
  have e3 : P * b * y = y * b * P := by ac_rfl
  have e4 : P * z = z * P := Nat.mul_comm _ _
  omega
 simp only [<- Nat.add_assoc]
 rw [Nat.pow_succ, Nat.pow_succ]; exact alg _ _ _ _ _
theorem top2 {V : List Nat} {h : Nat} (hl : V.length = h + 2) (b : Nat) : Dg.val b V = (V[h + 1] * b + V[h]) * b ^ h + Dg.val b (V.take h) := by
 have e : V = V.take (h + 2) := by rw [List.take_of_length_le (by omega)]
 have h1 : Dg.val b V = Dg.val b (V.take (h + 2)) := by rw [<- e]
 rw [h1, Dg.val_take_succ (by omega), Dg.val_take_succ (by omega), Nat.pow_succ, Nat.add_mul, Nat.mul_comm (b ^ h) V[h]]; have x1 : b ^ h * b * V[h + 1] = V[h + 1] * b * b ^ h := by
  rw [Nat.mul_comm (b ^ h * b), Nat.mul_comm (b ^ h) b, <- Nat.mul_assoc]
 rw [x1]; omega
theorem win_all {U : List Nat} {k1 n1 X : Nat} (h : k1 + n1 <= U.length) (hX : Dg.val 4294967296 (U.drop k1) < X) (hX2 : X <= 4294967296 ^ n1) : Dg.val 4294967296 (U.drop (k1 + n1)) = 0 /\ Dg.val 4294967296 ((U.drop k1).take n1) = Dg.val 4294967296 (U.drop k1) := by
 have h1 := drop_win h 4294967296; have h0 : Dg.val 4294967296 (U.drop (k1 + n1)) = 0 := by
  rcases Nat.eq_zero_or_pos (Dg.val 4294967296 (U.drop (k1 + n1))) with h0 | h0
  ·exact h0
  ·exfalso
   have := Nat.le_mul_of_pos_right (4294967296 ^ n1) h0
   omega
 refine ⟨h0, ?_⟩; rw [h0, Nat.mul_zero] at h1
 omega
theorem div_round {U U' Q : List Nat} {k1 n1 Vn M qd : Nat} (hw : Win U U' k1 n1) (hl : k1 + n1 <= U.length) (hlU : U'.length = U.length) (hrest : Dg.val 4294967296 (U.drop (k1 + n1)) = 0)
  (hval : Dg.val 4294967296 ((U'.drop k1).take n1) + qd * Vn = Dg.val 4294967296 ((U.drop k1).take n1)) (hlt : Dg.val 4294967296 ((U'.drop k1).take n1) < Vn)
  (hQ : k1 < Q.length) (hI : Dg.val 4294967296 U + Vn * (4294967296 ^ (k1 + 1) * Dg.val 4294967296 (Q.drop (k1 + 1))) = M) :
  Dg.val 4294967296 U' + Vn * (4294967296 ^ k1 * Dg.val 4294967296 ((Q.set k1 qd).drop k1)) = M /\ Dg.val 4294967296 (U'.drop k1) < Vn := by
 have h1 := win_val hl 4294967296; have h2 := win_val (U := U') (k1 := k1) (n1 := n1) (by omega) 4294967296; rw [hw.lo, hw.hi, hrest, Nat.mul_zero, Nat.add_zero] at h2; rw [hrest, Nat.mul_zero, Nat.add_zero] at h1; have h3 := drop_win (U := U') (k1 := k1) (n1 := n1) (by omega) 4294967296; rw [hw.hi, hrest, Nat.mul_zero, Nat.add_zero] at h3; refine ⟨?_, by rw [h3]; exact hlt⟩; rw [set_drop hQ]
 show _ + Vn * (4294967296 ^ k1 * (qd + 4294967296 * Dg.val 4294967296 (Q.drop (k1 + 1)))) = M
 rw [<- hI, h1, h2, <- hval, Nat.mul_add, Nat.mul_add, Nat.mul_add, Nat.pow_succ, Nat.mul_assoc (4294967296 ^ k1), Nat.mul_left_comm Vn, Nat.mul_comm Vn qd]
 omega
theorem div_end {m n s x q : Nat} (hn : 0 < n) (h : x + (n * 2 ^ s) * q = m * 2 ^ s) (hx : x < n * 2 ^ s) : q = m / n /\ x / 2 ^ s = m % n := by
 have hp : 0 < 2 ^ s := Nat.pow_pos (by decide); have h1 : q = m * 2 ^ s / (n * 2 ^ s) := by
  rw [<- h, Nat.add_mul_div_left _ _ (by omega), Nat.div_eq_of_lt hx, Nat.zero_add]
 have h2 : x = (m * 2 ^ s) % (n * 2 ^ s) := by
  rw [<- h, Nat.add_mul_mod_self_left, Nat.mod_eq_of_lt hx]
 constructor
 ·rw [h1, Nat.mul_div_mul_right _ _ hp]
 ·rw [h2, Nat.mul_mod_mul_right, Nat.mul_div_cancel _ hp]
theorem val_zeros (d : List Nat) (k b : Nat) : Dg.val b (d ++ List.replicate k 0) = Dg.val b d := by
 rw [Dg.val_append, Dg.val_replicate_zero]; simp
theorem div_start {m n s N lq la : Nat} {U : List Nat} (hla : (dw m).length = la) (hN : (dw n).length = N) (hN1 : 1 <= N) (hn : 0 < n) (hlq : lq + N = la + 1) (hU : Dg.val 4294967296 U = m * 2 ^ s) (hl : U.length = la + 1) : Dg.val 4294967296 (U.drop lq) < n * 2 ^ s := by
 have h1 := take_drop_val U lq (by omega) 4294967296; have h2 : m < 4294967296 ^ la := by rw [<- hla]; exact Dg.dg_lt b32 m
 have h3 : 4294967296 ^ (N - 1) <= n := by rw [<- hN]; exact Dg.dg_ge b32 hn
 have hp : 0 < 2 ^ s := Nat.pow_pos (by decide); have h4 : m * 2 ^ s < 4294967296 ^ la * 2 ^ s := Nat.mul_lt_mul_of_pos_right h2 hp; have e : la = lq + (N - 1) := by omega
 rw [e, Nat.pow_add, Nat.mul_assoc] at h4; have h5 : 4294967296 ^ lq * Dg.val 4294967296 (U.drop lq) < 4294967296 ^ lq * (4294967296 ^ (N - 1) * 2 ^ s) := by omega
 have h6 := Nat.lt_of_mul_lt_mul_left h5; exact Nat.lt_of_lt_of_le h6 (Nat.mul_le_mul_right _ h3)
theorem round_lt {U : List Nat} {k1 Vn : Nat} (hD : Dg.Dig 4294967296 U) (hk : k1 < U.length) (h : Dg.val 4294967296 (U.drop (k1 + 1)) < Vn) : Dg.val 4294967296 (U.drop k1) < 4294967296 * Vn := by
 rw [drop_val hk]; have h1 := hD _ (List.getElem_mem hk); have h2 := Nat.mul_le_mul_left 4294967296 (show Dg.val 4294967296 (U.drop (k1 + 1)) + 1 <= Vn by omega); rw [Nat.mul_add] at h2
 omega
theorem or_shl {a b t : Nat} (hb : b < 4294967296) (ha : a < 4294967296) (ht : t = a * 4294967296 + b) : bits .or .u64 ((a : Int) * 4294967296) (b : Int) = (t : Int) := by
 have y0 : (4294967296 : Nat) * a + b = 4294967296 * a ||| b := Nat.two_pow_add_eq_or_of_lt (i := 32) hb a
 have h := u64_or_nat (a * 4294967296) b (by omega) (by omega); rw [Nat.mul_comm, <- y0, Nat.mul_comm, <- ht] at h; rw [<- h]; simp
open Go.RowKit Dg

def DivPost (m n : Nat) (w : World) (e : Ending) (w' : World) : Prop := ∃ v1 v2, e = .returned (.tuple #[v1, v2]) /\ NatV w' v1 (m / n) /\ NatV w' v2 (m % n) /\ Below w.heap.size w w'
structure DivMem (w0 wr : World) (gu gq : Nat) (Av : Option Addr) (U Q V : List Nat) : Prop where
 u : Own wr gu 134 (cw U)
 q : Own wr gq 134 (cw Q)
 v : WdsOut (fun k => k = gu \/ k = gq) wr Av V
 b : Below w0.heap.size w0 wr
 lu : w0.heap.size <= gu
 lq : w0.heap.size <= gq
 ne : gu ≠ gq
theorem DivMem.below {w0 wr w' : World} {gu gq : Nat} {Av : Option Addr} {U Q V : List Nat} (h : DivMem w0 wr gu gq Av U Q V) (hb : Below wr.heap.size wr w') : DivMem w0 w' gu gq Av U Q V :=
 ⟨h.u.below hb h.u.lt, h.q.below hb h.q.lt, h.v.chg (Chg.of_below hb fun k h1 h2 => by omega), h.b.trans (hb.mono h.b.size), h.lu, h.lq, h.ne⟩
theorem DivMem.setU {w0 wr w' : World} {gu gq : Nat} {Av : Option Addr} {U U' Q V : List Nat} (h : DivMem w0 wr gu gq Av U Q V) (hc : Chg (fun k => k = gu) wr w') (ho : Own w' gu 134 (cw U')) : DivMem w0 w' gu gq Av U' Q V :=
 ⟨ho, hc.own h.q (fun e => h.ne e.symm), h.v.chg (hc.mono fun _ _ e => .inl e), h.b.trans (hc.below (fun k hk e => by have := h.lu; omega) h.b.size), h.lu, h.lq, h.ne⟩
theorem DivMem.setQ {w0 wr : World} {gu gq : Nat} {Av : Option Addr} {U Q V : List Nat} (h : DivMem w0 wr gu gq Av U Q V) {i x : Nat} {z : Int} (hz : z = x) : DivMem w0 (wr.setCell ⟨gq, i, none⟩ (.int .u32 z)) gu gq Av U (Q.set i x) V :=
 ⟨h.u.far (p := ⟨gq, i, none⟩) h.ne _, own_setw h.q hz, h.v.chg ((Chg.refl _ _).setCell (.inr rfl) _), h.b.setCell h.lq _, h.lu, h.lq, h.ne⟩
theorem less_zero {x t Vn W P : Nat} (h : x + t * Vn = W + P * 0) (h2 : W < (t + 1) * Vn) : x + t * Vn = W /\ x < Vn := by
 rw [Nat.add_mul] at h2; omega
theorem less_one {x x2 t1 Vn W P cr : Nat} (h : x + (t1 + 1) * Vn = W + P * 1) (hx : x < P) (h2 : (t1 + 1) * Vn < W + Vn) (h3 : x2 + P * cr = x + Vn) (hx2 : x2 < P) (hcr : cr <= 1) : x2 + t1 * Vn = W /\ x2 < Vn := by
 rw [Nat.add_mul] at h h2
 rcases Nat.eq_zero_or_pos cr with h0 | h0
 ·subst h0; omega
 ·have : cr = 1 := by omega
  subst this; omega
theorem less_pos {x t Vn W P : Nat} (h : x + t * Vn = W + P * 1) (hx : x < P) : 0 < t := by
 rcases Nat.eq_zero_or_pos t with h0 | h0
 ·subst h0; omega
 ·exact h0
theorem win_lt {O : List Nat} (hD : Dg.Dig 4294967296 O) {off n1 : Nat} (h : off + n1 <= O.length) : Dg.val 4294967296 ((O.drop off).take n1) < 4294967296 ^ n1 := by
 have := Dg.val_lt (by decide : 0 < 4294967296) (Dg.dig_take (Dg.dig_drop hD off) n1)
 rwa [win_len h] at this
theorem WdsOut.mono {S T : Nat -> Prop} {w : World} {A : Option Addr} {l : List Nat} (h : WdsOut S w A l) (hST : ∀ k, T k -> S k) : WdsOut T w A l := fun j u hu =>
 let ⟨b, off, e, hs, hc⟩ := h j u hu; ⟨b, off, e, fun ht => hs (hST b ht), hc⟩
theorem Wds.new {w : World} {A : Option Addr} {l : List Nat} (h : Wds w A l) : WdsOut (fun k => w.heap.size <= k) w A l := fun j u hu =>
 let ⟨b, off, e, hc⟩ := h j u hu; ⟨b, off, e, fun hle => absurd (World.block_lt_of_cell? w _ hc) (Nat.not_lt.2 hle), hc⟩
theorem word_size : (Tryz.prog.info? 134).map (·.size) = some 1 := by kernel_rfl
theorem cw_one (l : List Nat) : ∀ v ∈ cw l, v.oneCell' = true := by
 intro v hv; obtain ⟨x, _, rfl⟩ := List.mem_map.1 hv
 rfl
theorem splice_words (d : List Nat) (n : Nat) (h : d.length <= n) : splice (List.replicate n (Value.int .u32 0)) 0 (cw d) = cw (d ++ List.replicate (n - d.length) 0) := by
 simp [splice, cw, List.drop_replicate]
def EstPost (w0 : World) (gu gq : Nat) (Av : Option Addr) (U Q V : List Nat) (W Vn : Nat) (s15 : Value) (wx : World) : Prop :=
 ∃ t : Nat, s15 = .int .u64 t /\ t < 4294967296 /\ W < (t + 1) * Vn /\ t * Vn < W + Vn /\ DivMem w0 wx gu gq Av U Q V

theorem div_any {x1 x2 : Value} {m n : Nat} (w : World) (h1 : NatV w x1 m) (h2 : NatV w x2 n) (hm : (dw m).length <= 1048000) (hn0 : 0 < n) :
  Calls Tryz.prog 116 #[x1, x2] w (DivPost m n w) := by
 have H1 := Lib.hid h1; have H2 := Lib.hid h2; have HCM := Lib.hid (cmp_any w h1 h2); obtain ⟨A, c, rfl, hc1, hc2, hA⟩ := h1; obtain ⟨A', c', rfl, hd1, hd2, hA'⟩ := h2; unfold maxLen at hc2 hd2
 by_cases hlt : m < n
 ·have hcm : Hid (cmpI m n = -1) := cmpI_lt hlt; have HR : Hid (m / n = 0 /\ m % n = m) := ⟨Nat.div_eq_of_lt hlt, Nat.mod_eq_of_lt hlt⟩; clear hlt
  go_enter Tryz.func116, Tryz.ntmps116
  go_wp2_with fail
  refine HCM.out.mono ?_; rintro e w1 ⟨rfl, hb1⟩; rw [hcm.out]
  go_wp2
  go_ret2
  exact ⟨_, _, rfl, by rw [HR.out.1]; exact NatV.zero _, by rw [HR.out.2]; exact H1.out.below hb1, hb1⟩
 ·have hge : n <= m := by omega
  have hnm : (dw n).length <= (dw m).length := Dg.dg_mono b32 hge; have hcm : ∃ z : Int, cmpI m n = z /\ 0 <= z := by
   rcases Nat.lt_or_ge n m with h | h
   ·exact ⟨1, cmpI_gt h, by omega⟩
   ·exact ⟨0, cmpI_eq (by omega), by omega⟩
  obtain ⟨z, hz, hz0⟩ := hcm; have HZ := Lib.hid hz; have HGE := Lib.hid hge; clear hlt hge hz; obtain ⟨k, hk⟩ : ∃ k, (dw n).length = k + 1 := by
   have : dw n ≠ [] := fun e => by have := (Dg.dg_nil b32).1 e; omega
   have := List.length_pos_iff.2 this; exact ⟨(dw n).length - 1, by omega⟩
  rcases Nat.eq_zero_or_pos k with rfl | hk0
  ·have h0l : 0 < (dw n).length := by omega
   have hdt : (dw n)[0] = n := by
    have h := drop_val (l := dw n) (i := 0) h0l 4294967296; rw [List.drop_zero, List.drop_eq_nil_of_le (by omega)] at h; have h2 : Dg.val 4294967296 (dw n) = n := Dg.val_dg b32 n; have h3 : Dg.val 4294967296 [] = 0 := rfl
    omega
   obtain ⟨b', off', rfl, c1⟩ := (hA').get h0l; rw [hdt, Nat.add_zero] at c1; have hn1 : n < 4294967296 := by rw [<- hdt]; exact dw_get_lt n 0 h0l
   have hnI : 0 < n := hn0; clear hdt h0l; have hone : (((dw n).length : Int) == 1) = true := by rw [hk]; rfl
   have hl1 : (0 : Int) < (dw n).length := by omega
   have HK := Lib.hid hk; clear hk
   go_enter Tryz.func116, Tryz.ntmps116
   go_wp2_with fail
   refine HCM.out.mono ?_; rintro e w1 ⟨rfl, hb1⟩; rw [HZ.out]; have d1 := below_cell hb1 c1; clear c1
   go_wp2_with fail
   refine (small_any w1 (H1.out.below hb1) (by omega) hn0 hn1).mono ?_; rintro e w2 ⟨vq, rfl, hvq, hb2⟩; have hr : m % n < 4294967296 := Nat.lt_trans (Nat.mod_lt _ hn0) hn1
   go_wp2_with fail
   refine (of_any (m % n) w2 (by omega)).mono ?_; rintro e w3 ⟨vr, rfl, hvr, hb3⟩; have hq3 := hvq.below hb3
   go_wp2
   go_ret2
   exact ⟨_, _, rfl, hq3, hvr, (hb1.trans (hb2.mono hb1.size)).trans (hb3.mono (Nat.le_trans hb1.size hb2.size))⟩
  ·have hkl : k < (dw n).length := by omega
   obtain ⟨b', off', rfl, c1⟩ := (hA').get hkl; have htop := dw_get_lt n k hkl; obtain ⟨s, hs⟩ : ∃ s, s = 32 - blen ((dw n)[k]'hkl) := ⟨_, rfl⟩; obtain ⟨hVl, hv1, hs32⟩ := norm_shift hk hs; have hbt := (blen_top (dw_top hk) htop).1; generalize htt : (dw n)[k]'hkl = tt at c1 htop hs hbt; have HBL : Hid ((32 : Int) - (Lib.bitLen tt : Int) = (s : Int)) := by
    show _ = _
    rw [bitLen_is htop, hs]; omega
   have htI : (tt : Int) <= 4294967295 := by omega
   obtain ⟨N, hN⟩ : ∃ N, N = k + 1 := ⟨_, rfl⟩; have hnone : (((dw n).length : Int) == 1) = false := by rw [hk]; simp; omega
   have x1 : ((dw n).length : Int) - 1 = (k : Int) := by omega
   have x2 : IntKind.i64.wrap (k : Int) = k := IntWalk.i64_in _ (by omega); have hkI : (k : Int) < (dw n).length := by omega
   have hs64 : (s : Int) < 32 := by omega
   have hnl2 : (dw n).length <= 1048000 := by omega
   have hnl1 : (dw n).length = N := by omega
   have HNl := Lib.hid hnl1; have mk1 : ∀ W : World, (Instr.makeSlice 154 (.int .i64 (((dw m).length : Int) + 1)) (.int .i64 (((dw m).length : Int) + 1))).run Tryz.prog W = .ok (.slice (some ⟨W.heap.size, 0, none⟩) ((dw m).length + 1) ((dw m).length + 1)) (W.alloc (.cells (Array.replicate ((dw m).length + 1) (.int .u32 0)) 134)) := fun W => run_make_words ((dw m).length + 1) (by omega) W; obtain ⟨lq, hlq⟩ : ∃ lq, lq = (dw m).length + 1 - N := ⟨_, rfl⟩; have x3 : ((dw m).length : Int) + 1 - (N : Int) = (lq : Int) := by omega
   have mk2 := fun W => run_make_words lq (by omega) W; have hNm : N <= (dw m).length := by omega
   have hN2 : 2 <= N := by omega
   have hlq1 : lq <= 1048000 := by omega
   have HVl : Hid ((dw (n * 2 ^ s)).length = N) := by show _ = _; rw [hVl, hN]
   have HLQ := Lib.hid hlq; have HTOP : Hid (∃ h, 2147483648 <= (dw (n * 2 ^ s))[N - 1]'h) := by
    show ∃ h, _
    subst hN; exact ⟨by omega, hv1⟩
   have hkN1 : k + 1 <= N := by omega
   have hkN2 : N <= k + 1 := by omega
   have x4 : (N : Int) - 1 = (k : Int) := by omega
   clear htt hs hk hkl hVl hv1 hnl1 hlq hN
   go_enter Tryz.func116, Tryz.ntmps116
   go_wp2_with fail
   refine HCM.out.mono ?_; rintro e w1 ⟨rfl, hb1⟩; rw [HZ.out]; have d1 := below_cell hb1 c1; clear c1
   go_wp2_with fail
   refine (Tryz.bits_LeadingZeros32 _ _ (by omega) htI).mono ?_; rintro e w' ⟨rfl, rfl⟩; rw [Int.toNat_natCast, HBL.out]
   go_wp2_with fail
   refine (shift_any _ (H2.out.below hb1) (by omega) (by omega)).mono ?_; rintro e w2 ⟨vv, rfl, hvv, hb2⟩; obtain ⟨Av, cv, rfl, hcv1, hcv2, hAv⟩ := hvv; rw [HVl.out] at hcv1 |-; have hsz1 := hb1.size; have hsz2 := hb2.size; have H1' := (H1.out.below hb1).below hb2; have hownu := own_words w2 ((dw m).length + 1); have hbu : Below w2.heap.size w2 (w2.alloc (.cells (Array.replicate ((dw m).length + 1) (.int .u32 0)) 134)) := (Below.refl _ _).alloc (Nat.le_refl _) _
   go_wp2_with fail
   generalize (w2.alloc (.cells (Array.replicate ((dw m).length + 1) (.int .u32 0)) 134)) = wu at hownu hbu |-; have hszu := hbu.size; refine (shift_any _ (H1'.below hbu) (by omega) (by omega)).mono ?_; rintro e w3 ⟨va, rfl, hva, hb3⟩; obtain ⟨Aa, ca, rfl, hca1, hca2, hAa⟩ := hva; have hsz3 := hb3.size; have hsl := shift_len (m := m) hs32; have hown3 := hownu.below hb3 hownu.lt; have hb23 : Below w2.heap.size w2 w3 := hbu.trans (hb3.mono hszu); generalize hU : dw (m * 2 ^ s) = d at hca1 hAa hsl |-; have HU := Lib.hid hU; clear hU; have HPO : Hid (0 < d.length -> ∃ ad, Aa = some ad /\ ∀ (j a : Nat), d[j]? = some a -> w3.cell? (ad.add j) = some (.int .u32 (a : Int))) := by
    show _ -> _
    intro hp'; obtain ⟨b, off, e, _⟩ := hAa.get hp'; refine ⟨_, e, fun j v hj => ?_⟩; obtain ⟨b2, off2, e2, hc⟩ := hAa j (.int .u32 (v : Int)) (by simp [cw, hj]); rw [e] at e2
    injection e2 with e2
    rw [e2, Addr.add_lit]; exact hc
   have hcwl : (cw d).length = d.length := by simp [cw]
   have HN : Hid ((cw d).length = Nat.min d.length ((dw m).length + 1)) := by
    show _ = _
    rw [hcwl]; exact (Nat.min_eq_left hsl).symm
   have HFI : Hid (0 + (cw d).length <= (List.replicate ((dw m).length + 1) (Value.int .u32 0)).length) := by
    show _ <= _
    rw [hcwl, List.length_replicate]; omega
   have HOW : Hid (w3.heap[w2.heap.size]? = some (.cells (List.replicate ((dw m).length + 1) (Value.int .u32 0)).toArray 134 (0, 0))) := by
    show _ = _
    have := hown3; unfold Own at this; rw [this]; simp [cw]
   clear hcwl
   go_wp2_with (refine wpList_copy_splice rfl (.tmp 55) (.tmp 59) _ _ (by rfl) 134 Tryz.underlying154 word_size (some ⟨w2.heap.size, 0, none⟩) Aa ((dw m).length + 1) ((dw m).length + 1) d.length ca (by rfl) (by rfl) w2.heap.size 0 (List.replicate ((dw m).length + 1) (Value.int .u32 0)) 134 ?hg (cw d) ?hn ?hpos ?hfit (cw_one d) w2.heap.size w2 hb23 (Nat.le_refl _) ?_)
   case hg => exact HOW.out
   case hn => exact HN.out
   case hpos => exact HPO.out
   case hfit => exact HFI.out
   intro w4 HG4 hb4; have hown4 : Own w4 w2.heap.size 134 (cw (d ++ List.replicate ((dw m).length + 1 - d.length) 0)) := by
    have := HG4.out; rw [splice_words _ _ hsl] at this; exact this
   clear HPO HN HFI HOW HG4 hownu hown3; have hownq := own_words w4 lq; have hbq : Below w4.heap.size w4 (w4.alloc (.cells (Array.replicate lq (.int .u32 0)) 134)) := (Below.refl _ _).alloc (Nat.le_refl _) _
   go_wp2_with fail
   generalize (w4.alloc (.cells (Array.replicate lq (.int .u32 0)) 134)) = w5 at hownq hbq |-; have hsz4 := hb4.size; have hgu4 := hown4.lt; have hVlt : 0 < (dw (n * 2 ^ s)).length := by rw [HVl.out]; omega
   obtain ⟨bv, ov, rfl, -⟩ := hAv.get hVlt; have hdl : d.length + ((dw m).length + 1 - d.length) = (dw m).length + 1 := by omega
   have hU0 : (d ++ List.replicate ((dw m).length + 1 - d.length) 0).length = (dw m).length + 1 := by rw [List.length_append, List.length_replicate]; exact hdl
   have hM0 : DivMem w w5 w2.heap.size w4.heap.size (some ⟨bv, ov, none⟩) (d ++ List.replicate ((dw m).length + 1 - d.length) 0) (List.replicate lq 0) (dw (n * 2 ^ s)) :=
    ⟨hown4.below hbq hgu4, hownq, (hAv.new.chg (Chg.of_below (hb4.trans (hbq.mono hsz4)) fun k _ h => h)).mono (by intro k hk; rcases hk with e | e <;> omega), ((hb1.trans (hb2.mono hsz1)).trans (hb4.mono (by omega))).trans (hbq.mono (by omega)), by omega, by omega, by omega⟩
   have hval0 : Dg.val 4294967296 (d ++ List.replicate ((dw m).length + 1 - d.length) 0) = m * 2 ^ s := by rw [val_zeros, <- HU.out]; exact Dg.val_dg b32 _
   have HLT0 : Hid (Dg.val 4294967296 ((d ++ List.replicate ((dw m).length + 1 - d.length) 0).drop lq) < n * 2 ^ s) := div_start rfl HNl.out (by omega) hn0 (by have := HLQ.out; omega) hval0 hU0; have HI0 : Hid (Dg.val 4294967296 (d ++ List.replicate ((dw m).length + 1 - d.length) 0) + (n * 2 ^ s) * (4294967296 ^ lq * Dg.val 4294967296 ((List.replicate lq 0).drop lq)) = m * 2 ^ s) := by
    show _ = _
    rw [hval0, List.drop_eq_nil_of_le (by simp)]; simp [Dg.val]
   have HD0 : Hid (Dg.Dig 4294967296 (d ++ List.replicate ((dw m).length + 1 - d.length) 0)) := by
    show Dg.Dig _ _
    intro x hx
    rcases List.mem_append.1 hx with h | h
    ·rw [<- HU.out] at h; exact dw_lt _ x h
    ·exact dig_zeros _ x h
   generalize hU : (d ++ List.replicate ((dw m).length + 1 - d.length) 0) = U0 at hU0 hM0 HLT0 HI0 HD0; have HDV : Hid (Dg.Dig 4294967296 (dw (n * 2 ^ s))) := dw_lt _; have HVV : Hid (Dg.val 4294967296 (dw (n * 2 ^ s)) = n * 2 ^ s) := Dg.val_dg b32 _; generalize hV : dw (n * 2 ^ s) = V at hM0 HDV HVV HVl HTOP; clear hU hV hval0 hdl hVlt hAv hown4 hownq hbq hb4 hb23 hb3 hbu hb2 hb1 H1' H1 H2 HCM hAa hca1 hca2 hsl HU hA hA' d1; generalize w2.heap.size = gu at hM0 |-; generalize w4.heap.size = gq at hM0 |-; clear hgu4 hsz4 hsz3 hszu hsz1 hsz2 HZ hz0; have hVb : n * 2 ^ s <= 4294967296 ^ N := by
    have := Dg.val_lt (by decide : 0 < 4294967296) HDV.out; rw [HVV.out, HVl.out] at this
    omega
   have HVB := Lib.hid hVb; clear hVb; obtain ⟨h, hh⟩ : ∃ h, h + 2 = N := ⟨N - 2, by omega⟩; have x5 : (N : Int) - 2 = (h : Int) := by omega
   have x6 : IntKind.i64.wrap (h : Int) = h := IntWalk.i64_in _ (by omega); have hhI : (h : Int) < N := by omega
   have hkI2 : (k : Int) < N := by omega
   have hHk : k = h + 1 := by omega
   have HHK := Lib.hid hHk; have HHN := Lib.hid hh; have hhb : h <= 1048000 := by omega
   have hhb2 : h + 2 <= N := by omega
   have hhb3 : N <= h + 2 := by omega
   clear hh hHk
   go_loopg [13] lq (fun q v13 wr => ∃ (kk : Nat) (z : Int) (U Q : List Nat), q = kk /\ kk <= lq /\ v13 = .int .i64 z /\ z = (kk : Int) - 1 /\ U.length = (dw m).length + 1 /\ Q.length = lq /\ Hid (Dg.Dig 4294967296 U) /\ Hid (Dg.Dig 4294967296 Q) /\
    Hid (Dg.val 4294967296 U + (n * 2 ^ s) * (4294967296 ^ kk * Dg.val 4294967296 (Q.drop kk)) = m * 2 ^ s) /\ Hid (Dg.val 4294967296 (U.drop kk) < n * 2 ^ s) /\ DivMem w wr gu gq (some ⟨bv, ov, none⟩) U Q V)
   case atStart => exact ⟨lq, _, U0, _, rfl, Nat.le_refl _, rfl, rfl, hU0, by simp, HD0, dig_zeros _, HI0, HLT0, hM0⟩
   case round =>
    clear HD0 HI0 HLT0 hM0 hU0; obtain ⟨kk, z, U, Q, hq, hkk, rfl, hz, hUl, hQl, HDU, HDQ, HI, HLT, hMm⟩ := hrel; have HQ := Lib.hid hq; clear hq
    have HUl := Lib.hid hUl; have HQl := Lib.hid hQl; have hU1 : U.length <= (dw m).length + 1 := by omega
    have hU2 : (dw m).length + 1 <= U.length := by omega
    have hQ1 : Q.length <= lq := by omega
    have hQ2 : lq <= Q.length := by omega
    have hLQ1 : lq + N <= (dw m).length + 1 := by have := HLQ.out; omega
    have hLQ2 : (dw m).length + 1 <= lq + N := by have := HLQ.out; omega
    clear hUl hQl
    rcases Nat.eq_zero_or_pos kk with rfl | hkk0
    ·obtain rfl : z = -1 := by omega
     clear hz; have hi := HI.out; rw [List.drop_zero, Nat.pow_zero, Nat.one_mul] at hi; have hl := HLT.out; rw [List.drop_zero] at hl; have HEND := Lib.hid (div_end hn0 hi hl); have hUw : (dw (Dg.val 4294967296 U)).length <= 1048576 := by
      have := Dg.val_lt (by decide : 0 < 4294967296) HDU.out; have := Dg.dg_le b32 this; unfold dw
      omega
     have HB := Lib.hid hMm.b; have HNQ := Lib.hid (norm_nat (some ⟨gq, 0, none⟩) lq Q wr (n := m / n) (own_wds hMm.q) HQl.out.symm hQ1 (by unfold maxLen; omega) HDQ.out HEND.out.1); have HNU := Lib.hid (norm_nat (some ⟨gu, 0, none⟩) ((dw m).length + 1) U wr (own_wds hMm.u) HUl.out.symm hU1 (by unfold maxLen; omega) HDU.out rfl); clear hi hl hMm
     go_wp2_with fail
     refine HNQ.out.mono ?_; rintro e w6 ⟨vq, rfl, hvq, rfl⟩
     go_wp2_with fail
     refine HNU.out.mono ?_; rintro e w7 ⟨vu, rfl, hvu, rfl⟩
     go_wp2_with fail
     refine (low_any _ hvu hUw hs32).mono ?_; rintro e w8 ⟨vr, rfl, hvr, hb8⟩; have hvq8 := hvq.below hb8; rw [HEND.out.2] at hvr
     go_wp2
     go_ret2
     exact ⟨_, _, rfl, hvq8, hvr, HB.out.trans (hb8.mono HB.out.size)⟩
    ·obtain ⟨k1, rfl⟩ : ∃ k1, kk = k1 + 1 := ⟨kk - 1, by omega⟩; obtain rfl : z = (k1 : Int) := by omega
     clear hz; have hl3 : k1 + h + 2 < U.length := by omega
     have hWlt := round_lt HDU.out (show k1 < U.length by omega) HLT.out; obtain ⟨hrest, hwin⟩ := win_all (U := U) (k1 := k1) (n1 := h + 3) (X := 4294967296 * (n * 2 ^ s)) (by omega) hWlt (by
      have h1 := HVB.out; rw [<- HHN.out] at h1; rw [Nat.pow_succ, Nat.mul_comm]; exact Nat.mul_le_mul_right _ h1)
     have htop3 := top3 hl3 4294967296; rw [hwin] at htop3; have hhlen : V.length = h + 2 := by rw [HVl.out, HHN.out]
     have htop2 := top2 hhlen 4294967296; rw [HVV.out] at htop2; have hv1 : 2147483648 <= V[h + 1] := by
      obtain ⟨h1, h2⟩ := HTOP.out; have e : N - 1 = h + 1 := by omega
      simp only [e] at h2
      exact h2
     have hvl := take_val_lt (b := 4294967296) (by decide) HDV.out h (by omega); have hul : Dg.val 4294967296 ((U.drop k1).take h) < 4294967296 ^ h := by
      have := take_val_lt (l := U.drop k1) (b := 4294967296) (by decide) (Dg.dig_drop HDU.out k1) h (by rw [List.length_drop]; omega); exact this
     have ha0 := HDU.out _ (List.getElem_mem (show k1 + h + 2 < U.length by omega)); have ha1 := HDU.out _ (List.getElem_mem (show k1 + h + 1 < U.length by omega)); have ha2 := HDU.out _ (List.getElem_mem (show k1 + h < U.length by omega)); have hb1 := HDV.out _ (List.getElem_mem (show h + 1 < V.length by omega)); have hb0 := HDV.out _ (List.getElem_mem (show h < V.length by omega)); have cU0 := own_wcell hMm.u (show k1 + h + 2 < U.length by omega); have cU1 := own_wcell hMm.u (show k1 + h + 1 < U.length by omega); have cU2 := own_wcell hMm.u (show k1 + h < U.length by omega); obtain ⟨_, _, e, -, cV1⟩ := hMm.v.get (show h + 1 < V.length by omega)
     cases e
     obtain ⟨_, _, e, -, cV0⟩ := hMm.v.get (show h < V.length by omega)
     cases e
     generalize U[k1 + h + 2] = a0 at cU0 ha0 htop3; generalize U[k1 + h + 1] = a1 at cU1 ha1 htop3; generalize U[k1 + h] = a2 at cU2 ha2 htop3; generalize V[h + 1] = v1 at cV1 hb1 htop2 hv1; generalize V[h] = v0 at cV0 hb0 htop2; rw [<- HHK.out] at cV1; obtain ⟨W, hW⟩ : ∃ W, W = Dg.val 4294967296 (U.drop k1) := ⟨_, rfl⟩; rw [<- hW] at htop3 hWlt; obtain ⟨u2, hu2⟩ : ∃ u2, u2 = a0 * 4294967296 + a1 := ⟨_, rfl⟩; rw [<- hu2] at htop3; have hv1p : 0 < v1 := by omega
     have e1 := or_shl ha1 ha0 hu2; have hu2b : u2 < 18446744073709551616 := by omega
     have hst := est_start htop2 htop3 hul ha2 hv1p; have htp := est_top htop2 htop3 hvl hb0 hWlt; have hbd := est_bound (B := 4294967296) (by omega) htp; obtain ⟨t0, ht0⟩ : ∃ t0, t0 = u2 / v1 := ⟨_, rfl⟩; obtain ⟨r0, hr0⟩ : ∃ r0, r0 = u2 % v1 := ⟨_, rfl⟩; have hsum : t0 * v1 + r0 = u2 := by rw [ht0, hr0, Nat.mul_comm]; exact Nat.div_add_mod _ _
     have hr0b : r0 < v1 := by rw [hr0]; exact Nat.mod_lt _ hv1p
     rw [<- ht0] at hst hbd; have hVnp : 0 < n * 2 ^ s := Nat.mul_pos hn0 (Nat.pow_pos (by decide)); have hWt : W < (t0 + 1) * (n * 2 ^ s) := by
      have := Nat.lt_mul_div_succ W hVnp; exact Nat.lt_of_lt_of_le this (by rw [Nat.mul_comm]; exact Nat.mul_le_mul_right _ (by omega))
     have e2 : (u2 : Int) / (v1 : Int) = (t0 : Int) := by rw [ht0]; simp
     have e3 : (u2 : Int) % (v1 : Int) = (r0 : Int) := by rw [hr0]; simp
     have e4 : (u2 : Int).tdiv (v1 : Int) = (t0 : Int) := by rw [ht0]; rfl
     have e5 : (u2 : Int).tmod (v1 : Int) = (r0 : Int) := by rw [hr0]; rfl
     have e6 : IntKind.u64.wrap (t0 : Int) = (t0 : Int) := IntWalk.u64_in _ (by omega); have e7 : IntKind.u64.wrap (r0 : Int) = (r0 : Int) := IntWalk.u64_in _ (by omega); have hvI : ¬ (v1 : Int) = 0 := by omega
     have hvN : ¬ v1 = 0 := by omega
     have hvI1 : (1 : Int) <= (v1 : Int) := by omega
     obtain ⟨j0, hj0⟩ : ∃ j0, j0 = k1 + h + 2 := ⟨_, rfl⟩; obtain ⟨j1, hj1⟩ : ∃ j1, j1 = k1 + h + 1 := ⟨_, rfl⟩; obtain ⟨j2, hj2⟩ : ∃ j2, j2 = k1 + h := ⟨_, rfl⟩; rw [<- hj0] at cU0; rw [<- hj1] at cU1; rw [<- hj2] at cU2; have y0 : (k1 : Int) + (N : Int) = (j0 : Int) := by omega
     have y1 : (j0 : Int) - 1 = (j1 : Int) := by omega
     have y2 : (j0 : Int) - 2 = (j2 : Int) := by omega
     have y3 : IntKind.i64.wrap (j0 : Int) = j0 := IntWalk.i64_in _ (by omega); have y4 : IntKind.i64.wrap (j1 : Int) = j1 := IntWalk.i64_in _ (by omega); have y5 : IntKind.i64.wrap (j2 : Int) = j2 := IntWalk.i64_in _ (by omega); have y6 : (j0 : Int) < ((dw m).length : Int) + 1 := by omega
     have y7 : (j1 : Int) < ((dw m).length : Int) + 1 := by omega
     have y8 : (j2 : Int) < ((dw m).length : Int) + 1 := by omega
     have g0 : IntKind.u64.wrap (a0 : Int) = a0 := IntWalk.u64_in _ (by omega); have g1 : IntKind.u64.wrap (a1 : Int) = a1 := IntWalk.u64_in _ (by omega); have g2 : IntKind.u64.wrap (a2 : Int) = a2 := IntWalk.u64_in _ (by omega); have g3 : IntKind.u64.wrap (v1 : Int) = v1 := IntWalk.u64_in _ (by omega); have g4 : IntKind.u64.wrap (v0 : Int) = v0 := IntWalk.u64_in _ (by omega); have g5 : IntKind.u64.wrap ((a0 : Int) * 4294967296) = (a0 : Int) * 4294967296 := IntWalk.u64_in _ (by omega); have HJ0 := Lib.hid hj0; have HSUM := Lib.hid hsum; have HWT := Lib.hid hWt; have HWL := Lib.hid hWlt; have HT2 := Lib.hid htop2; have HT3 := Lib.hid htop3; have HVLT := Lib.hid hvl; have HULT := Lib.hid hul; have HTP := Lib.hid htp; have HW := Lib.hid hW; have HWIN := Lib.hid hwin; have HREST := Lib.hid hrest; clear hj0 hj1 hj2 hsum hWt hWlt htop2 htop3 hvl hul htp hW hwin hrest hu2 ht0 hr0 hst HLT hVnp hhlen
     go_wp2_with fail
     refine wp_reg_abs [some 73, some 74, some 75, some 76, some 77, some 78, some 79, some 80, some 81, some 82, some 83, some 84, some 85, some 86, some 87, some 88, some 89, some 14] [?v1_0, ?v1_1, ?v1_2, ?v1_3, ?v1_4, ?v1_5, ?v1_6, ?v1_7, ?v1_8, ?v1_9, ?v1_10, ?v1_11, ?v1_12, ?v1_13, ?v1_14, ?v1_15, ?v1_16, ?v1_17] rfl (by kernel_rfl) rfl rfl ⟨?s1_0, ?s1_1, ?s1_2, ?s1_3, ?s1_4, ?s1_5, ?s1_6, ?s1_7, ?s1_8, ?s1_9, ?s1_10, ?s1_11, ?s1_12, ?s1_13, ?s1_14, ?s1_15, ?s1_16, ?s1_17, trivial⟩ ?p1
     case s1_0 | s1_8 =>
      intro t w T V O K k; have o11 := O 11 _ (by kernel_rfl) rfl; clear V O; go_simp; exact k _ (Grow.refl _)
     case s1_1 | s1_9 =>
      intro t w T V O K k; have o13 := O 13 _ (by kernel_rfl) rfl; clear V O; go_simp; exact k _ (Grow.refl _)
     case s1_2 | s1_10 =>
      intro t w T V O K k; have o10 := O 10 _ (by kernel_rfl) rfl; clear V O; go_simp; exact k _ (Grow.refl _)
     case s1_3 =>
      intro t w T V O K k; have p1 : t[74]? = some ?v1_1 := V.g 1 74 rfl rfl (by kernel_rfl); have p2 : t[75]? = some ?v1_2 := V.g 2 75 rfl rfl (by kernel_rfl); clear V O; go_simp; exact k _ (Grow.refl _)
     case s1_4 =>
      intro t w T V O K k; have p0 : t[73]? = some ?v1_0 := V.g 0 73 rfl rfl (by kernel_rfl); have p3 : t[76]? = some ?v1_3 := V.g 3 76 rfl rfl (by kernel_rfl); clear V O; go_simp; exact k _ (Grow.refl _)
     case s1_5 =>
      intro t w T V O K k; have p4 : t[77]? = some ?v1_4 := V.g 4 77 rfl rfl (by kernel_rfl); clear V O; have d0 := grow_cell T cU0; have d1 := grow_cell T cU1; go_simp; exact k _ (Grow.refl _)
     case s1_6 =>
      intro t w T V O K k; have p5 : t[78]? = some ?v1_5 := V.g 5 78 rfl rfl (by kernel_rfl); clear V O; go_simp; exact k _ (Grow.refl _)
     case s1_7 =>
      intro t w T V O K k; have p6 : t[79]? = some ?v1_6 := V.g 6 79 rfl rfl (by kernel_rfl); clear V O; go_simp; exact k _ (Grow.refl _)
     case s1_11 =>
      intro t w T V O K k; have p9 : t[82]? = some ?v1_9 := V.g 9 82 rfl rfl (by kernel_rfl); have p10 : t[83]? = some ?v1_10 := V.g 10 83 rfl rfl (by kernel_rfl); clear V O; go_simp; exact k _ (Grow.refl _)
     case s1_12 =>
      intro t w T V O K k; have p11 : t[84]? = some ?v1_11 := V.g 11 84 rfl rfl (by kernel_rfl); clear V O; go_simp; exact k _ (Grow.refl _)
     case s1_13 =>
      intro t w T V O K k; have p8 : t[81]? = some ?v1_8 := V.g 8 81 rfl rfl (by kernel_rfl); have p12 : t[85]? = some ?v1_12 := V.g 12 85 rfl rfl (by kernel_rfl); clear V O; go_simp; exact k _ (Grow.refl _)
     case s1_14 =>
      intro t w T V O K k; have p13 : t[86]? = some ?v1_13 := V.g 13 86 rfl rfl (by kernel_rfl); clear V O; have d0 := grow_cell T cU0; have d1 := grow_cell T cU1; go_simp; exact k _ (Grow.refl _)
     case s1_15 =>
      intro t w T V O K k; have p14 : t[87]? = some ?v1_14 := V.g 14 87 rfl rfl (by kernel_rfl); clear V O; go_simp; exact k _ (Grow.refl _)
     case s1_16 =>
      intro t w T V O K k; have p7 : t[80]? = some ?v1_7 := V.g 7 80 rfl rfl (by kernel_rfl); have p15 : t[88]? = some ?v1_15 := V.g 15 88 rfl rfl (by kernel_rfl); clear V O; go_simp; exact k _ (Grow.refl _)
     case s1_17 =>
      intro t w T V O K k; have p16 : t[89]? = some ?v1_16 := V.g 16 89 rfl rfl (by kernel_rfl); clear V O; go_simp; exact k _ (Grow.refl _)
     intro w9 hb9
     simp only [putAll, Act.put, List.setIfInBounds_toArray, List.set_cons_succ, List.set_cons_zero, List.getD_cons_succ, List.getD_cons_zero, Nat.reduceAdd, Nat.zero_add]
     obtain ⟨wx, rfl⟩ : ∃ wx : World, wx = w9 := ⟨_, rfl⟩; have hMx := hMm.below hb9; have cU2' := below_cell hb9 cU2; have cV1' := below_cell hb9 cV1; have cV0' := below_cell hb9 cV0; clear hb9 cU0 cU1 cU2 cV1 cV0 hMm
     go_wp2_with fail
     refine wp_reg_abs [some 90, some 91, some 92, some 93, some 94, some 95, some 96, some 97, some 98, some 99, some 100, some 101, some 102, some 103, some 104, some 105, some 15, some 16] [?v2_0, ?v2_1, ?v2_2, ?v2_3, ?v2_4, ?v2_5, ?v2_6, ?v2_7, ?v2_8, ?v2_9, ?v2_10, ?v2_11, ?v2_12, ?v2_13, ?v2_14, ?v2_15, ?v2_16, ?v2_17] rfl (by kernel_rfl) rfl rfl ⟨?s2_0, ?s2_1, ?s2_2, ?s2_3, ?s2_4, ?s2_5, ?s2_6, ?s2_7, ?s2_8, ?s2_9, ?s2_10, ?s2_11, ?s2_12, ?s2_13, ?s2_14, ?s2_15, ?s2_16, ?s2_17, trivial⟩ ?p2
     case s2_0 | s2_8 =>
      intro t w T V O K k; have o14 := O 14 _ (by kernel_rfl) rfl; clear V O; go_simp; exact k _ (Grow.refl _)
     case s2_1 | s2_9 =>
      intro t w T V O K k; have o9 := O 9 _ (by kernel_rfl) rfl; clear V O; go_simp; exact k _ (Grow.refl _)
     case s2_2 | s2_10 =>
      intro t w T V O K k; have o10 := O 10 _ (by kernel_rfl) rfl; clear V O; go_simp; exact k _ (Grow.refl _)
     case s2_3 =>
      intro t w T V O K k; have p2 : t[92]? = some ?v2_2 := V.g 2 92 rfl rfl (by kernel_rfl); clear V O; go_simp; exact k _ (Grow.refl _)
     case s2_4 =>
      intro t w T V O K k; have p1 : t[91]? = some ?v2_1 := V.g 1 91 rfl rfl (by kernel_rfl); have p3 : t[93]? = some ?v2_3 := V.g 3 93 rfl rfl (by kernel_rfl); clear V O; go_simp; exact k _ (Grow.refl _)
     case s2_5 =>
      intro t w T V O K k; have p4 : t[94]? = some ?v2_4 := V.g 4 94 rfl rfl (by kernel_rfl); clear V O; have d0 := grow_cell T cV1'; go_simp; exact k _ (Grow.refl _)
     case s2_6 =>
      intro t w T V O K k; have p5 : t[95]? = some ?v2_5 := V.g 5 95 rfl rfl (by kernel_rfl); clear V O; go_simp; exact k _ (Grow.refl _)
     case s2_7 =>
      intro t w T V O K k; have p0 : t[90]? = some ?v2_0 := V.g 0 90 rfl rfl (by kernel_rfl); have p6 : t[96]? = some ?v2_6 := V.g 6 96 rfl rfl (by kernel_rfl); clear V O; go_simp; exact k _ (Grow.refl _)
     case s2_11 =>
      intro t w T V O K k; have p10 : t[100]? = some ?v2_10 := V.g 10 100 rfl rfl (by kernel_rfl); clear V O; go_simp; exact k _ (Grow.refl _)
     case s2_12 =>
      intro t w T V O K k; have p9 : t[99]? = some ?v2_9 := V.g 9 99 rfl rfl (by kernel_rfl); have p11 : t[101]? = some ?v2_11 := V.g 11 101 rfl rfl (by kernel_rfl); clear V O; go_simp; exact k _ (Grow.refl _)
     case s2_13 =>
      intro t w T V O K k; have p12 : t[102]? = some ?v2_12 := V.g 12 102 rfl rfl (by kernel_rfl); clear V O; have d0 := grow_cell T cV1'; go_simp; exact k _ (Grow.refl _)
     case s2_14 =>
      intro t w T V O K k; have p13 : t[103]? = some ?v2_13 := V.g 13 103 rfl rfl (by kernel_rfl); clear V O; go_simp; exact k _ (Grow.refl _)
     case s2_15 =>
      intro t w T V O K k; have p8 : t[98]? = some ?v2_8 := V.g 8 98 rfl rfl (by kernel_rfl); have p14 : t[104]? = some ?v2_14 := V.g 14 104 rfl rfl (by kernel_rfl); clear V O; go_simp; exact k _ (Grow.refl _)
     case s2_16 =>
      intro t w T V O K k; have p7 : t[97]? = some ?v2_7 := V.g 7 97 rfl rfl (by kernel_rfl); clear V O; go_simp; exact k _ (Grow.refl _)
     case s2_17 =>
      intro t w T V O K k; have p15 : t[105]? = some ?v2_15 := V.g 15 105 rfl rfl (by kernel_rfl); clear V O; go_simp; exact k _ (Grow.refl _)
     intro w9 hb9
     simp only [putAll, Act.put, List.setIfInBounds_toArray, List.set_cons_succ, List.set_cons_zero, List.getD_cons_succ, List.getD_cons_zero, Nat.reduceAdd, Nat.zero_add]
     have hMy := hMx.below hb9; have cU2 := below_cell hb9 cU2'; have cV1 := below_cell hb9 cV1'; have cV0 := below_cell hb9 cV0'; clear hb9 hMx cU2' cV1' cV0'; obtain ⟨wy, rfl⟩ : ∃ wy : World, wy = w9 := ⟨_, rfl⟩; clear e1 e2 e3 e4 e5 e6 e7 g0 g1 g5
     go_upto_block 2 with (fail)
     go_cut [15] (fun s15 wx => EstPost w gu gq (some ⟨bv, ov, none⟩) U Q V W (n * 2 ^ s) s15 wx)
     case first =>
      go_wp2_with fail
      go_loopg [15, 16] t0 (fun q s15 s16 wr => ∃ t r : Nat, q = t /\ s15 = .int .u64 t /\ s16 = .int .u64 r /\ t <= 4294967297 /\ r < 4294967296 /\ Hid (t * v1 + r = u2) /\ Hid (W < (t + 1) * (n * 2 ^ s)) /\ DivMem w wr gu gq (some ⟨bv, ov, none⟩) U Q V /\ Below wy.heap.size wy wr)
      case atStart => exact ⟨t0, r0, rfl, rfl, rfl, by omega, by omega, HSUM.out, HWT.out, hMy, Below.refl _ _⟩
      case round =>
       clear hMy; obtain ⟨t, r, hq, rfl, rfl, htb, hrb, HS, HT, hMz, hbz⟩ := hrel; have HQ3 := Lib.hid hq; clear hq
       have f0 := below_cell hbz cU2; have f1 := below_cell hbz cV1; have f2 := below_cell hbz cV0; clear cU2 cV1 cV0; have g6 : IntKind.u64.wrap ((r : Int) * 4294967296) = (r : Int) * 4294967296 := IntWalk.u64_in _ (by omega); obtain ⟨ru, hru⟩ : ∃ ru, ru = r * 4294967296 + a2 := ⟨_, rfl⟩; have g7 := or_shl ha2 hrb hru
       by_cases htB : t < 4294967296
       ·obtain ⟨p, hp⟩ : ∃ p, p = t * v0 := ⟨_, rfl⟩; have hpb := mul_bound htB hb0; rw [<- hp] at hpb; have g8 : IntKind.u64.wrap ((t : Int) * (v0 : Int)) = (p : Int) := by
         have : ((t : Int) * (v0 : Int)) = (p : Int) := by rw [hp]; simp
         rw [this]; exact IntWalk.u64_in _ (by omega)
        have d0 : decide ((4294967296 : Int) <= (t : Int)) = false := decide_eq_false (by omega); have d0' : decide (4294967296 <= t) = false := decide_eq_false (by omega)
        by_cases hgt : ru < p
        ·have d1 : decide ((ru : Int) < (p : Int)) = true := decide_eq_true (by omega); have d2 : decide (ru < p) = true := decide_eq_true hgt; have HX : Hid (W < t * (n * 2 ^ s)) := est_dec HT2.out HT3.out HULT.out HS.out (by omega); have htp : 0 < t := by
          rcases Nat.eq_zero_or_pos t with h0 | h0
          ·rw [h0] at hp; omega
          ·exact h0
         obtain ⟨t1, ht1⟩ : ∃ t1, t1 + 1 = t := ⟨t - 1, by omega⟩; have g9 : (t : Int) - 1 = (t1 : Int) := by omega
         have HT1 := Lib.hid ht1; have hsum1 : t1 * v1 + (r + v1) = u2 := by
          have := HS.out; rw [<- ht1, Nat.add_mul, Nat.one_mul] at this
          omega
         obtain ⟨r1, hr1⟩ : ∃ r1, r1 = r + v1 := ⟨_, rfl⟩; rw [<- hr1] at hsum1; have g10 : (r : Int) + (v1 : Int) = (r1 : Int) := by omega
         have HS1 := Lib.hid hsum1; have ht1b : t1 < 4294967296 := by omega
         have hr1b : r1 < 8589934592 := by omega
         clear hr1; clear hp hru ht1 hgt hsum1 HS HT
         go_wp2_with fail
         refine wp_reg_abs [some 106, some 107, some 108, some 109, some 110, some 111, some 112, some 113, some 114, some 115, some 116, some 117, some 118, some 119, some 120, some 121, some 122, some 123, some 124, some 125, some 126, some 127, some 128, some 129] [?v3_0, ?v3_1, ?v3_2, ?v3_3, ?v3_4, ?v3_5, ?v3_6, ?v3_7, ?v3_8, ?v3_9, ?v3_10, ?v3_11, ?v3_12, ?v3_13, ?v3_14, ?v3_15, ?v3_16, ?v3_17, ?v3_18, ?v3_19, ?v3_20, ?v3_21, ?v3_22, ?v3_23] rfl (by kernel_rfl) rfl rfl ⟨?s3_0, ?s3_1, ?s3_2, ?s3_3, ?s3_4, ?s3_5, ?s3_6, ?s3_7, ?s3_8, ?s3_9, ?s3_10, ?s3_11, ?s3_12, ?s3_13, ?s3_14, ?s3_15, ?s3_16, ?s3_17, ?s3_18, ?s3_19, ?s3_20, ?s3_21, ?s3_22, ?s3_23, trivial⟩ ?p3
         case s3_0 =>
          intro t w T V O K k; have o15 := O 15 _ (by kernel_rfl) rfl; clear V O; go_simp; exact k _ (Grow.refl _)
         case s3_1 =>
          intro t w T V O K k; have p0 : t[106]? = some ?v3_0 := V.g 0 106 rfl rfl (by kernel_rfl); clear V O; go_simp; exact k _ (Grow.refl _)
         case s3_2 =>
          intro t w T V O K k; have p1 : t[107]? = some ?v3_1 := V.g 1 107 rfl rfl (by kernel_rfl); clear V O; go_simp; exact k _ (Grow.refl _)
         case s3_3 =>
          intro t w T V O K k; have p2 : t[108]? = some ?v3_2 := V.g 2 108 rfl rfl (by kernel_rfl); have o15 := O 15 _ (by kernel_rfl) rfl; clear V O; go_simp; exact k _ (Grow.refl _)
         case s3_4 =>
          intro t w T V O K k; have p2 : t[108]? = some ?v3_2 := V.g 2 108 rfl rfl (by kernel_rfl); have o9 := O 9 _ (by kernel_rfl) rfl; clear V O; go_simp; exact k _ (Grow.refl _)
         case s3_5 =>
          intro t w T V O K k; have p2 : t[108]? = some ?v3_2 := V.g 2 108 rfl rfl (by kernel_rfl); have o10 := O 10 _ (by kernel_rfl) rfl; clear V O; go_simp; exact k _ (Grow.refl _)
         case s3_6 =>
          intro t w T V O K k; have p2 : t[108]? = some ?v3_2 := V.g 2 108 rfl rfl (by kernel_rfl); have p5 : t[111]? = some ?v3_5 := V.g 5 111 rfl rfl (by kernel_rfl); clear V O; go_simp; exact k _ (Grow.refl _)
         case s3_7 =>
          intro t w T V O K k; have p2 : t[108]? = some ?v3_2 := V.g 2 108 rfl rfl (by kernel_rfl); have p4 : t[110]? = some ?v3_4 := V.g 4 110 rfl rfl (by kernel_rfl); have p6 : t[112]? = some ?v3_6 := V.g 6 112 rfl rfl (by kernel_rfl); clear V O; go_simp; exact k _ (Grow.refl _)
         case s3_8 =>
          intro t w T V O K k; have p2 : t[108]? = some ?v3_2 := V.g 2 108 rfl rfl (by kernel_rfl); have p7 : t[113]? = some ?v3_7 := V.g 7 113 rfl rfl (by kernel_rfl); clear V O; have d0 := grow_cell T f0; have d1 := grow_cell T f2; go_simp; exact k _ (Grow.refl _)
         case s3_9 =>
          intro t w T V O K k; have p2 : t[108]? = some ?v3_2 := V.g 2 108 rfl rfl (by kernel_rfl); have p8 : t[114]? = some ?v3_8 := V.g 8 114 rfl rfl (by kernel_rfl); clear V O; go_simp; exact k _ (Grow.refl _)
         case s3_10 =>
          intro t w T V O K k; have p2 : t[108]? = some ?v3_2 := V.g 2 108 rfl rfl (by kernel_rfl); have p3 : t[109]? = some ?v3_3 := V.g 3 109 rfl rfl (by kernel_rfl); have p9 : t[115]? = some ?v3_9 := V.g 9 115 rfl rfl (by kernel_rfl); clear V O; go_simp; exact k _ (Grow.refl _)
         case s3_11 =>
          intro t w T V O K k; have p2 : t[108]? = some ?v3_2 := V.g 2 108 rfl rfl (by kernel_rfl); have o16 := O 16 _ (by kernel_rfl) rfl; clear V O; go_simp; exact k _ (Grow.refl _)
         case s3_12 =>
          intro t w T V O K k; have p2 : t[108]? = some ?v3_2 := V.g 2 108 rfl rfl (by kernel_rfl); have p11 : t[117]? = some ?v3_11 := V.g 11 117 rfl rfl (by kernel_rfl); clear V O; go_simp; exact k _ (Grow.refl _)
         case s3_13 =>
          intro t w T V O K k; have p2 : t[108]? = some ?v3_2 := V.g 2 108 rfl rfl (by kernel_rfl); have o11 := O 11 _ (by kernel_rfl) rfl; clear V O; go_simp; exact k _ (Grow.refl _)
         case s3_14 =>
          intro t w T V O K k; have p2 : t[108]? = some ?v3_2 := V.g 2 108 rfl rfl (by kernel_rfl); have o13 := O 13 _ (by kernel_rfl) rfl; clear V O; go_simp; exact k _ (Grow.refl _)
         case s3_15 =>
          intro t w T V O K k; have p2 : t[108]? = some ?v3_2 := V.g 2 108 rfl rfl (by kernel_rfl); have o10 := O 10 _ (by kernel_rfl) rfl; clear V O; go_simp; exact k _ (Grow.refl _)
         case s3_16 =>
          intro t w T V O K k; have p2 : t[108]? = some ?v3_2 := V.g 2 108 rfl rfl (by kernel_rfl); have p14 : t[120]? = some ?v3_14 := V.g 14 120 rfl rfl (by kernel_rfl); have p15 : t[121]? = some ?v3_15 := V.g 15 121 rfl rfl (by kernel_rfl); clear V O; go_simp; exact k _ (Grow.refl _)
         case s3_17 =>
          intro t w T V O K k; have p2 : t[108]? = some ?v3_2 := V.g 2 108 rfl rfl (by kernel_rfl); have p16 : t[122]? = some ?v3_16 := V.g 16 122 rfl rfl (by kernel_rfl); clear V O; go_simp; exact k _ (Grow.refl _)
         case s3_18 =>
          intro t w T V O K k; have p2 : t[108]? = some ?v3_2 := V.g 2 108 rfl rfl (by kernel_rfl); have p13 : t[119]? = some ?v3_13 := V.g 13 119 rfl rfl (by kernel_rfl); have p17 : t[123]? = some ?v3_17 := V.g 17 123 rfl rfl (by kernel_rfl); clear V O; go_simp; exact k _ (Grow.refl _)
         case s3_19 =>
          intro t w T V O K k; have p2 : t[108]? = some ?v3_2 := V.g 2 108 rfl rfl (by kernel_rfl); have p18 : t[124]? = some ?v3_18 := V.g 18 124 rfl rfl (by kernel_rfl); clear V O; have d0 := grow_cell T f0; have d1 := grow_cell T f2; go_simp; exact k _ (Grow.refl _)
         case s3_20 =>
          intro t w T V O K k; have p2 : t[108]? = some ?v3_2 := V.g 2 108 rfl rfl (by kernel_rfl); have p19 : t[125]? = some ?v3_19 := V.g 19 125 rfl rfl (by kernel_rfl); clear V O; go_simp; exact k _ (Grow.refl _)
         case s3_21 =>
          intro t w T V O K k; have p2 : t[108]? = some ?v3_2 := V.g 2 108 rfl rfl (by kernel_rfl); have p12 : t[118]? = some ?v3_12 := V.g 12 118 rfl rfl (by kernel_rfl); have p20 : t[126]? = some ?v3_20 := V.g 20 126 rfl rfl (by kernel_rfl); clear V O; go_simp; exact k _ (Grow.refl _)
         case s3_22 =>
          intro t w T V O K k; have p2 : t[108]? = some ?v3_2 := V.g 2 108 rfl rfl (by kernel_rfl); have p10 : t[116]? = some ?v3_10 := V.g 10 116 rfl rfl (by kernel_rfl); have p21 : t[127]? = some ?v3_21 := V.g 21 127 rfl rfl (by kernel_rfl); clear V O; go_simp; exact k _ (Grow.refl _)
         case s3_23 =>
          intro t w T V O K k; have p2 : t[108]? = some ?v3_2 := V.g 2 108 rfl rfl (by kernel_rfl); have p22 : t[128]? = some ?v3_22 := V.g 22 128 rfl rfl (by kernel_rfl); clear V O; go_simp; exact k _ (Grow.refl _)
         intro w9 hb9
         simp only [putAll, Act.put, List.setIfInBounds_toArray, List.set_cons_succ, List.set_cons_zero, List.getD_cons_succ, List.getD_cons_zero, Nat.reduceAdd, Nat.zero_add]
         obtain ⟨wz, rfl⟩ : ∃ wz : World, wz = w9 := ⟨_, rfl⟩; have hMv := hMz.below hb9; have hbv := hbz.trans (hb9.mono hbz.size); have f1' := below_cell hb9 f1; clear hb9 f0 f1 f2 g6 g7 g8 d0 d0' d1 d2 hMz hbz
         by_cases hbr : 4294967296 <= r1
         ·have HE : Hid (t1 * (n * 2 ^ s) < W + n * 2 ^ s) := est_exit HT2.out HT3.out HVLT.out hv1p (by decide) HS1.out (est_break' ht1b hb0 hbr) (by omega); have HE2 : Hid (W < (t1 + 1) * (n * 2 ^ s)) := by show _ < _; rw [HT1.out]; exact HX.out
          have d3 : decide ((4294967296 : Int) <= (r1 : Int)) = true := decide_eq_true (by omega); have d4 : decide (4294967296 <= r1) = true := decide_eq_true hbr; clear hbr
          go_wp2_with fail
          go_meet
          exact ⟨t1, rfl, ht1b, HE2.out, HE.out, hMv⟩
         ·have HE2 : Hid (W < (t1 + 1) * (n * 2 ^ s)) := by show _ < _; rw [HT1.out]; exact HX.out
          have d3 : decide ((4294967296 : Int) <= (r1 : Int)) = false := decide_eq_false (by omega); have d4 : decide (4294967296 <= r1) = false := decide_eq_false hbr; have hr1c : r1 < 4294967296 := by omega
          clear hbr
          go_wp2_with fail
          go_roundg t1
          case measure => have := HQ3.out; have := HT1.out; omega
          case rel => exact ⟨t1, r1, rfl, rfl, rfl, by omega, hr1c, HS1.out, HE2, hMv, hbv⟩
        ·have d1 : decide ((ru : Int) < (p : Int)) = false := decide_eq_false (by omega); have d2 : decide (ru < p) = false := decide_eq_false hgt; have HE : Hid (t * (n * 2 ^ s) < W + n * 2 ^ s) := est_exit HT2.out HT3.out HVLT.out hv1p (by decide) HS.out (by omega) (by omega); clear hp hru hgt HS
         go_wp2_with fail
         refine wp_reg_abs [some 106, some 107, some 108, some 109, some 110, some 111, some 112, some 113, some 114, some 115, some 116, some 117, some 118, some 119, some 120, some 121, some 122, some 123, some 124, some 125, some 126, some 127, some 128, some 129] [?v4_0, ?v4_1, ?v4_2, ?v4_3, ?v4_4, ?v4_5, ?v4_6, ?v4_7, ?v4_8, ?v4_9, ?v4_10, ?v4_11, ?v4_12, ?v4_13, ?v4_14, ?v4_15, ?v4_16, ?v4_17, ?v4_18, ?v4_19, ?v4_20, ?v4_21, ?v4_22, ?v4_23] rfl (by kernel_rfl) rfl rfl ⟨?s4_0, ?s4_1, ?s4_2, ?s4_3, ?s4_4, ?s4_5, ?s4_6, ?s4_7, ?s4_8, ?s4_9, ?s4_10, ?s4_11, ?s4_12, ?s4_13, ?s4_14, ?s4_15, ?s4_16, ?s4_17, ?s4_18, ?s4_19, ?s4_20, ?s4_21, ?s4_22, ?s4_23, trivial⟩ ?p4
         case s4_0 =>
          intro t w T V O K k; have o15 := O 15 _ (by kernel_rfl) rfl; clear V O; go_simp; exact k _ (Grow.refl _)
         case s4_1 =>
          intro t w T V O K k; have p0 : t[106]? = some ?v4_0 := V.g 0 106 rfl rfl (by kernel_rfl); clear V O; go_simp; exact k _ (Grow.refl _)
         case s4_2 =>
          intro t w T V O K k; have p1 : t[107]? = some ?v4_1 := V.g 1 107 rfl rfl (by kernel_rfl); clear V O; go_simp; exact k _ (Grow.refl _)
         case s4_3 =>
          intro t w T V O K k; have p2 : t[108]? = some ?v4_2 := V.g 2 108 rfl rfl (by kernel_rfl); have o15 := O 15 _ (by kernel_rfl) rfl; clear V O; go_simp; exact k _ (Grow.refl _)
         case s4_4 =>
          intro t w T V O K k; have p2 : t[108]? = some ?v4_2 := V.g 2 108 rfl rfl (by kernel_rfl); have o9 := O 9 _ (by kernel_rfl) rfl; clear V O; go_simp; exact k _ (Grow.refl _)
         case s4_5 =>
          intro t w T V O K k; have p2 : t[108]? = some ?v4_2 := V.g 2 108 rfl rfl (by kernel_rfl); have o10 := O 10 _ (by kernel_rfl) rfl; clear V O; go_simp; exact k _ (Grow.refl _)
         case s4_6 =>
          intro t w T V O K k; have p2 : t[108]? = some ?v4_2 := V.g 2 108 rfl rfl (by kernel_rfl); have p5 : t[111]? = some ?v4_5 := V.g 5 111 rfl rfl (by kernel_rfl); clear V O; go_simp; exact k _ (Grow.refl _)
         case s4_7 =>
          intro t w T V O K k; have p2 : t[108]? = some ?v4_2 := V.g 2 108 rfl rfl (by kernel_rfl); have p4 : t[110]? = some ?v4_4 := V.g 4 110 rfl rfl (by kernel_rfl); have p6 : t[112]? = some ?v4_6 := V.g 6 112 rfl rfl (by kernel_rfl); clear V O; go_simp; exact k _ (Grow.refl _)
         case s4_8 =>
          intro t w T V O K k; have p2 : t[108]? = some ?v4_2 := V.g 2 108 rfl rfl (by kernel_rfl); have p7 : t[113]? = some ?v4_7 := V.g 7 113 rfl rfl (by kernel_rfl); clear V O; have d0 := grow_cell T f0; have d1 := grow_cell T f2; go_simp; exact k _ (Grow.refl _)
         case s4_9 =>
          intro t w T V O K k; have p2 : t[108]? = some ?v4_2 := V.g 2 108 rfl rfl (by kernel_rfl); have p8 : t[114]? = some ?v4_8 := V.g 8 114 rfl rfl (by kernel_rfl); clear V O; go_simp; exact k _ (Grow.refl _)
         case s4_10 =>
          intro t w T V O K k; have p2 : t[108]? = some ?v4_2 := V.g 2 108 rfl rfl (by kernel_rfl); have p3 : t[109]? = some ?v4_3 := V.g 3 109 rfl rfl (by kernel_rfl); have p9 : t[115]? = some ?v4_9 := V.g 9 115 rfl rfl (by kernel_rfl); clear V O; go_simp; exact k _ (Grow.refl _)
         case s4_11 =>
          intro t w T V O K k; have p2 : t[108]? = some ?v4_2 := V.g 2 108 rfl rfl (by kernel_rfl); have o16 := O 16 _ (by kernel_rfl) rfl; clear V O; go_simp; exact k _ (Grow.refl _)
         case s4_12 =>
          intro t w T V O K k; have p2 : t[108]? = some ?v4_2 := V.g 2 108 rfl rfl (by kernel_rfl); have p11 : t[117]? = some ?v4_11 := V.g 11 117 rfl rfl (by kernel_rfl); clear V O; go_simp; exact k _ (Grow.refl _)
         case s4_13 =>
          intro t w T V O K k; have p2 : t[108]? = some ?v4_2 := V.g 2 108 rfl rfl (by kernel_rfl); have o11 := O 11 _ (by kernel_rfl) rfl; clear V O; go_simp; exact k _ (Grow.refl _)
         case s4_14 =>
          intro t w T V O K k; have p2 : t[108]? = some ?v4_2 := V.g 2 108 rfl rfl (by kernel_rfl); have o13 := O 13 _ (by kernel_rfl) rfl; clear V O; go_simp; exact k _ (Grow.refl _)
         case s4_15 =>
          intro t w T V O K k; have p2 : t[108]? = some ?v4_2 := V.g 2 108 rfl rfl (by kernel_rfl); have o10 := O 10 _ (by kernel_rfl) rfl; clear V O; go_simp; exact k _ (Grow.refl _)
         case s4_16 =>
          intro t w T V O K k; have p2 : t[108]? = some ?v4_2 := V.g 2 108 rfl rfl (by kernel_rfl); have p14 : t[120]? = some ?v4_14 := V.g 14 120 rfl rfl (by kernel_rfl); have p15 : t[121]? = some ?v4_15 := V.g 15 121 rfl rfl (by kernel_rfl); clear V O; go_simp; exact k _ (Grow.refl _)
         case s4_17 =>
          intro t w T V O K k; have p2 : t[108]? = some ?v4_2 := V.g 2 108 rfl rfl (by kernel_rfl); have p16 : t[122]? = some ?v4_16 := V.g 16 122 rfl rfl (by kernel_rfl); clear V O; go_simp; exact k _ (Grow.refl _)
         case s4_18 =>
          intro t w T V O K k; have p2 : t[108]? = some ?v4_2 := V.g 2 108 rfl rfl (by kernel_rfl); have p13 : t[119]? = some ?v4_13 := V.g 13 119 rfl rfl (by kernel_rfl); have p17 : t[123]? = some ?v4_17 := V.g 17 123 rfl rfl (by kernel_rfl); clear V O; go_simp; exact k _ (Grow.refl _)
         case s4_19 =>
          intro t w T V O K k; have p2 : t[108]? = some ?v4_2 := V.g 2 108 rfl rfl (by kernel_rfl); have p18 : t[124]? = some ?v4_18 := V.g 18 124 rfl rfl (by kernel_rfl); clear V O; have d0 := grow_cell T f0; have d1 := grow_cell T f2; go_simp; exact k _ (Grow.refl _)
         case s4_20 =>
          intro t w T V O K k; have p2 : t[108]? = some ?v4_2 := V.g 2 108 rfl rfl (by kernel_rfl); have p19 : t[125]? = some ?v4_19 := V.g 19 125 rfl rfl (by kernel_rfl); clear V O; go_simp; exact k _ (Grow.refl _)
         case s4_21 =>
          intro t w T V O K k; have p2 : t[108]? = some ?v4_2 := V.g 2 108 rfl rfl (by kernel_rfl); have p12 : t[118]? = some ?v4_12 := V.g 12 118 rfl rfl (by kernel_rfl); have p20 : t[126]? = some ?v4_20 := V.g 20 126 rfl rfl (by kernel_rfl); clear V O; go_simp; exact k _ (Grow.refl _)
         case s4_22 =>
          intro t w T V O K k; have p2 : t[108]? = some ?v4_2 := V.g 2 108 rfl rfl (by kernel_rfl); have p10 : t[116]? = some ?v4_10 := V.g 10 116 rfl rfl (by kernel_rfl); have p21 : t[127]? = some ?v4_21 := V.g 21 127 rfl rfl (by kernel_rfl); clear V O; go_simp; exact k _ (Grow.refl _)
         case s4_23 =>
          intro t w T V O K k; have p2 : t[108]? = some ?v4_2 := V.g 2 108 rfl rfl (by kernel_rfl); have p22 : t[128]? = some ?v4_22 := V.g 22 128 rfl rfl (by kernel_rfl); clear V O; go_simp; exact k _ (Grow.refl _)
         intro w9 hb9
         simp only [putAll, Act.put, List.setIfInBounds_toArray, List.set_cons_succ, List.set_cons_zero, List.getD_cons_succ, List.getD_cons_zero, Nat.reduceAdd, Nat.zero_add]
         have hMv := hMz.below hb9; clear hb9 f0 f1 f2 g6 g7 g8 d0 d0' d1 d2 hMz hbz
         go_wp2_with fail
         go_meet
         exact ⟨t, rfl, htB, HT.out, HE.out, hMv⟩
       ·have d0 : decide ((4294967296 : Int) <= (t : Int)) = true := decide_eq_true (by omega); have d0' : decide (4294967296 <= t) = true := decide_eq_true (by omega); have HX : Hid (W < t * (n * 2 ^ s)) := Nat.lt_of_lt_of_le HWL.out (Nat.mul_le_mul_right _ (by omega)); obtain ⟨t1, ht1⟩ : ∃ t1, t1 + 1 = t := ⟨t - 1, by omega⟩; have g9 : (t : Int) - 1 = (t1 : Int) := by omega
        have HT1 := Lib.hid ht1; have hsum1 : t1 * v1 + (r + v1) = u2 := by
         have := HS.out; rw [<- ht1, Nat.add_mul, Nat.one_mul] at this
         omega
        obtain ⟨r1, hr1⟩ : ∃ r1, r1 = r + v1 := ⟨_, rfl⟩; rw [<- hr1] at hsum1; have g10 : (r : Int) + (v1 : Int) = (r1 : Int) := by omega
        have HS1 := Lib.hid hsum1; have ht1c : t1 <= 4294967296 := by omega
        have hr1b : r1 < 8589934592 := by omega
        clear hr1; clear hru ht1 hsum1 HS HT g7
        go_wp2_with fail
        refine wp_reg_abs [some 106, some 107, some 108, some 109, some 110, some 111, some 112, some 113, some 114, some 115, some 116, some 117, some 118, some 119, some 120, some 121, some 122, some 123, some 124, some 125, some 126, some 127, some 128, some 129] [?v5_0, ?v5_1, ?v5_2, ?v5_3, ?v5_4, ?v5_5, ?v5_6, ?v5_7, ?v5_8, ?v5_9, ?v5_10, ?v5_11, ?v5_12, ?v5_13, ?v5_14, ?v5_15, ?v5_16, ?v5_17, ?v5_18, ?v5_19, ?v5_20, ?v5_21, ?v5_22, ?v5_23] rfl (by kernel_rfl) rfl rfl ⟨?s5_0, ?s5_1, ?s5_2, ?s5_3, ?s5_4, ?s5_5, ?s5_6, ?s5_7, ?s5_8, ?s5_9, ?s5_10, ?s5_11, ?s5_12, ?s5_13, ?s5_14, ?s5_15, ?s5_16, ?s5_17, ?s5_18, ?s5_19, ?s5_20, ?s5_21, ?s5_22, ?s5_23, trivial⟩ ?p5
        case s5_0 =>
         intro t w T V O K k; have o15 := O 15 _ (by kernel_rfl) rfl; clear V O; go_simp; exact k _ (Grow.refl _)
        case s5_1 =>
         intro t w T V O K k; have p0 : t[106]? = some ?v5_0 := V.g 0 106 rfl rfl (by kernel_rfl); clear V O; go_simp; exact k _ (Grow.refl _)
        case s5_2 =>
         intro t w T V O K k; have p1 : t[107]? = some ?v5_1 := V.g 1 107 rfl rfl (by kernel_rfl); clear V O; go_simp; exact k _ (Grow.refl _)
        case s5_3 =>
         intro t w T V O K k; have p2 : t[108]? = some ?v5_2 := V.g 2 108 rfl rfl (by kernel_rfl); have o15 := O 15 _ (by kernel_rfl) rfl; clear V O; go_simp; exact k _ (Grow.refl _)
        case s5_4 =>
         intro t w T V O K k; have p2 : t[108]? = some ?v5_2 := V.g 2 108 rfl rfl (by kernel_rfl); have o9 := O 9 _ (by kernel_rfl) rfl; clear V O; go_simp; exact k _ (Grow.refl _)
        case s5_5 =>
         intro t w T V O K k; have p2 : t[108]? = some ?v5_2 := V.g 2 108 rfl rfl (by kernel_rfl); have o10 := O 10 _ (by kernel_rfl) rfl; clear V O; go_simp; exact k _ (Grow.refl _)
        case s5_6 =>
         intro t w T V O K k; have p2 : t[108]? = some ?v5_2 := V.g 2 108 rfl rfl (by kernel_rfl); have p5 : t[111]? = some ?v5_5 := V.g 5 111 rfl rfl (by kernel_rfl); clear V O; go_simp; exact k _ (Grow.refl _)
        case s5_7 =>
         intro t w T V O K k; have p2 : t[108]? = some ?v5_2 := V.g 2 108 rfl rfl (by kernel_rfl); have p4 : t[110]? = some ?v5_4 := V.g 4 110 rfl rfl (by kernel_rfl); have p6 : t[112]? = some ?v5_6 := V.g 6 112 rfl rfl (by kernel_rfl); clear V O; go_simp; exact k _ (Grow.refl _)
        case s5_8 =>
         intro t w T V O K k; have p2 : t[108]? = some ?v5_2 := V.g 2 108 rfl rfl (by kernel_rfl); have p7 : t[113]? = some ?v5_7 := V.g 7 113 rfl rfl (by kernel_rfl); clear V O; go_simp; exact k _ (Grow.refl _)
        case s5_9 =>
         intro t w T V O K k; have p2 : t[108]? = some ?v5_2 := V.g 2 108 rfl rfl (by kernel_rfl); have p8 : t[114]? = some ?v5_8 := V.g 8 114 rfl rfl (by kernel_rfl); clear V O; go_simp; exact k _ (Grow.refl _)
        case s5_10 =>
         intro t w T V O K k; have p2 : t[108]? = some ?v5_2 := V.g 2 108 rfl rfl (by kernel_rfl); have p3 : t[109]? = some ?v5_3 := V.g 3 109 rfl rfl (by kernel_rfl); have p9 : t[115]? = some ?v5_9 := V.g 9 115 rfl rfl (by kernel_rfl); clear V O; go_simp; exact k _ (Grow.refl _)
        case s5_11 =>
         intro t w T V O K k; have p2 : t[108]? = some ?v5_2 := V.g 2 108 rfl rfl (by kernel_rfl); have o16 := O 16 _ (by kernel_rfl) rfl; clear V O; go_simp; exact k _ (Grow.refl _)
        case s5_12 =>
         intro t w T V O K k; have p2 : t[108]? = some ?v5_2 := V.g 2 108 rfl rfl (by kernel_rfl); have p11 : t[117]? = some ?v5_11 := V.g 11 117 rfl rfl (by kernel_rfl); clear V O; go_simp; exact k _ (Grow.refl _)
        case s5_13 =>
         intro t w T V O K k; have p2 : t[108]? = some ?v5_2 := V.g 2 108 rfl rfl (by kernel_rfl); have o11 := O 11 _ (by kernel_rfl) rfl; clear V O; go_simp; exact k _ (Grow.refl _)
        case s5_14 =>
         intro t w T V O K k; have p2 : t[108]? = some ?v5_2 := V.g 2 108 rfl rfl (by kernel_rfl); have o13 := O 13 _ (by kernel_rfl) rfl; clear V O; go_simp; exact k _ (Grow.refl _)
        case s5_15 =>
         intro t w T V O K k; have p2 : t[108]? = some ?v5_2 := V.g 2 108 rfl rfl (by kernel_rfl); have o10 := O 10 _ (by kernel_rfl) rfl; clear V O; go_simp; exact k _ (Grow.refl _)
        case s5_16 =>
         intro t w T V O K k; have p2 : t[108]? = some ?v5_2 := V.g 2 108 rfl rfl (by kernel_rfl); have p14 : t[120]? = some ?v5_14 := V.g 14 120 rfl rfl (by kernel_rfl); have p15 : t[121]? = some ?v5_15 := V.g 15 121 rfl rfl (by kernel_rfl); clear V O; go_simp; exact k _ (Grow.refl _)
        case s5_17 =>
         intro t w T V O K k; have p2 : t[108]? = some ?v5_2 := V.g 2 108 rfl rfl (by kernel_rfl); have p16 : t[122]? = some ?v5_16 := V.g 16 122 rfl rfl (by kernel_rfl); clear V O; go_simp; exact k _ (Grow.refl _)
        case s5_18 =>
         intro t w T V O K k; have p2 : t[108]? = some ?v5_2 := V.g 2 108 rfl rfl (by kernel_rfl); have p13 : t[119]? = some ?v5_13 := V.g 13 119 rfl rfl (by kernel_rfl); have p17 : t[123]? = some ?v5_17 := V.g 17 123 rfl rfl (by kernel_rfl); clear V O; go_simp; exact k _ (Grow.refl _)
        case s5_19 =>
         intro t w T V O K k; have p2 : t[108]? = some ?v5_2 := V.g 2 108 rfl rfl (by kernel_rfl); have p18 : t[124]? = some ?v5_18 := V.g 18 124 rfl rfl (by kernel_rfl); clear V O; go_simp; exact k _ (Grow.refl _)
        case s5_20 =>
         intro t w T V O K k; have p2 : t[108]? = some ?v5_2 := V.g 2 108 rfl rfl (by kernel_rfl); have p19 : t[125]? = some ?v5_19 := V.g 19 125 rfl rfl (by kernel_rfl); clear V O; go_simp; exact k _ (Grow.refl _)
        case s5_21 =>
         intro t w T V O K k; have p2 : t[108]? = some ?v5_2 := V.g 2 108 rfl rfl (by kernel_rfl); have p12 : t[118]? = some ?v5_12 := V.g 12 118 rfl rfl (by kernel_rfl); have p20 : t[126]? = some ?v5_20 := V.g 20 126 rfl rfl (by kernel_rfl); clear V O; go_simp; exact k _ (Grow.refl _)
        case s5_22 =>
         intro t w T V O K k; have p2 : t[108]? = some ?v5_2 := V.g 2 108 rfl rfl (by kernel_rfl); have p10 : t[116]? = some ?v5_10 := V.g 10 116 rfl rfl (by kernel_rfl); have p21 : t[127]? = some ?v5_21 := V.g 21 127 rfl rfl (by kernel_rfl); clear V O; go_simp; exact k _ (Grow.refl _)
        case s5_23 =>
         intro t w T V O K k; have p2 : t[108]? = some ?v5_2 := V.g 2 108 rfl rfl (by kernel_rfl); have p22 : t[128]? = some ?v5_22 := V.g 22 128 rfl rfl (by kernel_rfl); clear V O; go_simp; exact k _ (Grow.refl _)
        intro w9 hb9
        simp only [putAll, Act.put, List.setIfInBounds_toArray, List.set_cons_succ, List.set_cons_zero, List.getD_cons_succ, List.getD_cons_zero, Nat.reduceAdd, Nat.zero_add]
        obtain ⟨wz, rfl⟩ : ∃ wz : World, wz = w9 := ⟨_, rfl⟩; have hMv := hMz.below hb9; have hbv := hbz.trans (hb9.mono hbz.size); have f1' := below_cell hb9 f1; clear hb9 f0 f1 f2 g6 d0 d0' hMz hbz; have HE2 : Hid (W < (t1 + 1) * (n * 2 ^ s)) := by show _ < _; rw [HT1.out]; exact HX.out
        by_cases hbr : 4294967296 <= r1
        ·have ht1b : t1 < 4294967296 := est_break HS1.out hbr HTP.out; have HE : Hid (t1 * (n * 2 ^ s) < W + n * 2 ^ s) := est_exit HT2.out HT3.out HVLT.out hv1p (by decide) HS1.out (est_break' ht1b hb0 hbr) (by omega); have d3 : decide ((4294967296 : Int) <= (r1 : Int)) = true := decide_eq_true (by omega); have d4 : decide (4294967296 <= r1) = true := decide_eq_true hbr; clear hbr
         go_wp2_with fail
         go_meet
         exact ⟨t1, rfl, ht1b, HE2.out, HE.out, hMv⟩
        ·have d3 : decide ((4294967296 : Int) <= (r1 : Int)) = false := decide_eq_false (by omega); have d4 : decide (4294967296 <= r1) = false := decide_eq_false hbr; have hr1c : r1 < 4294967296 := by omega
         clear hbr
         go_wp2_with fail
         go_roundg t1
         case measure => have := HQ3.out; have := HT1.out; omega
         case rel => exact ⟨t1, r1, rfl, rfl, rfl, by omega, hr1c, HS1.out, HE2, hMv, hbv⟩
     case rest =>
      clear cU2 cV1 cV0 hMy; obtain ⟨t, rfl, htB, hE1, hE2, hMc⟩ := hcut; have HE1 := Lib.hid hE1; have HE2 := Lib.hid hE2; clear hE1 hE2; have hjl : j0 + 1 - k1 = h + 3 := by have := HJ0.out; omega
      have HLESS := Lib.hid (less_any gu k1 (h + 3) ((dw m).length + 1 - k1) t U (some ⟨bv, ov, none⟩) cv V wc hMc.u HDU.out (by omega) (by omega) (by rw [HVl.out]; omega) (by omega) (by unfold maxLen; omega) (hMc.v.mono fun k e => .inl e) HDV.out htB); rw [HVl.out] at HLESS
      go_wp2_with fail
      refine HLESS.out.mono ?_; clear HLESS; rintro e w6 ⟨bo, O, rfl, hbo, hwin, hDO, hval, hownO, hchg⟩; rw [HVV.out, HWIN.out, <- HW.out] at hval; have hM6 := hMc.setU hchg hownO; have hOl : O.length = U.length := hwin.len; have hOw := win_lt hDO (off := k1) (n1 := h + 3) (by omega); have HWI := Lib.hid hwin; have HDO := Lib.hid hDO; have hkq : k1 < Q.length := by omega
      rcases (show bo = 0 \/ bo = 1 by omega) with rfl | rfl
      ·obtain ⟨r1, r2⟩ := less_zero hval HE1.out; have hrd := div_round hwin (by omega) hOl (by have := HREST.out; exact this) (by rw [HWIN.out, <- HW.out]; exact r1) r2 hkq HI.out; have HRD := Lib.hid hrd; have HOL := Lib.hid hOl; have hcq := own_wcell hM6.q hkq; have hfq := hM6.q.frozen k1; have hM7 := hM6.setQ (i := k1) (x := t) (z := (t : Int)) rfl; clear hrd hOl hval hOw r1 r2 hchg hownO hMc hwin hDO hbo; have g9 : (t : Int) % 4294967296 = (t : Int) := by omega
       have hkql : (k1 : Int) < lq := by omega
       go_wp2_with fail
       go_roundg k1
       case measure => have := HQ.out; omega
       case rel => exact ⟨k1, _, O, Q.set k1 t, rfl, by omega, rfl, by omega, by rw [HOL.out]; exact HUl.out, by rw [List.length_set]; exact HQl.out, HDO, Dg.dig_set HDQ.out htB, HRD.out.1, HRD.out.2, hM7⟩
      ·have htp := less_pos hval hOw; obtain ⟨t1, rfl⟩ : ∃ t1, t = t1 + 1 := ⟨t - 1, by omega⟩; have HMORE := Lib.hid (more_any gu k1 (h + 3) ((dw m).length + 1 - k1) O (some ⟨bv, ov, none⟩) cv V w6 hM6.u hDO (by omega) (by omega) (by rw [HVl.out]; omega) (by omega) (by unfold maxLen; omega) (hM6.v.mono fun k e => .inl e) HDV.out); rw [HVl.out] at HMORE; have HVAL := Lib.hid hval; have HOW := Lib.hid hOw; have hOl1 : O.length <= U.length := by omega
       have hOl2 : U.length <= O.length := by omega
       clear hOl hval hOw hchg hownO hMc hwin hDO hbo htp
       go_wp2_with fail
       refine HMORE.out.mono ?_; clear HMORE; rintro e w7 ⟨rfl, cr, O2, hcr, hwin2, hDO2, hval2, hownO2, hchg2⟩; rw [HVV.out] at hval2; have hM8 := hM6.setU hchg2 hownO2; have hO2l : O2.length = O.length := hwin2.len; have hO2w := win_lt hDO2 (off := k1) (n1 := h + 3) (by omega); obtain ⟨r1, r2⟩ := less_one HVAL.out HOW.out HE2.out hval2 hO2w hcr; have hwin3 : Win U O2 k1 (h + 3) := ⟨by omega, by rw [hwin2.lo, HWI.out.lo], by rw [hwin2.hi, HWI.out.hi]⟩; have hrd := div_round hwin3 (by omega) (by omega) (by have := HREST.out; exact this) (by rw [HWIN.out, <- HW.out]; exact r1) r2 hkq HI.out; have HRD := Lib.hid hrd; have HOL : Hid (O2.length = U.length) := by show _ = _; omega
       have HDO2 := Lib.hid hDO2; have hcq := own_wcell hM8.q hkq; have hfq := hM8.q.frozen k1; have ht1B : t1 < 4294967296 := by omega
       have hM9 := hM8.setQ (i := k1) (x := t1) (z := (t1 : Int)) rfl; clear hrd hO2l hval2 hO2w r1 r2 hchg2 hownO2 hM6 hwin2 hwin3 hDO2 hcr; have g9 : (t1 : Int) % 4294967296 = (t1 : Int) := by omega
       have hkql : (k1 : Int) < lq := by omega
       go_wp2_with fail
       go_roundg k1
       case measure => have := HQ.out; omega
       case rel => exact ⟨k1, _, O2, Q.set k1 t1, rfl, by omega, rfl, by omega, by rw [HOL.out]; exact HUl.out, by rw [List.length_set]; exact HQl.out, HDO2, Dg.dig_set HDQ.out ht1B, HRD.out.1, HRD.out.2, hM9⟩
end Go.Proofs.YtjimfbmegmnocaaGreatDoor
