/- Parts of the proof: Wn. No condition of its own. -/
import Derived.Test.YtjimfbmegmnocaaGreatDoorWk
set_option linter.unusedSimpArgs false
set_option linter.unusedVariables false
set_option maxRecDepth 100000
set_option maxHeartbeats 4000000
namespace Go.Proofs.YtjimfbmegmnocaaGreatDoor
open Go.RowKit Dg

theorem ResK.below {C D : Cor} {a : Int} {B : Nat} {w w' : World} {e : Ending} (h : ResK C D a B w e) (hb : Below w.heap.size w w') : ResK C D a B w' e := by
 cases h with
 | arg h => exact .arg h
 | type h h2 => exact .type h h2
 | value h h2 h3 => exact .value h h2 h3
 | ok h h2 h3 v l hv hs hm => exact .ok h h2 h3 v l (EO.below hv hb) hs hm
theorem ResK.low {C D : Cor} {a : Int} {B B' : Nat} {w : World} {e : Ending} (h : ResK C D a B' w e) (hB : B <= B') : ResK C D a B w e := by
 cases h with
 | arg h => exact .arg h
 | type h h2 => exact .type h h2
 | value h h2 h3 => exact .value h h2 h3
 | ok h h2 h3 v l hv hs hm => exact .ok h h2 h3 v l (hv.weak' fun k hk => Nat.lt_of_lt_of_le hk hB) hs hm
structure KX (C D : Cor) (a : Int) (B : Nat) (l5 l6 l7 l8 l9 l10 : Bool) (v5 v6 v7 v8 v9 v10 : Value) (w : World) : Prop where
 h5 : l5 = true -> ResK C D a B w (.returned v5)
 h6 : l6 = true -> l5 = true /\ v6 = v5
 h7 : l7 = true -> l6 = true /\ ∃ x k, v6 = .tuple #[x, .int .i64 k] /\ v7 = x
 h8 : l8 = true -> l6 = true /\ ∃ x k, v6 = .tuple #[x, .int .i64 k] /\ v8 = .int .i64 k
 h9 : l9 = true -> l7 = true /\ v9 = v7
 h10 : l10 = true -> l8 = true /\ v10 = v8
 hs : B <= w.heap.size
section
variable {C D : Cor} {a : Int} {B : Nat} {l5 l6 l7 l8 l9 l10 : Bool} {v5 v6 v7 v8 v9 v10 z : Value} {w w' : World}
theorem KX.below (h : KX C D a B l5 l6 l7 l8 l9 l10 v5 v6 v7 v8 v9 v10 w) (hb : Below w.heap.size w w') : KX C D a B l5 l6 l7 l8 l9 l10 v5 v6 v7 v8 v9 v10 w' := ⟨fun e => (h.h5 e).below hb, h.h6, h.h7, h.h8, h.h9, h.h10, Nat.le_trans h.hs hb.size⟩
theorem KX.s5 (h : KX C D a B l5 l6 l7 l8 l9 l10 v5 v6 v7 v8 v9 v10 w) (e : l5 = false) (hb : Below w.heap.size w w') (hz : ResK C D a B w' (.returned z)) : KX C D a B true l6 l7 l8 l9 l10 z v6 v7 v8 v9 v10 w' :=
 ⟨fun _ => hz, (fun e' => by have := (h.h6 e').1; rw [e] at this; cases this), h.h7, h.h8, h.h9, h.h10, Nat.le_trans h.hs hb.size⟩
theorem KX.s6 (h : KX C D a B l5 l6 l7 l8 l9 l10 v5 v6 v7 v8 v9 v10 w) (e : l6 = false) (e5 : l5 = true) : KX C D a B l5 true l7 l8 l9 l10 v5 v5 v7 v8 v9 v10 w :=
 ⟨h.h5, (fun _ => ⟨e5, rfl⟩), (fun e' => by have := (h.h7 e').1; rw [e] at this; cases this), (fun e' => by have := (h.h8 e').1; rw [e] at this; cases this), h.h9, h.h10, h.hs⟩
theorem KX.tup (h : KX C D a B l5 l6 l7 l8 l9 l10 v5 v6 v7 v8 v9 v10 w) (e : l6 = true) : ∃ x k, v6 = .tuple #[x, .int .i64 k] := by
 obtain ⟨h1, h2⟩ := h.h6 e; obtain ⟨x, k, h3⟩ := (h.h5 h1).form
 injection h3 with h3
 exact ⟨x, k, h2.trans h3⟩
theorem KX.s7 (h : KX C D a B l5 l6 l7 l8 l9 l10 v5 v6 v7 v8 v9 v10 w) (e : l7 = false) (e6 : l6 = true) {x : Value} {k : Int} (hx : v6 = .tuple #[x, .int .i64 k]) : KX C D a B l5 l6 true l8 l9 l10 v5 v6 x v8 v9 v10 w :=
 ⟨h.h5, h.h6, (fun _ => ⟨e6, x, k, hx, rfl⟩), h.h8, (fun e' => by have := (h.h9 e').1; rw [e] at this; cases this), h.h10, h.hs⟩
theorem KX.s8 (h : KX C D a B l5 l6 l7 l8 l9 l10 v5 v6 v7 v8 v9 v10 w) (e : l8 = false) (e6 : l6 = true) {x : Value} {k : Int} (hx : v6 = .tuple #[x, .int .i64 k]) : KX C D a B l5 l6 l7 true l9 l10 v5 v6 v7 (.int .i64 k) v9 v10 w :=
 ⟨h.h5, h.h6, h.h7, (fun _ => ⟨e6, x, k, hx, rfl⟩), h.h9, (fun e' => by have := (h.h10 e').1; rw [e] at this; cases this), h.hs⟩
theorem KX.s9 (h : KX C D a B l5 l6 l7 l8 l9 l10 v5 v6 v7 v8 v9 v10 w) (e7 : l7 = true) : KX C D a B l5 l6 l7 l8 true l10 v5 v6 v7 v8 v7 v10 w := ⟨h.h5, h.h6, h.h7, h.h8, fun _ => ⟨e7, rfl⟩, h.h10, h.hs⟩
theorem KX.s10 (h : KX C D a B l5 l6 l7 l8 l9 l10 v5 v6 v7 v8 v9 v10 w) (e8 : l8 = true) : KX C D a B l5 l6 l7 l8 l9 true v5 v6 v7 v8 v9 v8 w := ⟨h.h5, h.h6, h.h7, h.h8, h.h9, fun _ => ⟨e8, rfl⟩, h.hs⟩
theorem KX.done (h : KX C D a B true true true true true true v5 v6 v7 v8 v9 v10 w) : ∃ k, v10 = .int .i64 k /\ ResK C D a B w (.returned (.tuple #[v9, .int .i64 k])) := by
 obtain ⟨-, e9⟩ := h.h9 rfl; obtain ⟨-, e10⟩ := h.h10 rfl; obtain ⟨-, x, k, e1, e2⟩ := h.h7 rfl; obtain ⟨-, y, k', e3, e4⟩ := h.h8 rfl; obtain ⟨-, e6⟩ := h.h6 rfl; rw [e1] at e3
 injection e3 with e3
 have e5 : x = y /\ k = k' := by simpa using e3
 refine ⟨k, by rw [e10, e4, e5.2], ?_⟩; rw [e9, e2, <- e1, e6]; exact h.h5 rfl
end
open Go in
theorem sliced_pre {P : Program} {t e : TypeId} {sz : Nat} (ht : P.underlying t = some (.slice e)) (hz : ∀ w, (sizeOf e).run P w = .ok sz w) (b off n c k : Nat) (hk : k <= c) (W : World) :
  (Instr.slice t (.slice (some ⟨b, off, none⟩) n c) none (some (.int .i64 (k : Int))) none).run P W = .ok (.slice (some ⟨b, off, none⟩) k c) W := by
 have ht' : P.underlying t = some (.slice (P.elem t)) := by simp [Program.elem, ht]
 have he : P.elem t = e := by simp [Program.elem, ht]
 rw [run_slice_h W t _ _ _ ht' .i64 _ (by omega) (by omega), he, hz]
 simp [Result.andThen, sliced, Addr.add]
theorem size_attr9 : ∀ w, (sizeOf 62).run Tryz.prog w = .ok 2 w := fun _ => by kernel_rfl
theorem AttrsO.first {S : Nat -> Prop} {w : World} {v : Value} {l : List (ByteArray × Bool)} (h : AttrsO S w v l) (h0 : 0 < l.length) {k : Nat} (hk : k <= l.length) :
  ∃ b off c, v = .slice (some ⟨b, off, none⟩) l.length c /\ k <= c /\ AttrsO S w (.slice (some ⟨b, off, none⟩) k c) (l.take k) := by
 obtain ⟨A, c, rfl, h1, h2, h⟩ := EO.form h; obtain ⟨b, off, rfl, -⟩ := AttrsO.get h h0; refine ⟨b, off, c, rfl, by omega, ?_⟩; obtain ⟨es, e1, A', c', e2, e3, e4, e5⟩ := h
 injection e2 with q1 q2 q3
 subst q1 q3; refine ⟨es.take k, e1.take k, _, c, by rw [List.length_take, Nat.min_eq_left hk], by rw [List.length_take]; omega, e4, fun j u hu => e5 j u ?_⟩; have : es.flatten = (es.take k).flatten ++ (es.drop k).flatten := by rw [<- List.flatten_append, List.take_append_drop]
 rw [this]; obtain ⟨hj, -⟩ := List.getElem?_eq_some_iff.1 hu; rw [List.getElem?_append_left hj]; exact hu
theorem fit_bare (l : List (ByteArray × Bool)) : FitC ⟨l, [], [], [], [], [], []⟩ := ⟨(fun r hr => nomatch hr), rfl, Nat.zero_le _⟩
def TwoC (gb : Nat) (w : World) : Prop := ∃ (C D : Cor) (a t x r n h s a' t' x' r' n' h' s' : Value), Own w gb 30 [a, t, x, r, n, h, s] /\ Own w (gb + 1) 30 [a', t', x', r', n', h', s'] /\ CorC (fun _ => False) w a t x r n h s C /\ CorC (fun _ => False) w a' t' x' r' n' h' s' D /\ FitC C /\ FitC D
theorem CorC.bare {S : Nat -> Prop} {w : World} {v : Value} {l : List (ByteArray × Bool)} (h : AttrsO S w v l) : CorC (fun _ => False) w v (.slice none 0 0) (.slice none 0 0) (.slice none 0 0) (.slice none 0 0) (.slice none 0 0) (.slice none 0 0) ⟨l, [], [], [], [], [], []⟩ :=
 ⟨EO.weak' h fun _ h => h.elim, EO.nil _ _ _ _, EO.nil _ _ _ _, EO.nil _ _ _ _, EO.nil _ _ _ _, EO.nil _ _ _ _, EO.nil _ _ _ _⟩
theorem errors_law (A : Option Addr) (l : List Int) (c : Nat) (vs : Value) (L : List (Int × Int)) (X : Int) (w : World) (hA : Ints w A l) (hl : l.length <= c) (hc : c <= maxLen) (hwf : ∀ x ∈ l, -9223372036854775808 <= x /\ x <= 9223372036854775807) (hL : SpansO (fun _ => False) w vs L) (hX1 : -9223372036854775808 <= X) (hX2 : X <= 9223372036854775807) (ht : Tab w) :
  Calls Tryz.prog 6 #[.slice A l.length c, vs, .int .i64 X] w fun e w' => e = .returned (.bool true) /\ Below w.heap.size w w' := by
 obtain ⟨Av, cv, rfl, u1, u2, hL⟩ := EO.form hL; unfold maxLen at u2; have T0 := Z' ht; obtain ⟨k4, hk4, hm4⟩ := mod_lit9 X 4 4 rfl hX1 hX2 (by decide) (by decide); obtain ⟨Z, hZ⟩ : ∃ Z, Z = X.tdiv 4 := ⟨_, rfl⟩; have hZ1 : -9223372036854775808 <= Z /\ Z <= 9223372036854775807 := by
  have h : (X.tdiv 4).natAbs = X.natAbs / 4 := Int.natAbs_tdiv X 4; rw [<- hZ] at h
  omega
 have zq : IntKind.i64.wrap (X.tdiv 4) = Z := by rw [<- hZ]; exact IntWalk.i64_in _ (by omega)
 obtain ⟨k5, hk5, hm5⟩ := mod_lit9 Z 4 4 rfl hZ1.1 hZ1.2 (by decide) (by decide); have HM4 := Z' hm4; have HM5 := Z' hm5; have HL := Z' hL; clear ht hm4 hm5 hX1 hX2 hL hZ hZ1
 go_enter Tryz.func6, Tryz.ntmps6
 by_cases hlen : 5 < L.length
 ·have d1 : decide ((5 : Int) < (L.length : Int)) = true := decide_eq_true (by omega); have d2 : decide (5 < L.length) = true := decide_eq_true hlen; clear hlen
  go_wp2
  go_ret
  exact ⟨rfl, Below.refl _ _⟩
 have d1 : decide ((5 : Int) < (L.length : Int)) = false := decide_eq_false (by omega); have d2 : decide (5 < L.length) = false := decide_eq_false hlen; clear hlen
 go_upto_region 3 with (fail)
 clear d1 d2
 go_wp2_with fail
 refine (new_any A l c w hA hl hc hwf).mono ?_; rintro e w1 ⟨rfl, ⟨l1, hT⟩, hb1⟩; have tp := TP.start hT; have HL1 := Z' (EO.later HL.out hb1); obtain ⟨p, hp⟩ : ∃ p, p = w.heap.size := ⟨_, rfl⟩; rw [<- hp] at tp HL1 |-; have HP := Z' hp; have hpl := tp.lt; have hbw : Below p w w1 := hp ▸ hb1; clear hT hb1 hA hl hc hwf hp HL
 go_wp2_with fail
 refine (corpus_lit9 w1 tp _ 4 rfl (by decide) (by decide)).mono ?_; rintro e w2 ⟨⟨v, C, rfl, ⟨a, t, x, r, n, h, s, rfl, q⟩, hM⟩, tp2, hc2⟩; have hw2 := hc2.size; have hbw2 : Below p w w2 := hbw.trans (hc2.below (fun k hk e => by omega) (by omega)); have HF := Z' (hM.fit (by decide)); have HQ2 := Z' (q.weak (T := fun k => k = p) fun k e => by omega); have HL2 := Z' (EO.chg' HL1.out (hc2.mono fun k _ e => .inr (by omega))); clear tp hc2 q hM hbw HL1
 go_wp2_with fail
 refine (corpus_lit9 w2 tp2 _ 4 rfl (by decide) (by decide)).mono ?_; rintro e w3 ⟨⟨v, D, rfl, ⟨a', t', x', r', n', h', s', rfl, q'⟩, hM⟩, tp3, hc3⟩; have hw3 := hc3.size; have hbw3 : Below p w w3 := hbw2.trans (hc3.below (fun k hk e => by omega) (by omega)); have HG := Z' (hM.fit (by decide)); have HQ3 := Z' ((HQ2.out.chg hc3).weak (T := fun _ => False) fun _ h => h.elim); have HR3 := Z' (q'.weak (T := fun _ => False) fun _ h => h.elim); have HL3 := Z' (EO.chg' HL2.out (hc3.mono fun k _ e => .inr (by omega))); clear tp2 tp3 hc3 q' hM hbw2 HQ2 HL2; obtain ⟨Aa, ca, rfl, -, -, -⟩ := EO.form HQ3.out.a; obtain ⟨At, ct, rfl, -, -, -⟩ := EO.form HQ3.out.t; obtain ⟨Ax, cx, rfl, -, -, -⟩ := EO.form HQ3.out.x; obtain ⟨Ar, cr, rfl, -, -, -⟩ := EO.form HQ3.out.r; obtain ⟨An, cn9, rfl, -, -, -⟩ := EO.form HQ3.out.n; obtain ⟨Ah, ch, rfl, -, -, -⟩ := EO.form HQ3.out.h; obtain ⟨As, cs, rfl, -, -, -⟩ := EO.form HQ3.out.s
 obtain ⟨Da, da, rfl, -, -, -⟩ := EO.form HR3.out.a; obtain ⟨Dt, dt, rfl, -, -, -⟩ := EO.form HR3.out.t; obtain ⟨Dx, dx, rfl, -, -, -⟩ := EO.form HR3.out.x; obtain ⟨Dr, dr, rfl, -, -, -⟩ := EO.form HR3.out.r; obtain ⟨Dn, dn, rfl, -, -, -⟩ := EO.form HR3.out.n; obtain ⟨Dh, dh, rfl, -, -, -⟩ := EO.form HR3.out.h; obtain ⟨Ds, ds, rfl, -, -, -⟩ := EO.form HR3.out.s; obtain ⟨o_b, o_d, hb5⟩ := new2 w3 [.slice Aa C.attrs.length ca, .slice At C.toks.length ct, .slice Ax C.texts.length cx, .slice Ar C.regs.length cr, .slice An C.nodes.length cn9, .slice Ah C.heads.length ch, .slice As C.rels.length cs] [.slice Da D.attrs.length da, .slice Dt D.toks.length dt, .slice Dx D.texts.length dx, .slice Dr D.regs.length dr, .slice Dn D.nodes.length dn, .slice Dh D.heads.length dh, .slice Ds D.rels.length ds] 30 30; have hs5 : ((w3.alloc (.cells #[.slice Aa C.attrs.length ca, .slice At C.toks.length ct, .slice Ax C.texts.length cx, .slice Ar C.regs.length cr, .slice An C.nodes.length cn9, .slice Ah C.heads.length ch, .slice As C.rels.length cs] 30)).alloc (.cells #[.slice Da D.attrs.length da, .slice Dt D.toks.length dt, .slice Dx D.texts.length dx, .slice Dr D.regs.length dr, .slice Dn D.nodes.length dn, .slice Dh D.heads.length dh, .slice Ds D.rels.length ds] 30)).heap.size = w3.heap.size + 1 + 1 := by simp
 have HQ5 := Z' ((HQ3.out.later hb5).weak (T := fun k => k = w3.heap.size \/ k = w3.heap.size + 1) fun k e => .inr (by omega)); have HR5 := Z' ((HR3.out.later hb5).weak (T := fun k => k = w3.heap.size \/ k = w3.heap.size + 1) fun k e => .inr (by omega)); have HL5 := Z' ((EO.chg' HL3.out (Chg.of_below hb5 fun k _ e => .inr (by have := HP.out; omega))).weak' (T := fun k => k = w3.heap.size \/ k = w3.heap.size + 1) fun k e => .inr (by have := HP.out; omega))
 go_upto_region 5 with (fail)
 generalize ((w3.alloc (.cells #[.slice Aa C.attrs.length ca, .slice At C.toks.length ct, .slice Ax C.texts.length cx, .slice Ar C.regs.length cr, .slice An C.nodes.length cn9, .slice Ah C.heads.length ch, .slice As C.rels.length cs] 30)).alloc (.cells #[.slice Da D.attrs.length da, .slice Dt D.toks.length dt, .slice Dx D.texts.length dx, .slice Dr D.regs.length dr, .slice Dn D.nodes.length dn, .slice Dh D.heads.length dh, .slice Ds D.rels.length ds] 30)) = w5 at o_b o_d hb5 hs5 HQ5 HR5 HL5 |-; generalize hg : w3.heap.size = gb at o_b o_d hs5 hw3 HQ5 HR5 HL5 |-; have hbw5 : Below p w w5 := hbw3.trans (hb5.mono (by omega)); have hpg : p < gb := by omega
 clear hb5 hbw3 HQ3 HR3 HL3 hg
 go_wp2_with fail
 refine (HM4.out _).mono ?_; rintro e w' ⟨rfl, rfl⟩
 go_upto_block 0 with (fail)
 go_cut [] (fun wx => TwoC gb wx /\ SpansO (fun _ => False) wx (.slice Av L.length cv) L /\ Below p w wx /\ gb + 1 < wx.heap.size)
 case first =>
  by_cases h1 : k4 = 1
  ·skip
   subst h1
   go_wp2_with fail
   refine (attributes_made (S := fun k => k = gb \/ k = gb + 1) w5 fun k hk => by omega).mono ?_; rintro e w6 ⟨⟨v, rfl, hv⟩, hb6⟩; have hw6 := hb6.size; have HQ6 := Z' (HQ5.out.below hb6); have HR6 := Z' (HR5.out.below hb6); have HL6 := Z' (EO.below HL5.out hb6); have o_b6 := o_b.below hb6 o_b.lt; have o_d6 := o_d.below hb6 o_d.lt; have hbw6 : Below p w w6 := hbw5.trans (hb6.mono (by omega)); obtain ⟨A9, c9, rfl, -, -, hv⟩ := EO.form hv; obtain ⟨r9_0, r9_1, r9_2, r9_3, r9_4, r9_5, r9_6⟩ := o_d6.cells7; obtain ⟨fr9_0, fr9_1, fr9_2, fr9_3, fr9_4, fr9_5, fr9_6⟩ := o_d6.frozens7; have oz := o_d6.set7' (.slice A9 atts9.length c9) (.slice none 0 0) (.slice none 0 0) (.slice none 0 0) (.slice none 0 0) (.slice none 0 0) (.slice none 0 0); have hcz : Chg (fun k => k = gb \/ k = gb + 1) w6 (((((((w6.setCell ⟨gb + 1, 0, none⟩ (.slice A9 atts9.length c9)).setCell ⟨gb + 1, 1, none⟩ (.slice none 0 0)).setCell ⟨gb + 1, 2, none⟩ (.slice none 0 0)).setCell ⟨gb + 1, 3, none⟩ (.slice none 0 0)).setCell ⟨gb + 1, 4, none⟩ (.slice none 0 0)).setCell ⟨gb + 1, 5, none⟩ (.slice none 0 0)).setCell ⟨gb + 1, 6, none⟩ (.slice none 0 0)) := (((((((Chg.refl _ w6).setCell (p := ⟨gb + 1, 0, none⟩) (.inr rfl) _).setCell (p := ⟨gb + 1, 1, none⟩) (.inr rfl) _).setCell (p := ⟨gb + 1, 2, none⟩) (.inr rfl) _).setCell (p := ⟨gb + 1, 3, none⟩) (.inr rfl) _).setCell (p := ⟨gb + 1, 4, none⟩) (.inr rfl) _).setCell (p := ⟨gb + 1, 5, none⟩) (.inr rfl) _).setCell (p := ⟨gb + 1, 6, none⟩) (.inr rfl) _
   have ow : Own (((((((w6.setCell ⟨gb + 1, 0, none⟩ (.slice A9 atts9.length c9)).setCell ⟨gb + 1, 1, none⟩ (.slice none 0 0)).setCell ⟨gb + 1, 2, none⟩ (.slice none 0 0)).setCell ⟨gb + 1, 3, none⟩ (.slice none 0 0)).setCell ⟨gb + 1, 4, none⟩ (.slice none 0 0)).setCell ⟨gb + 1, 5, none⟩ (.slice none 0 0)).setCell ⟨gb + 1, 6, none⟩ (.slice none 0 0)) (gb) 30 [.slice Aa C.attrs.length ca, .slice At C.toks.length ct, .slice Ax C.texts.length cx, .slice Ar C.regs.length cr, .slice An C.nodes.length cn9, .slice Ah C.heads.length ch, .slice As C.rels.length cs] := ((((((o_b6.far (p := ⟨gb + 1, 0, none⟩) (fun e => by have e : _ = _ := e; dsimp only at e; omega) _).far (p := ⟨gb + 1, 1, none⟩) (fun e => by have e : _ = _ := e; dsimp only at e; omega) _).far (p := ⟨gb + 1, 2, none⟩) (fun e => by have e : _ = _ := e; dsimp only at e; omega) _).far (p := ⟨gb + 1, 3, none⟩) (fun e => by have e : _ = _ := e; dsimp only at e; omega) _).far (p := ⟨gb + 1, 4, none⟩) (fun e => by have e : _ = _ := e; dsimp only at e; omega) _).far (p := ⟨gb + 1, 5, none⟩) (fun e => by have e : _ = _ := e; dsimp only at e; omega) _).far (p := ⟨gb + 1, 6, none⟩) (fun e => by have e : _ = _ := e; dsimp only at e; omega) _
   have HQ7 := Z' (HQ6.out.chg hcz); have HR7 := Z' (HR6.out.chg hcz); have HL7 := Z' ((EO.chg' HL6.out hcz).weak' (T := fun _ => False) fun _ h => h.elim); have HV7 := Z' (EO.chg' hv hcz); have hbz : Below p w (((((((w6.setCell ⟨gb + 1, 0, none⟩ (.slice A9 atts9.length c9)).setCell ⟨gb + 1, 1, none⟩ (.slice none 0 0)).setCell ⟨gb + 1, 2, none⟩ (.slice none 0 0)).setCell ⟨gb + 1, 3, none⟩ (.slice none 0 0)).setCell ⟨gb + 1, 4, none⟩ (.slice none 0 0)).setCell ⟨gb + 1, 5, none⟩ (.slice none 0 0)).setCell ⟨gb + 1, 6, none⟩ (.slice none 0 0)) := hbw6.trans (hcz.below (fun k hk e => by omega) (by omega)); have HSZ : Hid (gb + 1 < (((((((w6.setCell ⟨gb + 1, 0, none⟩ (.slice A9 atts9.length c9)).setCell ⟨gb + 1, 1, none⟩ (.slice none 0 0)).setCell ⟨gb + 1, 2, none⟩ (.slice none 0 0)).setCell ⟨gb + 1, 3, none⟩ (.slice none 0 0)).setCell ⟨gb + 1, 4, none⟩ (.slice none 0 0)).setCell ⟨gb + 1, 5, none⟩ (.slice none 0 0)).setCell ⟨gb + 1, 6, none⟩ (.slice none 0 0)).heap.size) := by show _ < _; have := hcz.size; omega
   have HOW := Z' ow; have HOZ := Z' oz; have HBZ := Z' hbz; clear ow oz hbz; clear HQ6 HR6 HL6 hcz hv o_b6 o_d6 hbw6 hb6
   go_wp2_with fail
   clear r9_0 r9_1 r9_2 r9_3 r9_4 r9_5 r9_6 fr9_0 fr9_1 fr9_2 fr9_3 fr9_4 fr9_5 fr9_6; generalize (((((((w6.setCell ⟨gb + 1, 0, none⟩ (.slice A9 atts9.length c9)).setCell ⟨gb + 1, 1, none⟩ (.slice none 0 0)).setCell ⟨gb + 1, 2, none⟩ (.slice none 0 0)).setCell ⟨gb + 1, 3, none⟩ (.slice none 0 0)).setCell ⟨gb + 1, 4, none⟩ (.slice none 0 0)).setCell ⟨gb + 1, 5, none⟩ (.slice none 0 0)).setCell ⟨gb + 1, 6, none⟩ (.slice none 0 0)) = wz at HOZ HOW HQ7 HR7 HL7 HV7 HBZ HSZ |-; have oz := HOZ.out; have ow := HOW.out; have hbz := HBZ.out; have hsz := HSZ.out; have htwo : TwoC gb wz := ⟨C, ⟨atts9, [], [], [], [], [], []⟩, _, _, _, _, _, _, _, _, _, _, _, _, _, _, ow, oz, HQ7.out.weak fun _ h => h.elim, CorC.bare HV7.out, HF.out, fit_bare _⟩
   go_meet
   exact ⟨htwo, HL7.out, hbz, hsz⟩
  by_cases h2 : k4 = 2
  ·skip
   subst h2
   go_wp2_with fail
   refine (attributes_made (S := fun k => k = gb \/ k = gb + 1) w5 fun k hk => by omega).mono ?_; rintro e w6 ⟨⟨v, rfl, hv⟩, hb6⟩; have hw6 := hb6.size; have HQ6 := Z' (HQ5.out.below hb6); have HR6 := Z' (HR5.out.below hb6); have HL6 := Z' (EO.below HL5.out hb6); have o_b6 := o_b.below hb6 o_b.lt; have o_d6 := o_d.below hb6 o_d.lt; have hbw6 : Below p w w6 := hbw5.trans (hb6.mono (by omega)); obtain ⟨b9, off9, c9, rfl, hk9, hv1⟩ := AttrsO.first hv (by decide) (k := 1) (by decide); have hsl := fun W => sliced_pre Tryz.underlying23 size_attr9 b9 off9 3 c9 1 hk9 W; have hsl' : ∀ W, (Instr.slice 23 (.slice (some ⟨b9, off9, none⟩) atts9.length c9) none (some (.int .i64 1)) none).run Tryz.prog W = .ok (.slice (some ⟨b9, off9, none⟩) 1 c9) W := hsl; obtain ⟨r9_0, r9_1, r9_2, r9_3, r9_4, r9_5, r9_6⟩ := o_d6.cells7; obtain ⟨fr9_0, fr9_1, fr9_2, fr9_3, fr9_4, fr9_5, fr9_6⟩ := o_d6.frozens7; have oz := o_d6.set7' (.slice (some ⟨b9, off9, none⟩) 1 c9) (.slice none 0 0) (.slice none 0 0) (.slice none 0 0) (.slice none 0 0) (.slice none 0 0) (.slice none 0 0)
   have hcz : Chg (fun k => k = gb \/ k = gb + 1) w6 (((((((w6.setCell ⟨gb + 1, 0, none⟩ (.slice (some ⟨b9, off9, none⟩) 1 c9)).setCell ⟨gb + 1, 1, none⟩ (.slice none 0 0)).setCell ⟨gb + 1, 2, none⟩ (.slice none 0 0)).setCell ⟨gb + 1, 3, none⟩ (.slice none 0 0)).setCell ⟨gb + 1, 4, none⟩ (.slice none 0 0)).setCell ⟨gb + 1, 5, none⟩ (.slice none 0 0)).setCell ⟨gb + 1, 6, none⟩ (.slice none 0 0)) := (((((((Chg.refl _ w6).setCell (p := ⟨gb + 1, 0, none⟩) (.inr rfl) _).setCell (p := ⟨gb + 1, 1, none⟩) (.inr rfl) _).setCell (p := ⟨gb + 1, 2, none⟩) (.inr rfl) _).setCell (p := ⟨gb + 1, 3, none⟩) (.inr rfl) _).setCell (p := ⟨gb + 1, 4, none⟩) (.inr rfl) _).setCell (p := ⟨gb + 1, 5, none⟩) (.inr rfl) _).setCell (p := ⟨gb + 1, 6, none⟩) (.inr rfl) _; have ow : Own (((((((w6.setCell ⟨gb + 1, 0, none⟩ (.slice (some ⟨b9, off9, none⟩) 1 c9)).setCell ⟨gb + 1, 1, none⟩ (.slice none 0 0)).setCell ⟨gb + 1, 2, none⟩ (.slice none 0 0)).setCell ⟨gb + 1, 3, none⟩ (.slice none 0 0)).setCell ⟨gb + 1, 4, none⟩ (.slice none 0 0)).setCell ⟨gb + 1, 5, none⟩ (.slice none 0 0)).setCell ⟨gb + 1, 6, none⟩ (.slice none 0 0)) (gb) 30 [.slice Aa C.attrs.length ca, .slice At C.toks.length ct, .slice Ax C.texts.length cx, .slice Ar C.regs.length cr, .slice An C.nodes.length cn9, .slice Ah C.heads.length ch, .slice As C.rels.length cs] := ((((((o_b6.far (p := ⟨gb + 1, 0, none⟩) (fun e => by have e : _ = _ := e; dsimp only at e; omega) _).far (p := ⟨gb + 1, 1, none⟩) (fun e => by have e : _ = _ := e; dsimp only at e; omega) _).far (p := ⟨gb + 1, 2, none⟩) (fun e => by have e : _ = _ := e; dsimp only at e; omega) _).far (p := ⟨gb + 1, 3, none⟩) (fun e => by have e : _ = _ := e; dsimp only at e; omega) _).far (p := ⟨gb + 1, 4, none⟩) (fun e => by have e : _ = _ := e; dsimp only at e; omega) _).far (p := ⟨gb + 1, 5, none⟩) (fun e => by have e : _ = _ := e; dsimp only at e; omega) _).far (p := ⟨gb + 1, 6, none⟩) (fun e => by have e : _ = _ := e; dsimp only at e; omega) _
   have HQ7 := Z' (HQ6.out.chg hcz); have HR7 := Z' (HR6.out.chg hcz); have HL7 := Z' ((EO.chg' HL6.out hcz).weak' (T := fun _ => False) fun _ h => h.elim); have HV7 := Z' (EO.chg' hv1 hcz); have hbz : Below p w (((((((w6.setCell ⟨gb + 1, 0, none⟩ (.slice (some ⟨b9, off9, none⟩) 1 c9)).setCell ⟨gb + 1, 1, none⟩ (.slice none 0 0)).setCell ⟨gb + 1, 2, none⟩ (.slice none 0 0)).setCell ⟨gb + 1, 3, none⟩ (.slice none 0 0)).setCell ⟨gb + 1, 4, none⟩ (.slice none 0 0)).setCell ⟨gb + 1, 5, none⟩ (.slice none 0 0)).setCell ⟨gb + 1, 6, none⟩ (.slice none 0 0)) := hbw6.trans (hcz.below (fun k hk e => by omega) (by omega)); have HSZ : Hid (gb + 1 < (((((((w6.setCell ⟨gb + 1, 0, none⟩ (.slice (some ⟨b9, off9, none⟩) 1 c9)).setCell ⟨gb + 1, 1, none⟩ (.slice none 0 0)).setCell ⟨gb + 1, 2, none⟩ (.slice none 0 0)).setCell ⟨gb + 1, 3, none⟩ (.slice none 0 0)).setCell ⟨gb + 1, 4, none⟩ (.slice none 0 0)).setCell ⟨gb + 1, 5, none⟩ (.slice none 0 0)).setCell ⟨gb + 1, 6, none⟩ (.slice none 0 0)).heap.size) := by show _ < _; have := hcz.size; omega
   have HOW := Z' ow; have HOZ := Z' oz; have HBZ := Z' hbz; clear ow oz hbz; clear HQ6 HR6 HL6 hcz hv hv1 o_b6 o_d6 hbw6 hb6
   go_wp2_with fail
   clear r9_0 r9_1 r9_2 r9_3 r9_4 r9_5 r9_6 fr9_0 fr9_1 fr9_2 fr9_3 fr9_4 fr9_5 fr9_6; generalize (((((((w6.setCell ⟨gb + 1, 0, none⟩ (.slice (some ⟨b9, off9, none⟩) 1 c9)).setCell ⟨gb + 1, 1, none⟩ (.slice none 0 0)).setCell ⟨gb + 1, 2, none⟩ (.slice none 0 0)).setCell ⟨gb + 1, 3, none⟩ (.slice none 0 0)).setCell ⟨gb + 1, 4, none⟩ (.slice none 0 0)).setCell ⟨gb + 1, 5, none⟩ (.slice none 0 0)).setCell ⟨gb + 1, 6, none⟩ (.slice none 0 0)) = wz at HOZ HOW HQ7 HR7 HL7 HV7 HBZ HSZ |-; have oz := HOZ.out; have ow := HOW.out; have hbz := HBZ.out; have hsz := HSZ.out; have htwo : TwoC gb wz := ⟨C, ⟨(atts9.take 1), [], [], [], [], [], []⟩, _, _, _, _, _, _, _, _, _, _, _, _, _, _, ow, oz, HQ7.out.weak fun _ h => h.elim, CorC.bare HV7.out, HF.out, fit_bare _⟩
   go_meet
   exact ⟨htwo, HL7.out, hbz, hsz⟩
  by_cases h3 : k4 = 3
  ·skip
   subst h3
   go_wp2_with fail
   refine (attributes_made (S := fun k => k = gb \/ k = gb + 1) w5 fun k hk => by omega).mono ?_; rintro e w6 ⟨⟨v, rfl, hv⟩, hb6⟩; have hw6 := hb6.size; have HQ6 := Z' (HQ5.out.below hb6); have HR6 := Z' (HR5.out.below hb6); have HL6 := Z' (EO.below HL5.out hb6); have o_b6 := o_b.below hb6 o_b.lt; have o_d6 := o_d.below hb6 o_d.lt; have hbw6 : Below p w w6 := hbw5.trans (hb6.mono (by omega)); obtain ⟨A9, c9, rfl, -, -, hv⟩ := EO.form hv; obtain ⟨r9_0, r9_1, r9_2, r9_3, r9_4, r9_5, r9_6⟩ := o_b6.cells7; obtain ⟨fr9_0, fr9_1, fr9_2, fr9_3, fr9_4, fr9_5, fr9_6⟩ := o_b6.frozens7; have oz := o_b6.set7' (.slice A9 atts9.length c9) (.slice none 0 0) (.slice none 0 0) (.slice none 0 0) (.slice none 0 0) (.slice none 0 0) (.slice none 0 0); have hcz : Chg (fun k => k = gb \/ k = gb + 1) w6 (((((((w6.setCell ⟨gb, 0, none⟩ (.slice A9 atts9.length c9)).setCell ⟨gb, 1, none⟩ (.slice none 0 0)).setCell ⟨gb, 2, none⟩ (.slice none 0 0)).setCell ⟨gb, 3, none⟩ (.slice none 0 0)).setCell ⟨gb, 4, none⟩ (.slice none 0 0)).setCell ⟨gb, 5, none⟩ (.slice none 0 0)).setCell ⟨gb, 6, none⟩ (.slice none 0 0)) := (((((((Chg.refl _ w6).setCell (p := ⟨gb, 0, none⟩) (.inl rfl) _).setCell (p := ⟨gb, 1, none⟩) (.inl rfl) _).setCell (p := ⟨gb, 2, none⟩) (.inl rfl) _).setCell (p := ⟨gb, 3, none⟩) (.inl rfl) _).setCell (p := ⟨gb, 4, none⟩) (.inl rfl) _).setCell (p := ⟨gb, 5, none⟩) (.inl rfl) _).setCell (p := ⟨gb, 6, none⟩) (.inl rfl) _
   have ow : Own (((((((w6.setCell ⟨gb, 0, none⟩ (.slice A9 atts9.length c9)).setCell ⟨gb, 1, none⟩ (.slice none 0 0)).setCell ⟨gb, 2, none⟩ (.slice none 0 0)).setCell ⟨gb, 3, none⟩ (.slice none 0 0)).setCell ⟨gb, 4, none⟩ (.slice none 0 0)).setCell ⟨gb, 5, none⟩ (.slice none 0 0)).setCell ⟨gb, 6, none⟩ (.slice none 0 0)) (gb + 1) 30 [.slice Da D.attrs.length da, .slice Dt D.toks.length dt, .slice Dx D.texts.length dx, .slice Dr D.regs.length dr, .slice Dn D.nodes.length dn, .slice Dh D.heads.length dh, .slice Ds D.rels.length ds] := ((((((o_d6.far (p := ⟨gb, 0, none⟩) (fun e => by have e : _ = _ := e; dsimp only at e; omega) _).far (p := ⟨gb, 1, none⟩) (fun e => by have e : _ = _ := e; dsimp only at e; omega) _).far (p := ⟨gb, 2, none⟩) (fun e => by have e : _ = _ := e; dsimp only at e; omega) _).far (p := ⟨gb, 3, none⟩) (fun e => by have e : _ = _ := e; dsimp only at e; omega) _).far (p := ⟨gb, 4, none⟩) (fun e => by have e : _ = _ := e; dsimp only at e; omega) _).far (p := ⟨gb, 5, none⟩) (fun e => by have e : _ = _ := e; dsimp only at e; omega) _).far (p := ⟨gb, 6, none⟩) (fun e => by have e : _ = _ := e; dsimp only at e; omega) _
   have HQ7 := Z' (HQ6.out.chg hcz); have HR7 := Z' (HR6.out.chg hcz); have HL7 := Z' ((EO.chg' HL6.out hcz).weak' (T := fun _ => False) fun _ h => h.elim); have HV7 := Z' (EO.chg' hv hcz); have hbz : Below p w (((((((w6.setCell ⟨gb, 0, none⟩ (.slice A9 atts9.length c9)).setCell ⟨gb, 1, none⟩ (.slice none 0 0)).setCell ⟨gb, 2, none⟩ (.slice none 0 0)).setCell ⟨gb, 3, none⟩ (.slice none 0 0)).setCell ⟨gb, 4, none⟩ (.slice none 0 0)).setCell ⟨gb, 5, none⟩ (.slice none 0 0)).setCell ⟨gb, 6, none⟩ (.slice none 0 0)) := hbw6.trans (hcz.below (fun k hk e => by omega) (by omega)); have HSZ : Hid (gb + 1 < (((((((w6.setCell ⟨gb, 0, none⟩ (.slice A9 atts9.length c9)).setCell ⟨gb, 1, none⟩ (.slice none 0 0)).setCell ⟨gb, 2, none⟩ (.slice none 0 0)).setCell ⟨gb, 3, none⟩ (.slice none 0 0)).setCell ⟨gb, 4, none⟩ (.slice none 0 0)).setCell ⟨gb, 5, none⟩ (.slice none 0 0)).setCell ⟨gb, 6, none⟩ (.slice none 0 0)).heap.size) := by show _ < _; have := hcz.size; omega
   have HOW := Z' ow; have HOZ := Z' oz; have HBZ := Z' hbz; clear ow oz hbz; clear HQ6 HR6 HL6 hcz hv o_b6 o_d6 hbw6 hb6
   go_wp2_with fail
   clear r9_0 r9_1 r9_2 r9_3 r9_4 r9_5 r9_6 fr9_0 fr9_1 fr9_2 fr9_3 fr9_4 fr9_5 fr9_6; generalize (((((((w6.setCell ⟨gb, 0, none⟩ (.slice A9 atts9.length c9)).setCell ⟨gb, 1, none⟩ (.slice none 0 0)).setCell ⟨gb, 2, none⟩ (.slice none 0 0)).setCell ⟨gb, 3, none⟩ (.slice none 0 0)).setCell ⟨gb, 4, none⟩ (.slice none 0 0)).setCell ⟨gb, 5, none⟩ (.slice none 0 0)).setCell ⟨gb, 6, none⟩ (.slice none 0 0)) = wz at HOZ HOW HQ7 HR7 HL7 HV7 HBZ HSZ |-; have oz := HOZ.out; have ow := HOW.out; have hbz := HBZ.out; have hsz := HSZ.out; have htwo : TwoC gb wz := ⟨⟨atts9, [], [], [], [], [], []⟩, D, _, _, _, _, _, _, _, _, _, _, _, _, _, _, oz, ow, CorC.bare HV7.out, HR7.out.weak fun _ h => h.elim, fit_bare _, HG.out⟩
   go_meet
   exact ⟨htwo, HL7.out, hbz, hsz⟩
  obtain rfl : k4 = 0 := by omega
  have hsz : gb + 1 < w5.heap.size := by omega
  go_wp2_with fail
  go_meet
  exact ⟨⟨C, D, _, _, _, _, _, _, _, _, _, _, _, _, _, _, o_b, o_d, HQ5.out.weak fun _ h => h.elim, HR5.out.weak fun _ h => h.elim, HF.out, HG.out⟩, HL5.out.weak' fun _ h => h.elim, hbw5, hsz⟩
 case rest =>
  clear HF HG HQ5 HR5 HL5 o_b o_d hbw5 HM4; obtain ⟨⟨E, F, a, t, x, r, n, h, s, a', t', x', r', n', h', s', o_b, o_d, q, q', hF, hG⟩, hS, hbc, hsc⟩ := hcut; have HF := Z' hF; have HG := Z' hG; have HS := Z' hS; have HQ := Z' q; have HR := Z' q'; clear hF hG hS q q'; obtain ⟨w5, hw5⟩ : ∃ x, x = wc := ⟨_, rfl⟩; rw [<- hw5] at o_b o_d HS HQ HR hbc hsc |-; clear hw5
  go_upto_region 12 with (fail)
  obtain ⟨Bk, hBk⟩ : ∃ B, B = w5.heap.size := ⟨_, rfl⟩; have HBk := Z' hBk; have hs9 : Bk <= w5.heap.size := Nat.le_of_eq hBk; have hgk : gb + 1 < Bk := by omega
  clear hBk; refine wp_reg_m (fun a b => Below Bk a b) (fun L u w8 => KX E F (k5 : Int) Bk (L 5) (L 6) (L 7) (L 8) (L 9) (L 10) (u 5) (u 6) (u 7) (u 8) (u 9) (u 10) w8) ((fun a => Below.refl _ a)) ((fun _ _ _ h h' => h.trans h')) [some 43, some 44, some 45, some 46, some 47, some 48, some 42, some 49, some 50, some 10, some 11] [isV ?v1_0, isV ?v1_1, isV ?v1_2, isV (.int .i64 Z), isV (.int .i64 (k5 : Int)), (fun _ _ => True), (fun _ _ => True), (fun _ _ => True), (fun _ _ => True), (fun _ _ => True), (fun _ _ => True)] rfl (by kernel_rfl) rfl rfl ?n1 ?k1 ⟨?s1_0, ?s1_1, ?s1_2, ?s1_3, ?s1_4, ?s1_5, ?s1_6, ?s1_7, ?s1_8, ?s1_9, ?s1_10, trivial⟩ ?p1
  case s1_0 =>
   intro L9 u9 t9 w9 hT9 hL9 hD9 hV9 hO9 hM9 K9 hK9; have o9_8 := hO9.l 8; clear hV9 hO9; clear hL9 hD9; obtain ⟨b9_0, b9_1, b9_2, b9_3, b9_4, b9_5, b9_6⟩ := (Own.below (w := w5.drew) o_b hT9 (by omega)).cells7; obtain ⟨d9_0, d9_1, d9_2, d9_3, d9_4, d9_5, d9_6⟩ := (Own.below (w := w5.drew) o_d hT9 (by omega)).cells7; go_simp
   (refine hK9 _ _ ((fun a => Below.refl _ a) w9) ?_ hM9; exact rfl)
  case s1_1 =>
   intro L9 u9 t9 w9 hT9 hL9 hD9 hV9 hO9 hM9 K9 hK9; have o9_9 := hO9.l 9; clear hV9 hO9; clear hL9 hD9; obtain ⟨b9_0, b9_1, b9_2, b9_3, b9_4, b9_5, b9_6⟩ := (Own.below (w := w5.drew) o_b hT9 (by omega)).cells7; obtain ⟨d9_0, d9_1, d9_2, d9_3, d9_4, d9_5, d9_6⟩ := (Own.below (w := w5.drew) o_d hT9 (by omega)).cells7; go_simp
   (refine hK9 _ _ ((fun a => Below.refl _ a) w9) ?_ hM9; exact rfl)
  case s1_2 =>
   intro L9 u9 t9 w9 hT9 hL9 hD9 hV9 hO9 hM9 K9 hK9; have o9_2 := hO9.l 2; clear hV9 hO9; clear hL9 hD9; go_simp
   (refine hK9 _ _ ((fun a => Below.refl _ a) w9) ?_ hM9; exact rfl)
  case s1_3 =>
   intro L9 u9 t9 w9 hT9 hL9 hD9 hV9 hO9 hM9 K9 hK9; have p9_2 : t9[45]? = some ?v1_2 := hV9.l 2 45; clear hV9 hO9; clear hL9 hD9; go_simp
   (refine hK9 _ _ ((fun a => Below.refl _ a) w9) ?_ hM9; exact rfl)
  case s1_4 =>
   intro L9 u9 t9 w9 hT9 hL9 hD9 hV9 hO9 hM9 K9 hK9; have p9_3 : t9[46]? = some ((.int .i64 Z)) := hV9.l 3 46; clear hV9 hO9; have hs8 := hM9.hs; go_simp; refine (HM5.out w9).mono ?_; rintro _ w8 ⟨rfl, rfl⟩; exact hK9 _ _ (Below.refl _ _) rfl hM9
  case s1_5 =>
   intro L9 u9 t9 w9 hT9 hL9 hD9 hV9 hO9 hM9 K9 hK9; have p9_0 : t9[43]? = some ?v1_0 := hV9.l 0 43; have p9_1 : t9[44]? = some ?v1_1 := hV9.l 1 44; have p9_4 : t9[47]? = some ((.int .i64 (k5 : Int))) := hV9.l 4 47; clear hV9 hO9; have q9a := (HQ.out.chg (Chg.refl (fun _ => False) w5).drew).chg (Chg.of_below hT9 fun k h1 h2 => by have h3 : k < w5.heap.size := h1; have := HBk.out; omega); have q9b := (HR.out.chg (Chg.refl (fun _ => False) w5).drew).chg (Chg.of_below hT9 fun k h1 h2 => by have h3 : k < w5.heap.size := h1; have := HBk.out; omega); go_simp; refine (keywords_any w9 q9a q9b HF.out HG.out (k5 : Int) (by omega)).mono ?_; rintro _ w8 ⟨hres, hb8⟩; obtain ⟨v9, k9, rfl⟩ := hres.form; exact hK9 _ _ (hb8.mono hM9.hs) trivial (hM9.s5 hL9 hb8 (hres.low hM9.hs))
  case s1_6 =>
   intro l u t w T L D V O M K k; obtain ⟨x5, p5, q5⟩ := V 5 48 rfl rfl (of_decide_eq_true (by kernel_rfl)); obtain ⟨q5, e5⟩ := q5; replace q5 : ((fun _ _ => True)) x5 w := q5; clear V O; have M9 := Z' (M.s6 L (D 5 rfl)); subst e5; clear M; go_simp; exact k _ _ (Below.refl _ _) trivial M9.out
  case s1_7 =>
   intro l u t w T L D V O M K k; obtain ⟨x9_6, p9_6, q9_6⟩ := V 6 42 rfl rfl (of_decide_eq_true (by kernel_rfl)); obtain ⟨q9_6, e9_6⟩ := q9_6; replace q9_6 : ((fun _ _ => True)) x9_6 w := q9_6; clear V O; obtain ⟨x9, k9, e9⟩ := M.tup (D 6 rfl); have M9 := Z' (M.s7 L (D 6 rfl) e9); rw [e9] at e9_6; subst e9_6; clear M e9; go_simp; exact k _ _ (Below.refl _ _) trivial M9.out
  case s1_8 =>
   intro l u t w T L D V O M K k; obtain ⟨x9_6, p9_6, q9_6⟩ := V 6 42 rfl rfl (of_decide_eq_true (by kernel_rfl)); obtain ⟨q9_6, e9_6⟩ := q9_6; replace q9_6 : ((fun _ _ => True)) x9_6 w := q9_6; clear V O; obtain ⟨x9, k9, e9⟩ := M.tup (D 6 rfl); have M9 := Z' (M.s8 L (D 6 rfl) e9); rw [e9] at e9_6; subst e9_6; clear M e9; go_simp; exact k _ _ (Below.refl _ _) trivial M9.out
  case s1_9 =>
   intro l u t w T L D V O M K k; obtain ⟨x7, p7, q7⟩ := V 7 49 rfl rfl (of_decide_eq_true (by kernel_rfl)); obtain ⟨q7, e7⟩ := q7; replace q7 : ((fun _ _ => True)) x7 w := q7; clear V O; have M9 := Z' (M.s9 (D 7 rfl)); subst e7; clear M; go_simp; exact k _ _ (Below.refl _ _) trivial M9.out
  case s1_10 =>
   intro l u t w T L D V O M K k; obtain ⟨x8, p8, q8⟩ := V 8 50 rfl rfl (of_decide_eq_true (by kernel_rfl)); obtain ⟨q8, e8⟩ := q8; replace q8 : ((fun _ _ => True)) x8 w := q8; clear V O; have M9 := Z' (M.s10 (D 8 rfl)); subst e8; clear M; go_simp; exact k _ _ (Below.refl _ _) trivial M9.out
  case n1 =>
   intro L9 u9 h9
   show KX E F (k5 : Int) Bk (L9 5) (L9 6) (L9 7) (L9 8) (L9 9) (L9 10) _ _ _ _ _ _ _
   rw [h9 5 (by decide)]; rw [h9 6 (by decide)]; rw [h9 7 (by decide)]; rw [h9 8 (by decide)]; rw [h9 9 (by decide)]; rw [h9 10 (by decide)]; exact ⟨(fun h => nomatch h), (fun h => nomatch h), (fun h => nomatch h), (fun h => nomatch h), (fun h => nomatch h), (fun h => nomatch h), hs9⟩
  case k1 =>
   intro i9 v9 w9 x9 h9 g9
   match i9, h9 with
   | 0, h9 => exact h9
   | 1, h9 => exact h9
   | 2, h9 => exact h9
   | 3, h9 => exact h9
   | 4, h9 => exact h9
   | 5, h9 => (replace h9 : (fun _ _ => True) v9 w9 := h9); exact trivial
   | 6, h9 => (replace h9 : (fun _ _ => True) v9 w9 := h9); exact trivial
   | 7, h9 => (replace h9 : (fun _ _ => True) v9 w9 := h9); exact trivial
   | 8, h9 => (replace h9 : (fun _ _ => True) v9 w9 := h9); exact trivial
   | 9, h9 => (replace h9 : (fun _ _ => True) v9 w9 := h9); exact trivial
   | 10, h9 => (replace h9 : (fun _ _ => True) v9 w9 := h9); exact trivial
   | _ + 11, h9 => exact trivial
  intro u9 w9 hE9 hM9 hu9; have r9_0 : u9 0 = ?v1_0 := hu9 0 (by decide); have r9_1 : u9 1 = ?v1_1 := hu9 1 (by decide); have r9_2 : u9 2 = ?v1_2 := hu9 2 (by decide); have r9_3 : u9 3 = (.int .i64 Z) := hu9 3 (by decide); have r9_4 : u9 4 = (.int .i64 (k5 : Int)) := hu9 4 (by decide); have r9_5 : (fun _ _ => True) (u9 5) w9 := hu9 5 (by decide); have r9_6 : (fun _ _ => True) (u9 6) w9 := hu9 6 (by decide); have r9_7 : (fun _ _ => True) (u9 7) w9 := hu9 7 (by decide); have r9_8 : (fun _ _ => True) (u9 8) w9 := hu9 8 (by decide); have r9_9 : (fun _ _ => True) (u9 9) w9 := hu9 9 (by decide); have r9_10 : (fun _ _ => True) (u9 10) w9 := hu9 10 (by decide); clear hu9
  simp only [putAll, Act.put, List.setIfInBounds_toArray, List.set_cons_succ, List.set_cons_zero, List.getD_cons_succ, List.getD_cons_zero, Nat.reduceAdd, Nat.zero_add]
  simp only [r9_0, r9_1, r9_2, r9_3, r9_4]
  clear r9_0 r9_1 r9_2 r9_3 r9_4; obtain ⟨r1, er, hr1⟩ := hM9.done; rw [er]; obtain ⟨x1, hx1⟩ : ∃ x, x = u9 9 := ⟨_, rfl⟩; rw [<- hx1] at hr1 |-; have HK1 := Z' (HBk.out ▸ hr1); have hbk : Below w5.heap.size w5 w9 := HBk.out ▸ ((Below.refl Bk w5).drew.trans hE9); clear hM9 r9_5 r9_6 r9_7 r9_8 r9_9 r9_10 er hE9 hs9 hx1 hr1; have o_b6 := o_b.below hbk (by omega); have o_d6 := o_d.below hbk (by omega); have HQ6 := Z' (HQ.out.below hbk); have HR6 := Z' (HR.out.below hbk); have HS6 := Z' (EO.below HS.out hbk); have hbc6 : Below p w w9 := hbc.trans (hbk.mono (by omega)); have hsc6 : gb + 1 < w9.heap.size := by have := hbk.size; omega
  clear o_b o_d HQ HR HS hbc hsc hbk HBk hgk; obtain ⟨w6, hw6⟩ : ∃ x, x = w9 := ⟨_, rfl⟩; rw [<- hw6] at HK1 o_b6 o_d6 HQ6 HR6 HS6 hbc6 hsc6 |-; clear hw6; have o_b := o_b6; have o_d := o_d6; have HQ := HQ6; have HR := HR6; clear o_b6 o_d6 HQ6 HR6
  go_upto_region 13 with (fail)
  obtain ⟨Bk, hBk⟩ : ∃ B, B = w6.heap.size := ⟨_, rfl⟩; have HBk := Z' hBk; have hs9 : Bk <= w6.heap.size := Nat.le_of_eq hBk; have hgk : gb + 1 < Bk := by omega
  clear hBk; refine wp_reg_m (fun a b => Below Bk a b) (fun L u w8 => KX E F (k5 : Int) Bk (L 5) (L 6) (L 7) (L 8) (L 9) (L 10) (u 5) (u 6) (u 7) (u 8) (u 9) (u 10) w8) ((fun a => Below.refl _ a)) ((fun _ _ _ h h' => h.trans h')) [some 52, some 53, some 54, some 55, some 56, some 57, some 51, some 58, some 59, some 12, some 13] [isV ?v2_0, isV ?v2_1, isV ?v2_2, isV (.int .i64 Z), isV (.int .i64 (k5 : Int)), (fun _ _ => True), (fun _ _ => True), (fun _ _ => True), (fun _ _ => True), (fun _ _ => True), (fun _ _ => True)] rfl (by kernel_rfl) rfl rfl ?n2 ?k2 ⟨?s2_0, ?s2_1, ?s2_2, ?s2_3, ?s2_4, ?s2_5, ?s2_6, ?s2_7, ?s2_8, ?s2_9, ?s2_10, trivial⟩ ?p2
  case s2_0 =>
   intro L9 u9 t9 w9 hT9 hL9 hD9 hV9 hO9 hM9 K9 hK9; have o9_8 := hO9.l 8; clear hV9 hO9; clear hL9 hD9; obtain ⟨b9_0, b9_1, b9_2, b9_3, b9_4, b9_5, b9_6⟩ := (Own.below (w := w6.drew) o_b hT9 (by omega)).cells7; obtain ⟨d9_0, d9_1, d9_2, d9_3, d9_4, d9_5, d9_6⟩ := (Own.below (w := w6.drew) o_d hT9 (by omega)).cells7; go_simp
   (refine hK9 _ _ ((fun a => Below.refl _ a) w9) ?_ hM9; exact rfl)
  case s2_1 =>
   intro L9 u9 t9 w9 hT9 hL9 hD9 hV9 hO9 hM9 K9 hK9; have o9_9 := hO9.l 9; clear hV9 hO9; clear hL9 hD9; obtain ⟨b9_0, b9_1, b9_2, b9_3, b9_4, b9_5, b9_6⟩ := (Own.below (w := w6.drew) o_b hT9 (by omega)).cells7; obtain ⟨d9_0, d9_1, d9_2, d9_3, d9_4, d9_5, d9_6⟩ := (Own.below (w := w6.drew) o_d hT9 (by omega)).cells7; go_simp
   (refine hK9 _ _ ((fun a => Below.refl _ a) w9) ?_ hM9; exact rfl)
  case s2_2 =>
   intro L9 u9 t9 w9 hT9 hL9 hD9 hV9 hO9 hM9 K9 hK9; have o9_2 := hO9.l 2; clear hV9 hO9; clear hL9 hD9; go_simp
   (refine hK9 _ _ ((fun a => Below.refl _ a) w9) ?_ hM9; exact rfl)
  case s2_3 =>
   intro L9 u9 t9 w9 hT9 hL9 hD9 hV9 hO9 hM9 K9 hK9; have p9_2 : t9[54]? = some ?v2_2 := hV9.l 2 54; clear hV9 hO9; clear hL9 hD9; go_simp
   (refine hK9 _ _ ((fun a => Below.refl _ a) w9) ?_ hM9; exact rfl)
  case s2_4 =>
   intro L9 u9 t9 w9 hT9 hL9 hD9 hV9 hO9 hM9 K9 hK9; have p9_3 : t9[55]? = some ((.int .i64 Z)) := hV9.l 3 55; clear hV9 hO9; have hs8 := hM9.hs; go_simp; refine (HM5.out w9).mono ?_; rintro _ w8 ⟨rfl, rfl⟩; exact hK9 _ _ (Below.refl _ _) rfl hM9
  case s2_5 =>
   intro L9 u9 t9 w9 hT9 hL9 hD9 hV9 hO9 hM9 K9 hK9; have p9_0 : t9[52]? = some ?v2_0 := hV9.l 0 52; have p9_1 : t9[53]? = some ?v2_1 := hV9.l 1 53; have p9_4 : t9[56]? = some ((.int .i64 (k5 : Int))) := hV9.l 4 56; clear hV9 hO9; have q9a := (HQ.out.chg (Chg.refl (fun _ => False) w6).drew).chg (Chg.of_below hT9 fun k h1 h2 => by have h3 : k < w6.heap.size := h1; have := HBk.out; omega); have q9b := (HR.out.chg (Chg.refl (fun _ => False) w6).drew).chg (Chg.of_below hT9 fun k h1 h2 => by have h3 : k < w6.heap.size := h1; have := HBk.out; omega); go_simp; refine (keywords38_any w9 q9a q9b HF.out HG.out (k5 : Int) (by omega)).mono ?_; rintro _ w8 ⟨hres, hb8⟩; obtain ⟨v9, k9, rfl⟩ := hres.form; exact hK9 _ _ (hb8.mono hM9.hs) trivial (hM9.s5 hL9 hb8 (hres.low hM9.hs))
  case s2_6 =>
   intro l u t w T L D V O M K k; obtain ⟨x5, p5, q5⟩ := V 5 57 rfl rfl (of_decide_eq_true (by kernel_rfl)); obtain ⟨q5, e5⟩ := q5; replace q5 : ((fun _ _ => True)) x5 w := q5; clear V O; have M9 := Z' (M.s6 L (D 5 rfl)); subst e5; clear M; go_simp; exact k _ _ (Below.refl _ _) trivial M9.out
  case s2_7 =>
   intro l u t w T L D V O M K k; obtain ⟨x9_6, p9_6, q9_6⟩ := V 6 51 rfl rfl (of_decide_eq_true (by kernel_rfl)); obtain ⟨q9_6, e9_6⟩ := q9_6; replace q9_6 : ((fun _ _ => True)) x9_6 w := q9_6; clear V O; obtain ⟨x9, k9, e9⟩ := M.tup (D 6 rfl); have M9 := Z' (M.s7 L (D 6 rfl) e9); rw [e9] at e9_6; subst e9_6; clear M e9; go_simp; exact k _ _ (Below.refl _ _) trivial M9.out
  case s2_8 =>
   intro l u t w T L D V O M K k; obtain ⟨x9_6, p9_6, q9_6⟩ := V 6 51 rfl rfl (of_decide_eq_true (by kernel_rfl)); obtain ⟨q9_6, e9_6⟩ := q9_6; replace q9_6 : ((fun _ _ => True)) x9_6 w := q9_6; clear V O; obtain ⟨x9, k9, e9⟩ := M.tup (D 6 rfl); have M9 := Z' (M.s8 L (D 6 rfl) e9); rw [e9] at e9_6; subst e9_6; clear M e9; go_simp; exact k _ _ (Below.refl _ _) trivial M9.out
  case s2_9 =>
   intro l u t w T L D V O M K k; obtain ⟨x7, p7, q7⟩ := V 7 58 rfl rfl (of_decide_eq_true (by kernel_rfl)); obtain ⟨q7, e7⟩ := q7; replace q7 : ((fun _ _ => True)) x7 w := q7; clear V O; have M9 := Z' (M.s9 (D 7 rfl)); subst e7; clear M; go_simp; exact k _ _ (Below.refl _ _) trivial M9.out
  case s2_10 =>
   intro l u t w T L D V O M K k; obtain ⟨x8, p8, q8⟩ := V 8 59 rfl rfl (of_decide_eq_true (by kernel_rfl)); obtain ⟨q8, e8⟩ := q8; replace q8 : ((fun _ _ => True)) x8 w := q8; clear V O; have M9 := Z' (M.s10 (D 8 rfl)); subst e8; clear M; go_simp; exact k _ _ (Below.refl _ _) trivial M9.out
  case n2 =>
   intro L9 u9 h9
   show KX E F (k5 : Int) Bk (L9 5) (L9 6) (L9 7) (L9 8) (L9 9) (L9 10) _ _ _ _ _ _ _
   rw [h9 5 (by decide)]; rw [h9 6 (by decide)]; rw [h9 7 (by decide)]; rw [h9 8 (by decide)]; rw [h9 9 (by decide)]; rw [h9 10 (by decide)]; exact ⟨(fun h => nomatch h), (fun h => nomatch h), (fun h => nomatch h), (fun h => nomatch h), (fun h => nomatch h), (fun h => nomatch h), hs9⟩
  case k2 =>
   intro i9 v9 w9 x9 h9 g9
   match i9, h9 with
   | 0, h9 => exact h9
   | 1, h9 => exact h9
   | 2, h9 => exact h9
   | 3, h9 => exact h9
   | 4, h9 => exact h9
   | 5, h9 => (replace h9 : (fun _ _ => True) v9 w9 := h9); exact trivial
   | 6, h9 => (replace h9 : (fun _ _ => True) v9 w9 := h9); exact trivial
   | 7, h9 => (replace h9 : (fun _ _ => True) v9 w9 := h9); exact trivial
   | 8, h9 => (replace h9 : (fun _ _ => True) v9 w9 := h9); exact trivial
   | 9, h9 => (replace h9 : (fun _ _ => True) v9 w9 := h9); exact trivial
   | 10, h9 => (replace h9 : (fun _ _ => True) v9 w9 := h9); exact trivial
   | _ + 11, h9 => exact trivial
  intro u9 w9 hE9 hM9 hu9; have r9_0 : u9 0 = ?v2_0 := hu9 0 (by decide); have r9_1 : u9 1 = ?v2_1 := hu9 1 (by decide); have r9_2 : u9 2 = ?v2_2 := hu9 2 (by decide); have r9_3 : u9 3 = (.int .i64 Z) := hu9 3 (by decide); have r9_4 : u9 4 = (.int .i64 (k5 : Int)) := hu9 4 (by decide); have r9_5 : (fun _ _ => True) (u9 5) w9 := hu9 5 (by decide); have r9_6 : (fun _ _ => True) (u9 6) w9 := hu9 6 (by decide); have r9_7 : (fun _ _ => True) (u9 7) w9 := hu9 7 (by decide); have r9_8 : (fun _ _ => True) (u9 8) w9 := hu9 8 (by decide); have r9_9 : (fun _ _ => True) (u9 9) w9 := hu9 9 (by decide); have r9_10 : (fun _ _ => True) (u9 10) w9 := hu9 10 (by decide); clear hu9
  simp only [putAll, Act.put, List.setIfInBounds_toArray, List.set_cons_succ, List.set_cons_zero, List.getD_cons_succ, List.getD_cons_zero, Nat.reduceAdd, Nat.zero_add]
  simp only [r9_0, r9_1, r9_2, r9_3, r9_4]
  clear r9_0 r9_1 r9_2 r9_3 r9_4; obtain ⟨r2, er, hr2⟩ := hM9.done; rw [er]; obtain ⟨x2, hx2⟩ : ∃ x, x = u9 9 := ⟨_, rfl⟩; rw [<- hx2] at hr2 |-; have HK2 := Z' (HBk.out ▸ hr2); have hbk : Below w6.heap.size w6 w9 := HBk.out ▸ ((Below.refl Bk w6).drew.trans hE9); clear hM9 r9_5 r9_6 r9_7 r9_8 r9_9 r9_10 er hE9 hs9 hx2 hr2; obtain ⟨hr, ll, h1, h2⟩ := HK1.out.pair HK2.out hbk; have H1 := Z' h1; have H2 := Z' h2; subst hr; have o_b7 := o_b.below hbk (by omega); have HQ7 := Z' (HQ.out.below hbk); have HS7 := Z' (EO.below HS6.out hbk); have hbc7 : Below p w w9 := hbc6.trans (hbk.mono (by omega)); have hsc7 : gb + 1 < w9.heap.size := by have := hbk.size; omega
  clear o_b o_d HQ HR HS6 hbc6 hsc6 hbk HBk hgk HK1 HK2 h1 h2 HG; obtain ⟨w7, hw7⟩ : ∃ x, x = w9 := ⟨_, rfl⟩; rw [<- hw7] at H1 H2 o_b7 HQ7 HS7 hbc7 hsc7 |-; clear hw7
  go_upto_region 14 with (fail)
  obtain ⟨b0, b1, b2, b3, b4, b5, b6⟩ := o_b7.cells7
  go_wp2_with fail
  clear b0 b1 b2 b3 b4 b5 b6; refine (collocates_any w7 HQ7.out HF.out HS7.out 2 0 (by decide)).mono ?_; rintro e w8 ⟨hres, hb8⟩; have hbc8 : Below p w w8 := hbc7.trans (hb8.mono (by omega)); have o_b8 := o_b7.below hb8 o_b7.lt; have HQ8 := Z' (HQ7.out.below hb8); have HS8 := Z' (EO.below HS7.out hb8); have H18 := Z' (EO.below H1.out hb8); have H28 := Z' (EO.below H2.out hb8); have hw8 := hb8.size; obtain ⟨v3, r3, rfl⟩ := hres.form; have HC := Z' hres; clear hres HQ7 HS7 o_b7 hb8 hbc7 H1 H2; obtain ⟨b0, b1, b2, b3, b4, b5, b6⟩ := o_b8.cells7
  go_wp2_with fail
  clear b0 b1 b2 b3 b4 b5 b6; refine (collocates38_any w8 HQ8.out HF.out HS8.out 2 0 (by decide)).mono ?_; rintro e w9 ⟨hres, hb9⟩; have hbc9 : Below p w w9 := hbc8.trans (hb9.mono (by omega)); have hw9 := hb9.size; obtain ⟨v4, r4, rfl⟩ := hres.form; obtain ⟨hr, l4, h3, h4⟩ := HC.out.pair hres hb9; have H19 := Z' (EO.below H18.out hb9); have H29 := Z' (EO.below H28.out hb9); have H3 := Z' h3; have H4 := Z' h4; subst hr; clear hres HC HQ8 HS8 o_b8 hb9 hbc8 h3 h4 H18 H28
  go_wp2_with fail
  refine (same38_any w9 _ (kwC_form _ _ _) H19.out H29.out).mono ?_; rintro e w10 ⟨rfl, hb10⟩; have hbc10 : Below p w w10 := hbc9.trans (hb10.mono (by omega)); have hw10 := hb10.size; have H310 := Z' (EO.below H3.out hb10); have H410 := Z' (EO.below H4.out hb10); have e1 : (r1 == r1) = true := by simp
  clear H19 H29 hbc9 hb10 H3 H4
  go_wp2_with fail
  refine (same38_any w10 _ (colC_form _ _ _) H310.out H410.out).mono ?_; rintro e w11 ⟨rfl, hb11⟩; have hbc11 : Below p w w11 := hbc10.trans (hb11.mono (by omega)); have hw11 := hb11.size; have e2 : (r3 == r3) = true := by simp
  clear hbc10 hb11 H310 H410
  go_wp2_with fail
  refine (known38_yes _ (T0.out.below (HP.out ▸ hbc11))).mono ?_; rintro e w12 ⟨rfl, hb12⟩; have hbc12 : Below p w w12 := hbc11.trans (hb12.mono (by omega))
  go_wp2
  go_ret
  exact ⟨rfl, HP.out ▸ hbc12⟩
end Go.Proofs.YtjimfbmegmnocaaGreatDoor
