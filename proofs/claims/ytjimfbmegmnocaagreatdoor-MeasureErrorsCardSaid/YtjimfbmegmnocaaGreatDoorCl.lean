/- Parts of the proof: Cl. No condition of its own. -/
import Derived.Test.YtjimfbmegmnocaaGreatDoorCj
import Derived.BigRegion
set_option linter.unusedSimpArgs false
set_option linter.unusedVariables false
set_option maxRecDepth 100000
set_option maxHeartbeats 4000000
namespace Go.Proofs.YtjimfbmegmnocaaGreatDoor
open Go.RowKit

theorem sameAttrs6_any {S T : Nat -> Prop} (w : World) {v z : Value} {l m : List (ByteArray × Bool)} (ha : AttrsO S w v l) (hb : AttrsO T w z m) :
  Calls Tryz.prog 50 #[v, z] w fun e w' => RetB (l = m) e /\ Below w.heap.size w w' := by
 obtain ⟨A, c, rfl, h1, h2, ha⟩ := EO.form ha; obtain ⟨A2, c2, rfl, h3, h4, hb⟩ := EO.form hb; unfold maxLen at h2 h4
 by_cases hlen : l.length = m.length
 ·skip
  have ue : (((l.length : Int) : Int) == ((m.length : Int) : Int)) = true := beq_iff_eq.2 (by omega); have ud : (((l.length : Int) : Int) != ((m.length : Int) : Int)) = false := by rw [bne_eq_false_iff_eq]; omega
  have une : ((l.length : Nat) == (m.length : Nat)) = true := beq_iff_eq.2 (by omega); have und : ((l.length : Nat) != (m.length : Nat)) = false := by rw [bne_eq_false_iff_eq]; omega
  have HL := Z' hlen; have hle : l.length <= m.length := by omega
  clear hlen
  go_enter Tryz.func50, Tryz.ntmps50
  go_wp2_with fail
  clear ue ud une und
  go_loopg [13] (l.length + 1) (fun q v wr => ∃ j : Nat, q = l.length + 1 - j /\ j <= l.length /\ v = .int .i64 (j : Int) /\ Hid (∀ i (h : i < l.length) (h' : i < m.length), i < j -> l[i] = m[i]) /\ Below w.heap.size w wr)
  case atStart => exact ⟨0, rfl, Nat.zero_le _, rfl, fun _ _ _ h => absurd h (Nat.not_lt_zero _), Below.refl _ _⟩
  case round =>
   obtain ⟨j, rfl, hj, rfl, HE, hbr⟩ := hrel; have hwr := hbr.size
   by_cases hlt : j < l.length
   ·have hlt' : j < m.length := by omega
    obtain ⟨b, off, rfl, -, k0, k1, -⟩ := AttrsO.get (EO.below ha hbr) hlt; obtain ⟨b2, off2, rfl, -, k2, k3, -⟩ := AttrsO.get (EO.below hb hbr) hlt'; obtain ⟨P, hP⟩ : ∃ P, P = l[j] := ⟨_, rfl⟩; obtain ⟨Q, hQ⟩ : ∃ Q, Q = m[j] := ⟨_, rfl⟩; rw [<- hP] at k0 k1; rw [<- hQ] at k2 k3; have HP := Z' hP; have HQ := Z' hQ; clear hP hQ; obtain ⟨p1, p2⟩ := P; obtain ⟨q1, q2⟩ := Q
    dsimp only at k0 k1 k2 k3
    go_upto_region 6 with (fail)
    by_cases he : p1 = q1 /\ p2 = q2
    ·obtain ⟨rfl, rfl⟩ := he; have d1 : (p1.toList == p1.toList) = true := by rw [str_beq]; exact decide_eq_true rfl
     refine wp_reg_f [some 16, some 17, some 18, some 19, some 20, some 21, some 22, some 23, some 24] [?v1_0, ?v1_1, ?v1_2, ?v1_3, ?v1_4, ?v1_5, ?v1_6, ?v1_7, ?v1_8] [[], [], [0, 1], [2], [], [], [4, 5], [6], [3, 7]] [(0, _), (1, _), (5, _)] ⟨rfl, rfl, rfl, trivial⟩ rfl (by kernel_rfl) rfl rfl (by kernel_rfl) (by kernel_rfl) ⟨?s1_0, ?s1_1, ?s1_2, ?s1_3, ?s1_4, ?s1_5, ?s1_6, ?s1_7, ?s1_8, trivial⟩ ?p1
     all_goals try (intro t9 w9 hT9 K9 hK9; simp only [OV, FV, List.getD_cons_succ, List.getD_cons_zero, Option.getD_some]; intros)
     case s1_0 | s1_1 | s1_2 | s1_3 | s1_4 | s1_5 | s1_6 | s1_7 | s1_8 =>
      have d9_0 := grow_cell hT9 k0; have d9_1 := grow_cell hT9 k1; have d9_2 := grow_cell hT9 k2; have d9_3 := grow_cell hT9 k3
      go_simp; exact hK9 _ (Grow.refl _)
     intro w9 hb9
     simp only [putL, Act.put, List.setIfInBounds_toArray, List.set_cons_succ, List.set_cons_zero]
     go_wp2
     go_roundg (l.length + 1 - (j + 1))
     case measure => omega
     case rel => exact ⟨j + 1, rfl, by omega, by go_num, fun i h h' hi => if e : i = j then by subst e; rw [<- HP.out, <- HQ.out] else HE.out i h h' (by omega), belowB hbr hwr hb9⟩
    ·have HNE : Hid (¬ l = m) := fun e => by
      subst e; have e9 := HP.out.trans HQ.out.symm
      injection e9 with e1 e2
      exact he ⟨e1, e2⟩
     by_cases h1 : p1 = q1
     ·have d0 : ¬ p2 = q2 := fun e => he ⟨h1, e⟩; clear he; subst h1; refine wp_reg_f [some 16, some 17, some 18, some 19, some 20, some 21, some 22, some 23, some 24] [?v2_0, ?v2_1, ?v2_2, ?v2_3, ?v2_4, ?v2_5, ?v2_6, ?v2_7, ?v2_8] [[], [], [0, 1], [2], [], [], [4, 5], [6], [3, 7]] [(0, _), (1, _), (5, _)] ⟨rfl, rfl, rfl, trivial⟩ rfl (by kernel_rfl) rfl rfl (by kernel_rfl) (by kernel_rfl) ⟨?s2_0, ?s2_1, ?s2_2, ?s2_3, ?s2_4, ?s2_5, ?s2_6, ?s2_7, ?s2_8, trivial⟩ ?p2
      all_goals try (intro t9 w9 hT9 K9 hK9; simp only [OV, FV, List.getD_cons_succ, List.getD_cons_zero, Option.getD_some]; intros)
      case s2_0 | s2_1 | s2_2 | s2_3 | s2_4 | s2_5 | s2_6 | s2_7 | s2_8 =>
       have d9_0 := grow_cell hT9 k0; have d9_1 := grow_cell hT9 k1; have d9_2 := grow_cell hT9 k2; have d9_3 := grow_cell hT9 k3
       go_simp; exact hK9 _ (Grow.refl _)
      intro w9 hb9
      simp only [putL, Act.put, List.setIfInBounds_toArray, List.set_cons_succ, List.set_cons_zero]
      clear d0
      go_wp2
      go_ret
      exact ⟨RetB.no HNE.out, belowB hbr hwr hb9⟩
     ·have d0 : ¬ p1.toList = q1.toList := fun e => h1 (bytes_ext (by rw [<- ByteArray.toList_eq, e, ByteArray.toList_eq])); clear he h1; refine wp_reg_f [some 16, some 17, some 18, some 19, some 20, some 21, some 22, some 23, some 24] [?v3_0, ?v3_1, ?v3_2, ?v3_3, ?v3_4, ?v3_5, ?v3_6, ?v3_7, ?v3_8] [[], [], [0, 1], [2], [], [], [4, 5], [6], [3, 7]] [(0, _), (1, _), (5, _)] ⟨rfl, rfl, rfl, trivial⟩ rfl (by kernel_rfl) rfl rfl (by kernel_rfl) (by kernel_rfl) ⟨?s3_0, ?s3_1, ?s3_2, ?s3_3, ?s3_4, ?s3_5, ?s3_6, ?s3_7, ?s3_8, trivial⟩ ?p3
      all_goals try (intro t9 w9 hT9 K9 hK9; simp only [OV, FV, List.getD_cons_succ, List.getD_cons_zero, Option.getD_some]; intros)
      case s3_0 | s3_1 | s3_2 | s3_3 | s3_4 | s3_5 | s3_6 | s3_7 | s3_8 =>
       have d9_0 := grow_cell hT9 k0; have d9_1 := grow_cell hT9 k1; have d9_2 := grow_cell hT9 k2; have d9_3 := grow_cell hT9 k3
       go_simp; exact hK9 _ (Grow.refl _)
      intro w9 hb9
      simp only [putL, Act.put, List.setIfInBounds_toArray, List.set_cons_succ, List.set_cons_zero]
      clear d0
      go_wp2
      go_ret
      exact ⟨RetB.no HNE.out, belowB hbr hwr hb9⟩
   ·go_wp2
    go_ret
    exact ⟨RetB.yes (List.ext_getElem HL.out fun i h h' => HE.out i h h' (by omega)), hbr⟩
 ·have HNE : Hid (¬ l = m) := fun e => hlen (by rw [e]); have ue : (((l.length : Int) : Int) == ((m.length : Int) : Int)) = false := beq_eq_false_iff_ne.2 (by omega); have ud : (((l.length : Int) : Int) != ((m.length : Int) : Int)) = true := by rw [bne_iff_ne]; omega
  have une : ((l.length : Nat) == (m.length : Nat)) = false := beq_eq_false_iff_ne.2 (by omega); have und : ((l.length : Nat) != (m.length : Nat)) = true := by rw [bne_iff_ne]; omega
  clear hlen
  go_enter Tryz.func50, Tryz.ntmps50
  go_wp2
  go_ret
  exact ⟨RetB.no HNE.out, Below.refl _ _⟩
def zstrs (n : Nat) : List Value := List.replicate n (.string ⟨#[]⟩)
theorem mk_strsT (k : Nat) (hk : k <= 1073741824) (W : World) : (Instr.makeSlice 28 (.int .i64 (k : Int)) (.int .i64 (k : Int))).run Tryz.prog W = .ok (.slice (some ⟨W.heap.size, 0, none⟩) k k) (W.alloc (.cells (zstrs k).toArray 9)) := by
 obtain ⟨i0, hi0, hz0, hz1, hz2⟩ := info_parts strg_info; have hr := run_make (P := Tryz.prog) W 28 9 i0 _ Tryz.underlying28 hi0 hz0 .i64 .i64 k k (by omega) (by omega) (by rw [hz2]; omega) (by omega); rw [hr, hz1]; have : madeCells (Value.string ⟨#[]⟩).cells k = (zstrs k).toArray := madeCells_one _ _
 simp only [Int.toNat_natCast, Nat.mul_one, this]
theorem Els.one1 {α : Type} {E : α -> List Value -> Prop} {f : α -> Value} {l : List α} (h : ∀ x ∈ l, E x [f x]) : Els 1 E (l.map fun x => [f x]) l := by
 refine ⟨by simp, fun e he => ?_, fun i e x h1 h2 => ?_⟩
 ·obtain ⟨x, -, rfl⟩ := List.mem_map.1 he; rfl
 ·rw [List.getElem?_map, h2] at h1
  injection h1 with h1
  subst h1; exact h x (List.mem_of_getElem? h2)
theorem flat1 {α : Type} (f : α -> Value) (l : List α) : (l.map fun x => [f x]).flatten = l.map f := by
 induction l with
 | nil => rfl
 | cons x l ih => simp only [List.map_cons, List.flatten_cons, ih]; rfl
theorem EO.of_block {α : Type} {S : Nat -> Prop} {w : World} {E : α -> List Value -> Prop} {f : α -> Value} {l : List α} {g : Nat} {t : TypeId} (ho : Own w g t (l.map f)) (hS : ¬ S g) (h : ∀ x ∈ l, E x [f x]) (hl : l.length <= maxLen) : EO S w 1 E (.slice (some ⟨g, 0, none⟩) l.length l.length) l := by
 refine ⟨_, Els.one1 h, some ⟨g, 0, none⟩, l.length, rfl, Nat.le_refl _, hl, ?_⟩; rw [flat1]; intro j u hu; exact ⟨g, 0, rfl, hS, by rw [Nat.zero_add, ho.cell]; exact hu⟩
structure AllH (C : Cor) (H : List Int) (R : List ByteArray) : Prop where
 some_ : 0 < C.heads.length -> H = C.heads /\ R = C.rels
 none : C.heads.length = 0 -> H = List.replicate C.toks.length (-1) /\ R = List.replicate C.toks.length ⟨#[]⟩
theorem allHeads6_any {S : Nat -> Prop} {a t x r n h s : Value} {C : Cor} (w : World) (q : CorC S w a t x r n h s C) (hS : ∀ k, S k -> k < w.heap.size) (hn : C.toks.length <= 1000000) :
  Calls Tryz.prog 52 #[.agg #[a, t, x, r, n, h, s]] w fun e w' => (∃ v z H R, e = .returned (.tuple #[v, z]) /\ IntsO S w' v H /\ StrsO S w' z R /\ AllH C H R) /\ Below w.heap.size w w' := by
 obtain ⟨A0, c0, rfl, u1, u2, -⟩ := EO.form q.t; obtain ⟨A, c, rfl, h1, h2, -⟩ := EO.form q.h; obtain ⟨A2, c2, rfl, h3, h4, -⟩ := EO.form q.s; obtain ⟨o_c, hbw⟩ := new1 w [a, .slice A0 C.toks.length c0, x, r, n, .slice A C.heads.length c, .slice A2 C.rels.length c2] 30; have q' := q.below hbw; have hsz : (w.alloc (.cells #[a, .slice A0 C.toks.length c0, x, r, n, .slice A C.heads.length c, .slice A2 C.rels.length c2] 30)).heap.size = w.heap.size + 1 := by simp
 go_enter Tryz.func52, Tryz.ntmps52
 go_upto_region 1 with (fail)
 generalize (w.alloc (.cells #[a, .slice A0 C.toks.length c0, x, r, n, .slice A C.heads.length c, .slice A2 C.rels.length c2] 30)) = wb at o_c hbw hsz q' |-; obtain ⟨B, hB⟩ : ∃ B, B = w.heap.size := ⟨_, rfl⟩; rw [<- hB] at o_c hsz hbw |-; have HB := Z' hB; clear hB; clear q; unfold maxLen at h2 h4 u2; have c_1 := o_c.c1; have c_5 := o_c.c5; have c_6 := o_c.c6
 by_cases h0 : 0 < C.heads.length
 ·have HA : Hid (AllH C C.heads C.rels) := ⟨fun _ => ⟨rfl, rfl⟩, fun h => absurd h (by omega)⟩; have d1 : decide ((0 : Int) < (C.heads.length : Int)) = true := decide_eq_true (by omega); have d1n : decide (0 < C.heads.length) = true := decide_eq_true (by omega); have HQH := Z' q'.h; have HQS := Z' q'.s; clear h0 c_1
  go_upto_region 2 with (fail)
  refine wp_reg_f [some 10, some 11, some 12, some 13, some 2, some 3] [?v4_0, ?v4_1, ?v4_2, ?v4_3, ?v4_4, ?v4_5] [[], [0], [], [2], [1], [3]] [(1, _)] ⟨rfl, trivial⟩ rfl (by kernel_rfl) rfl rfl (by kernel_rfl) (by kernel_rfl) ⟨?s4_0, ?s4_1, ?s4_2, ?s4_3, ?s4_4, ?s4_5, trivial⟩ ?p4
  all_goals try (intro t9 w9 hT9 K9 hK9; simp only [OV, FV, List.getD_cons_succ, List.getD_cons_zero, Option.getD_some]; intros)
  case s4_0 | s4_1 | s4_2 | s4_3 | s4_4 | s4_5 =>
   have d9_0 := grow_cell hT9 c_5; have d9_1 := grow_cell hT9 c_6
   go_simp; exact hK9 _ (Grow.refl _)
  intro w9 hb9
  simp only [putL, Act.put, List.setIfInBounds_toArray, List.set_cons_succ, List.set_cons_zero]
  go_wp2
  go_ret2
  exact ⟨⟨_, _, C.heads, C.rels, rfl, EO.below HQH.out hb9, EO.below HQS.out hb9, HA.out⟩, HB.out ▸ belowB hbw (by omega) hb9⟩
 ·have HA : Hid (AllH C (List.replicate C.toks.length (-1)) (List.replicate C.toks.length ⟨#[]⟩)) := ⟨fun h => absurd h h0, fun _ => ⟨rfl, rfl⟩⟩; have d1 : decide ((0 : Int) < (C.heads.length : Int)) = false := decide_eq_false (by omega); have d1n : decide (0 < C.heads.length) = false := decide_eq_false (by omega); have hmk := mk_intsT C.toks.length (by omega)
  go_wp2_with fail
  clear d1 d1n hmk c_1 c_5 c_6; obtain ⟨o_d, hbd⟩ := new1 wb (zeros C.toks.length) 3; have hbB0 := belowB hbw (by omega) hbd; have o_c0 := o_c.below hbd (by omega); have hgd := o_d.lt; generalize (wb.alloc (.cells (zeros C.toks.length).toArray 3)) = wd at o_d hbB0 o_c0 hgd |-; rw [hsz] at o_d hgd; clear o_c hbd
  go_loopg [20] (C.toks.length + 1) (fun q v wr => ∃ (j : Nat) (D : List Int), q = C.toks.length + 1 - j /\ j <= C.toks.length /\ v = .int .i64 (j : Int) /\ Hid (D.length = C.toks.length /\ ∀ i (h : i < D.length), i < j -> D[i] = -1) /\ Own wr (B + 1) 3 (ci D) /\ Below B w wr /\ B + 1 < wr.heap.size /\ Own wr B 30 [a, .slice A0 C.toks.length c0, x, r, n, .slice A C.heads.length c, .slice A2 C.rels.length c2])
  case atStart => exact ⟨0, List.replicate C.toks.length 0, rfl, Nat.zero_le _, rfl, ⟨by simp, fun _ _ h => absurd h (Nat.not_lt_zero _)⟩, o_d, hbB0, hgd, o_c0⟩
  case round =>
   clear o_d hbB0 hgd o_c0; obtain ⟨j, D, rfl, hj, rfl, HD, o_d, hbB, hgd, o_c⟩ := hrel
   by_cases hlt : j < C.toks.length
   ·have hjd : j < D.length := by rw [HD.out.1]; exact hlt
    have kd : wr.cell? ⟨B + 1, j, none⟩ = some (.int .i64 D[j]) := by rw [o_d.cell]; simp [ci, hjd]
    have fd := o_d.frozen j; generalize D[j] = xd at kd; have o_d3 := o_d.set_ j (.int .i64 (-1)); rw [ci_set9] at o_d3; have hb3 := hbB.setCell (p := ⟨B + 1, j, none⟩) (show B <= B + 1 by omega) (.int .i64 (-1)); have o_c3 := o_c.far (p := ⟨B + 1, j, none⟩) (show B ≠ B + 1 by omega) (.int .i64 (-1)); have hgd3 : B + 1 < (wr.setCell ⟨B + 1, j, none⟩ (.int .i64 (-1))).heap.size := by simp only [World.setCell, Array.size_modify]; omega
    have HD3 : Hid ((D.set j (-1)).length = C.toks.length /\ ∀ i (h : i < (D.set j (-1)).length), i < j + 1 -> (D.set j (-1))[i] = -1) := by
     refine ⟨by rw [List.length_set]; exact HD.out.1, fun i h hi => ?_⟩; rw [List.getElem_set]
     split
     ·rfl
     ·rename_i hne
      exact HD.out.2 i (by simpa using h) (by omega)
    clear o_d o_c hbB
    go_wp2
    go_roundg (C.toks.length + 1 - (j + 1))
    case measure => omega
    case rel => exact ⟨j + 1, D.set j (-1), rfl, by omega, by go_num, HD3, o_d3, hb3, hgd3, o_c3⟩
   ·have hD : Hid (D = List.replicate C.toks.length (-1)) := by
     show _ = _
     refine List.ext_getElem (by rw [HD.out.1]; simp) fun i h h' => ?_; rw [HD.out.2 i h (by rw [HD.out.1] at h; omega)]
     simp
    have c_1 := o_c.c1; have hmk := mk_strsT C.toks.length (by omega)
    go_upto_region 9 with (fail)
    go_region
    all_goals
     go_wp2
     go_ret2
     have N := new1 wr (zstrs C.toks.length) 9; have e1 : IntsO S (wr.alloc (.cells (zstrs C.toks.length).toArray 9)).drew (.slice (some ⟨B + 1, 0, none⟩) C.toks.length C.toks.length) (List.replicate C.toks.length (-1)) := by
      have o_d2 : Own (wr.alloc (.cells (zstrs C.toks.length).toArray 9)).drew (B + 1) 3 ((List.replicate C.toks.length (-1)).map (Value.int .i64)) := by
       have := o_d.below N.2 (by omega); rw [hD.out] at this; exact this
      have h9 := EO.of_block (S := S) (E := EInt) (f := Value.int .i64) o_d2 (fun h => by have := hS _ h; have := HB.out; omega) (fun x hx => by rw [List.eq_of_mem_replicate hx]; exact ⟨rfl, by decide, by decide⟩) (by rw [List.length_replicate]; unfold maxLen; omega); rw [List.length_replicate] at h9; exact h9
     have e2 : StrsO S (wr.alloc (.cells (zstrs C.toks.length).toArray 9)).drew (.slice (some ⟨wr.heap.size, 0, none⟩) C.toks.length C.toks.length) (List.replicate C.toks.length ⟨#[]⟩) := by
      have o_s : Own (wr.alloc (.cells (zstrs C.toks.length).toArray 9)).drew wr.heap.size 9 ((List.replicate C.toks.length ⟨#[]⟩).map Value.string) := by
       have := N.1; have e : (List.replicate C.toks.length (⟨#[]⟩ : ByteArray)).map Value.string = zstrs C.toks.length := by rw [List.map_replicate]; rfl
       rw [e]; exact this
      have h9 := EO.of_block (S := S) (E := EStr) (f := Value.string) o_s (fun h => by have := hS _ h; have := HB.out; omega) (fun x hx => by rw [List.eq_of_mem_replicate hx]; exact ⟨rfl, by unfold maxLen; decide⟩) (by rw [List.length_replicate]; unfold maxLen; omega); rw [List.length_replicate] at h9; exact h9
     exact ⟨⟨_, _, _, _, rfl, e1, e2, HA.out⟩, HB.out ▸ (belowB hbB (by omega) N.2).drew⟩
open Go in
theorem run_copy_k {P : Program} (w : World) (dT sT ty elem : TypeId) (k g o dLen dCap : Nat) (a : Addr) (sLen sCap : Nat) (cur : Array Value) (t : TypeId) (cs : List Value)
  (hu : P.underlying dT = some (.slice elem)) (hs : (P.info? elem).map (·.size) = some k)
  (hg : w.heap[g]? = some (.cells cur t (0, 0))) (hn : cs.length = Nat.min sLen dLen * k)
  (hsrc : ∀ j v, cs[j]? = some v -> w.cell? (a.add j) = some v) (hfit : o + cs.length <= cur.size) (h1 : ∀ v ∈ cs, v.oneCell' = true) :
  (Builtin.copy_ #[dT, sT] ty #[.slice (some ⟨g, o, none⟩) dLen dCap, .slice (some a) sLen sCap]).run P w =
   .ok (goInt (Nat.min sLen dLen)) (w.setRow g (cur.toList.take o ++ cs ++ cur.toList.drop (o + cs.length)).toArray) := by
 have hl := run_loadCells_list (P := P) w a cs hsrc; have hst := run_storeCells_at P g o t cs 0 cur w hg (by simpa using hfit) h1
 cases hq : P.info? elem with
 | none => simp [hq] at hs
 | some i =>
  have hi : i.size = k := by simpa [hq] using hs
  simp [Builtin.copy_, run_underlying hu, Builtin.lenOf, Builtin.firstCells, sizeOf, typeInfo, hq, hi, <- hn, hl, hst]
open Go in
theorem run_copy_0 {P : Program} (w : World) (dT sT ty elem : TypeId) (d a : Option Addr) (dLen dCap sLen sCap : Nat) (hu : P.underlying dT = some (.slice elem)) (hs : ((P.info? elem).map (·.size)).isSome = true) (hn : Nat.min sLen dLen = 0) :
  (Builtin.copy_ #[dT, sT] ty #[.slice d dLen dCap, .slice a sLen sCap]).run P w = .ok (.int .i64 0) w := by
 cases hq : P.info? elem with
 | none => simp [hq] at hs
 | some i =>
  have hl : ∀ (x : Addr), (loadCells x 0).run P w = .ok #[] w := fun x => by simpa using run_loadCells_list (P := P) w x [] (by simp)
  cases d <;> cases a <;> simp [Builtin.copy_, run_underlying hu, Builtin.lenOf, Builtin.firstCells, sizeOf, typeInfo, hq, hn, storeCells, hl, goInt]
theorem below_grown {w w' : World} (hb : Below w.heap.size w w') : w.grownBy w' none := ⟨hb.os, hb.tape, hb.output, hb.size, fun k hk _ => hb.block k hk⟩
theorem ownsRow_below {w w' : World} {base : Nat} {e : TypeId} {size : Nat} {v : Value} {n : Nat} {xs : List Value} (h : w.ownsRow base e size v n xs) (hb : Below w.heap.size w w') : w'.ownsRow base e size v n xs := by
 refine h.kept (below_grown hb) ?_
 cases v.ownBlock with
 | none => exact .inl rfl
 | some k => exact .inr (by simp)
theorem ownsRow_over {w : World} {base g cap n size : Nat} {e : TypeId} {xs ys cs : List Value} {cur : Array Value} {o : Nat} (h : w.ownsRow base e size (.slice (some ⟨g, 0, none⟩) n cap) n xs)
  (hg : w.heap[g]? = some (.cells cur e (0, 0))) (hfit : o + cs.length <= n * size) (hy : ys = xs.take o ++ cs ++ xs.drop (o + cs.length)) :
  (w.setRow g (cur.toList.take o ++ cs ++ cur.toList.drop (o + cs.length)).toArray).ownsRow base e size (.slice (some ⟨g, 0, none⟩) n cap) n ys := by
 rcases h.2 with ⟨h', _⟩ | ⟨g', cap', cur', h', hb, hg', hnc, hcm, hcs, htake⟩
 ·simp at h'
 ·simp only [Value.slice.injEq, Option.some.injEq, Addr.mk.injEq, and_true, true_and] at h'
  obtain ⟨rfl, rfl⟩ := h'; rw [hg] at hg'
  injection hg' with hg'
  injection hg' with hg'
  subst hg'; have hcl : cur.toList.length = cap * size := by rw [Array.length_toList, hcs]
  have hle : n * size <= cap * size := Nat.mul_le_mul_right _ hnc; have hxl : xs.length = n * size := h.1; have hlen : (cur.toList.take o ++ cs ++ cur.toList.drop (o + cs.length)).length = cap * size := by
   simp only [List.length_append, List.length_take, List.length_drop, hcl]; omega
  have hyl : ys.length = n * size := by
   rw [hy]; simp only [List.length_append, List.length_take, List.length_drop, hxl]; omega
  refine ⟨hyl, .inr ⟨g, cap, _, rfl, hb, setRow_heap w g cur _ e _ hg, hnc, hcm, by rw [List.size_toArray, hlen], ?_⟩⟩; rw [show ∀ l : List Value, l.toArray.toList = l from fun _ => rfl, hy, <- htake]
  apply List.ext_getElem?
  intro j
  simp only [List.getElem?_take, List.getElem?_append, List.length_append, List.length_take, List.length_drop, List.getElem?_drop, hcl]
  by_cases h1 : j < o
  ·repeat (first | rw [if_pos (by omega)] | rw [if_neg (by omega)])
  ·by_cases h2 : j < o + cs.length
   ·repeat (first | rw [if_pos (by omega)] | rw [if_neg (by omega)])
    try (congr 1; omega)
   ·by_cases h3 : j < n * size
    ·repeat (first | rw [if_pos (by omega)] | rw [if_neg (by omega)])
     try (congr 1; omega)
    ·repeat (first | rw [if_pos (by omega)] | rw [if_neg (by omega)])
theorem ESpn.one {S : Nat -> Prop} {w : World} {t : Spn} {e : List Value} (h : ESpn S w t e) : ∀ v ∈ e, v.oneCell' = true := by
 obtain ⟨m, rfl, -, -, -, hm⟩ := h; obtain ⟨A, c, rfl, -⟩ := EO.form hm; intro v hv
 simp at hv
 rcases hv with rfl | rfl | rfl | rfl <;> rfl
theorem flat_take {k : Nat} : ∀ {es : List (List Value)} (_ : ∀ e ∈ es, e.length = k) (n : Nat), es.flatten.take (n * k) = (es.take n).flatten := by
 intro es
 induction es with
 | nil => intro _ n; simp
 | cons e es ih =>
  intro h n
  cases n with
  | zero => simp
  | succ n =>
   have he := h e (by simp); rw [List.flatten_cons, List.take_append, he, List.take_of_length_le (by rw [he, Nat.add_mul]; omega), List.take_succ_cons, List.flatten_cons, <- ih (fun x hx => h x (by simp [hx])) n]
   congr 2
   rw [Nat.add_mul]; omega
theorem flat_drop {k : Nat} : ∀ {es : List (List Value)} (_ : ∀ e ∈ es, e.length = k) (n : Nat), es.flatten.drop (n * k) = (es.drop n).flatten := by
 intro es
 induction es with
 | nil => intro _ n; simp
 | cons e es ih =>
  intro h n
  cases n with
  | zero => simp
  | succ n =>
   have he := h e (by simp); rw [List.flatten_cons, List.drop_append, he, List.drop_eq_nil_of_le (by rw [he, Nat.add_mul]; omega), List.drop_succ_cons, <- ih (fun x hx => h x (by simp [hx])) n, List.nil_append]
   congr 1
   rw [Nat.add_mul]; omega
theorem set_four (P Q : List Value) (p q r s a b c d : Value) (o : Nat) (ho : P.length = o) :
  ((((P ++ [p, q, r, s] ++ Q).set o a).set (o + 1) b).set (o + 2) c).set (o + 3) d = P ++ [a, b, c, d] ++ Q := by
 subst ho
 simp only [List.append_assoc, List.cons_append, List.nil_append]
 rw [List.set_append_right _ _ (Nat.le_refl _), Nat.sub_self, List.set_append_right _ _ (by omega), List.set_append_right _ _ (by omega), List.set_append_right _ _ (by omega)]; have e1 : P.length + 1 - P.length = 1 := by omega
 have e2 : P.length + 2 - P.length = 2 := by omega
 have e3 : P.length + 3 - P.length = 3 := by omega
 rw [e1, e2, e3]
 rfl
theorem stored4 {w : World} {base g n cap : Nat} {e : TypeId} {P Q : List Value} {p q r s : Value} {o : Nat} (h : w.ownsRow base e 4 (.slice (some ⟨g, 0, none⟩) n cap) n (P ++ [p, q, r, s] ++ Q)) (ho : P.length = o) (a b c d : Value) :
  ((((w.setCell ⟨g, o, none⟩ a).setCell ⟨g, o + 1, none⟩ b).setCell ⟨g, o + 2, none⟩ c).setCell ⟨g, o + 3, none⟩ d).ownsRow base e 4 (.slice (some ⟨g, 0, none⟩) n cap) n (P ++ [a, b, c, d] ++ Q) := by
 have h1 := ((((h.stored o a).1.stored (o + 1) b).1.stored (o + 2) c).1.stored (o + 3) d).1; rw [set_four P Q p q r s a b c d o ho] at h1; exact h1
theorem four_cells {w : World} {base g n cap : Nat} {e : TypeId} {P Q : List Value} {p q r s : Value} {o : Nat} (h : w.ownsRow base e 4 (.slice (some ⟨g, 0, none⟩) n cap) n (P ++ [p, q, r, s] ++ Q)) (ho : P.length = o) :
  w.cell? ⟨g, o, none⟩ = some p /\ w.cell? ⟨g, o + 1, none⟩ = some q /\ w.cell? ⟨g, o + 2, none⟩ = some r /\ w.cell? ⟨g, o + 3, none⟩ = some s := by
 subst ho; have hl := h.1
 simp only [List.length_append, List.length_cons, List.length_nil] at hl
 refine ⟨?_, ?_, ?_, ?_⟩
 all_goals
  rw [h.cellAt _ (by omega), List.append_assoc, List.getElem?_append_right (by omega)]
 ·rw [Nat.sub_self]; rfl
 ·rw [Nat.add_sub_cancel_left]; rfl
 ·rw [Nat.add_sub_cancel_left]; rfl
 ·rw [Nat.add_sub_cancel_left]; rfl
theorem Els.ins {α : Type} {k : Nat} {E : α -> List Value -> Prop} {es : List (List Value)} {l : List α} (h : Els k E es l) {e : List Value} {x : α} (he : e.length = k) (hx : E x e) (n : Nat) : Els k E (es.take n ++ [e] ++ es.drop n) (l.take n ++ [x] ++ l.drop n) := by
 refine ((h.take n).app (Els.one he hx)).app ⟨by simp [h.len], fun e he => h.wide e (List.mem_of_mem_drop he), fun i e x h1 h2 => ?_⟩; rw [List.getElem?_drop] at h1 h2; exact h.each _ e x h1 h2
def fourL (es : List (List Value)) (k : Nat) : List Value := [(es.getD k []).getD 0 undef, (es.getD k []).getD 1 undef, (es.getD k []).getD 2 undef, (es.getD k []).getD 3 undef]
theorem fourL_eq {es : List (List Value)} (h : ∀ e ∈ es, e.length = 4) {k : Nat} (hk : k < es.length) : es[k] = fourL es k := by
 have h4 := h _ (List.getElem_mem hk); have e : es.getD k [] = es[k] := getD_at9 hk; unfold fourL; rw [e]; generalize es[k] = x at h4
 match x, h4 with
 | [a, b, c, d], _ => rfl
theorem below_setRow9 {B g : Nat} {w0 w : World} (hb : Below B w0 w) (hBg : B <= g) (cs : Array Value) : Below B w0 (w.setRow g cs) :=
 hb.trans ⟨rfl, rfl, rfl, by simp [World.setRow], fun k hk => setRow_other w g k cs (by omega)⟩
theorem reg_info : (Tryz.prog.info? 98).map (fun i => (i.zero, i.size, i.bytes)) = some (some (.agg #[.string ⟨#[]⟩, .int .i64 0, .int .i64 0, .slice none 0 0]), 4, 56) := by kernel_rfl
theorem reg_size : (Tryz.prog.info? 98).map (·.size) = some 4 := by kernel_rfl
theorem sortRegions6_any {S : Nat -> Prop} (w : World) {v : Value} {l : List Spn} (hv : SpnsO S w v l) (hS : ∀ k, S k -> k < w.heap.size) (hl : l.length <= 1000000) :
  Calls Tryz.prog 46 #[v] w fun e w' => (∃ z M, e = .returned z /\ SpnsO S w' z M) /\ Below w.heap.size w w' := by
 obtain ⟨i0, hi0, hz0, hz1, hz2⟩ := info_parts reg_info; obtain ⟨A, c, rfl, h1, h2, hv⟩ := EO.form hv; unfold maxLen at h2
 go_enter Tryz.func46, Tryz.ntmps46
 go_wp2_with fail
 go_loopg [3, 9] (l.length + 1) (fun q v3 v9 wr => ∃ (j : Nat) (M : List Spn) (es : List (List Value)), q = l.length + 1 - j /\ j <= l.length /\ M.length = j /\ v9 = .int .i64 (j : Int) /\ Hid (Els 4 (ESpn S w) es M) /\ wr.ownsRow w.heap.size 98 4 v3 M.length es.flatten /\ Below w.heap.size w wr)
 case atStart => exact ⟨0, [], [], rfl, Nat.zero_le _, rfl, rfl, Els.nil _ _, World.ownsRow_nil _ _ _ _, Below.refl _ _⟩
 case round =>
  obtain ⟨j, M, es, rfl, hj, hMj, rfl, HEL, hown, hbr⟩ := hrel; have hwr := hbr.size; have HOW := Z' hown; clear hown
  by_cases hlt : j < l.length
  ·obtain ⟨b, off, m, rfl, -, k0, k1, k2, k3, hm, sn, z1, z2⟩ := SpnsO.get hv hlt; obtain ⟨tx, htx⟩ : ∃ tx, tx = l[j] := ⟨_, rfl⟩; rw [<- htx] at k0 k1 k2 hm sn z1 z2; obtain ⟨nm, l0, h0, ks⟩ := tx; clear htx
   dsimp only at k0 k1 k2 hm sn z1 z2
   have HES : Hid (ESpn S w ⟨nm, l0, h0, ks⟩ [.string nm, .int .i64 l0, .int .i64 h0, m]) := ⟨m, rfl, sn, z1, z2, hm⟩; obtain ⟨Am, cm, rfl, g1, g2, hm⟩ := EO.form hm; replace k0 := below_cell hbr k0; replace k1 := below_cell hbr k1; replace k2 := below_cell hbr k2; replace k3 := below_cell hbr k3; obtain ⟨o_t, hbt⟩ := new1 wr [.string nm, .int .i64 l0, .int .i64 h0, .slice Am ks.length cm] 98; have hb2 := belowB hbr hwr hbt; have HO2 := Z' (ownsRow_below HOW.out hbt); have hgt := o_t.lt; have HNE := Z' (fun b9 hb9 => (HOW.out.lt b9 hb9).2); obtain ⟨A3, c3, rfl, hc1, hc2⟩ := own_form HOW.out; unfold maxLen at hc2
   go_upto_region 5 with (fail)
   generalize (wr.alloc (.cells #[.string nm, .int .i64 l0, .int .i64 h0, .slice Am ks.length cm] 98)) = wt at o_t hb2 HO2 hgt |-; clear k0 k1 k2 k3 hbt HOW hbr; generalize wr.heap.size = g at o_t hgt hwr HNE |-; have hlM : M.length <= l.length := by omega
   have HMJ := Z' hMj; clear hMj
   go_wp2_with fail
   go_loopg [6] (M.length + 1) (fun q v6 wx => ∃ k : Nat, q = k + 1 /\ k <= M.length /\ v6 = .int .i64 (k : Int) /\ Hid (wx.ownsRow w.heap.size 98 4 (.slice A3 M.length c3) M.length es.flatten) /\ Own wx g 98 [.string nm, .int .i64 l0, .int .i64 h0, .slice Am ks.length cm] /\ Below w.heap.size w wx /\ g < wx.heap.size)
   case atStart => exact ⟨M.length, rfl, Nat.le_refl _, rfl, HO2.out, o_t, hb2, hgt⟩
   case round =>
    clear o_t hb2 hgt HO2; obtain ⟨k, rfl, hk, rfl, HO2, o_t, hb2, hgt⟩ := hrel; obtain ⟨t0, t1, t2, t3⟩ := o_t.cells4
    go_upto_region 6 with (fail)
    go_cut [26] (fun s26 wx => ∃ bb : Bool, s26 = .bool bb /\ Hid (bb = true -> 0 < k) /\ Below wr.heap.size wr wx)
    case first =>
     rcases Nat.eq_zero_or_pos k with hk0 | hk0
     ·skip
      have dk : decide ((0 : Int) < (k : Int)) = false := decide_eq_false (by omega); have dkn : decide (0 < k) = false := decide_eq_false (by omega); clear hk0; refine wp_reg_f [some 15, some 16, some 17, some 18, some 19, some 20, some 21, some 22, some 23, some 24, some 25, some 26] [?v5_0, ?v5_1, ?v5_2, ?v5_3, ?v5_4, ?v5_5, ?v5_6, ?v5_7, ?v5_8, ?v5_9, ?v5_10, ?v5_11] [[], [0], [1], [2], [2], [2, 4], [2, 3, 5], [2, 6], [2], [2, 7, 8], [2, 9], [2, 10]] [(3, _), (5, _), (6, _)] ⟨rfl, rfl, rfl, trivial⟩ rfl (by kernel_rfl) rfl rfl (by kernel_rfl) (by kernel_rfl) ⟨?s5_0, ?s5_1, ?s5_2, ?s5_3, ?s5_4, ?s5_5, ?s5_6, ?s5_7, ?s5_8, ?s5_9, ?s5_10, ?s5_11, trivial⟩ ?p5
      all_goals try (intro t9 w9 hT9 K9 hK9; simp only [OV, FV, List.getD_cons_succ, List.getD_cons_zero, Option.getD_some]; intros)
      case s5_0 | s5_1 | s5_2 | s5_3 | s5_4 | s5_5 | s5_6 | s5_7 | s5_8 | s5_9 | s5_10 | s5_11 =>
       have d9_0 := grow_cell hT9 t0; have d9_1 := grow_cell hT9 t1; have d9_2 := grow_cell hT9 t2; have d9_3 := grow_cell hT9 t3
       go_simp; exact hK9 _ (Grow.refl _)
      intro w9 hb9
      simp only [putL, Act.put, List.setIfInBounds_toArray, List.set_cons_succ, List.set_cons_zero]
      go_wp2_with fail
      go_meet
      exact ⟨false, rfl, (fun h => nomatch h), hb9⟩
     ·have HK0 := Z' hk0; have dk : decide ((0 : Int) < (k : Int)) = true := decide_eq_true (by omega); have dkn : decide (0 < k) = true := decide_eq_true (by omega); have hkl : k - 1 < M.length := by omega
      obtain ⟨e9, he9, hw9, hE9⟩ := HEL.out.get hkl; obtain ⟨m9, rfl, -, -, -, hm9⟩ := hE9; obtain ⟨A9, c9, rfl, -, -, hm9⟩ := EO.form hm9; have hrd := Rd.of_own HO2.out; have HC9 : ∀ jj u, [Value.string M[k - 1].name, .int .i64 M[k - 1].lo, .int .i64 M[k - 1].hi, .slice A9 M[k - 1].keys.length c9][jj]? = some u -> ∃ b9 off9, A3 = some ⟨b9, off9, none⟩ /\ wr.cell? ⟨b9, off9 + ((k - 1) * 4 + jj), none⟩ = some u := fun jj u hu => hrd _ _ (flat_get HEL.out.wide (k - 1) _ jj u he9 hu); obtain ⟨b9, off9, rfl, v0⟩ := HC9 0 _ rfl; obtain ⟨b8, off8, e8, v1⟩ := HC9 1 _ rfl
      injection e8 with e8; injection e8 with e81 e82; subst e81 e82
      obtain ⟨b8, off8, e8, v2⟩ := HC9 2 _ rfl
      injection e8 with e8; injection e8 with e81 e82; subst e81 e82
      obtain ⟨b8, off8, e8, v3⟩ := HC9 3 _ rfl
      injection e8 with e8; injection e8 with e81 e82; subst e81 e82
      rw [<- Nat.add_assoc] at v0 v1 v2 v3; rw [Nat.add_zero] at v0; obtain ⟨V, hV⟩ : ∃ V, V = M[k - 1] := ⟨_, rfl⟩; rw [<- hV] at v0 v1 v2 v3 hm9; clear HC9 he9 hV hrd hw9; obtain ⟨p1, p2, p3, p4⟩ := V
      dsimp only at v0 v1 v2 v3 hm9
      have zk : IntKind.i64.wrap ((k : Int) - 1) = ((k - 1 : Nat) : Int) := (IntWalk.i64_in ((k : Int) - 1) (by omega)).trans (by omega); have HP1 : Hid (PairsO (fun k => S k \/ w.heap.size <= k) wr (.slice A9 p4.length c9) p4) := EO.later hm9 hb2; have HP2 : Hid (PairsO (fun k => S k \/ w.heap.size <= k) wr (.slice Am ks.length cm) ks) := EO.later hm hb2; have HCMP := Z' (fun (W : World) (h1 : PairsO (fun k => S k \/ w.heap.size <= k) W (.slice A9 p4.length c9) p4) (h2 : PairsO (fun k => S k \/ w.heap.size <= k) W (.slice Am ks.length cm) ks) => cmpRegions6_any W p1 nm p2 p3 l0 h0 p4 ks h1 h2); generalize cmpG ⟨p1, p2, p3, p4⟩ ⟨nm, l0, h0, ks⟩ = cm9 at HCMP; clear hk0 hm9
      rcases hgt9 : decide (0 < cm9) with _ | _
      ·skip
       refine wp_reg_f [some 15, some 16, some 17, some 18, some 19, some 20, some 21, some 22, some 23, some 24, some 25, some 26] [?v6_0, ?v6_1, ?v6_2, ?v6_3, ?v6_4, ?v6_5, ?v6_6, ?v6_7, ?v6_8, ?v6_9, ?v6_10, ?v6_11] [[], [0], [1], [2], [2], [2, 4], [2, 3, 5], [2, 6], [2], [2, 7, 8], [2, 9], [2, 10]] [(3, _), (5, _), (6, _)] ⟨rfl, rfl, rfl, trivial⟩ rfl (by kernel_rfl) rfl rfl (by kernel_rfl) (by kernel_rfl) ⟨?s6_0, ?s6_1, ?s6_2, ?s6_3, ?s6_4, ?s6_5, ?s6_6, ?s6_7, ?s6_8, ?s6_9, ?s6_10, ?s6_11, trivial⟩ ?p6
       all_goals try (intro t9 w9 hT9 K9 hK9; simp only [OV, FV, List.getD_cons_succ, List.getD_cons_zero, Option.getD_some]; intros)
       case s6_0 | s6_1 | s6_2 | s6_3 | s6_4 | s6_5 | s6_6 | s6_7 | s6_8 =>
        have d9_0 := grow_cell hT9 t0; have d9_1 := grow_cell hT9 t1; have d9_2 := grow_cell hT9 t2; have d9_3 := grow_cell hT9 t3; have d9_4 := grow_cell hT9 v0; have d9_5 := grow_cell hT9 v1; have d9_6 := grow_cell hT9 v2; have d9_7 := grow_cell hT9 v3
        go_simp; exact hK9 _ (Grow.refl _)
       case s6_9 =>
        go_simp
        first | exact hK9 _ (Grow.refl _) | (refine (HCMP.out _ (EO.below HP1.out hT9.of_drew) (EO.below HP2.out hT9.of_drew)).mono ?_; rintro _ w8 ⟨rfl, hb8⟩; exact hK9 _ hb8)
       case s6_10 | s6_11 =>
        have d9_0 := grow_cell hT9 t0; have d9_1 := grow_cell hT9 t1; have d9_2 := grow_cell hT9 t2; have d9_3 := grow_cell hT9 t3; have d9_4 := grow_cell hT9 v0; have d9_5 := grow_cell hT9 v1; have d9_6 := grow_cell hT9 v2; have d9_7 := grow_cell hT9 v3
        go_simp; exact hK9 _ (Grow.refl _)
       intro w9 hb9
       simp only [putL, Act.put, List.setIfInBounds_toArray, List.set_cons_succ, List.set_cons_zero]
       go_wp2_with fail
       go_meet
       exact ⟨_, rfl, (fun _ => HK0.out), hb9⟩
      ·skip
       refine wp_reg_f [some 15, some 16, some 17, some 18, some 19, some 20, some 21, some 22, some 23, some 24, some 25, some 26] [?v7_0, ?v7_1, ?v7_2, ?v7_3, ?v7_4, ?v7_5, ?v7_6, ?v7_7, ?v7_8, ?v7_9, ?v7_10, ?v7_11] [[], [0], [1], [2], [2], [2, 4], [2, 3, 5], [2, 6], [2], [2, 7, 8], [2, 9], [2, 10]] [(3, _), (5, _), (6, _)] ⟨rfl, rfl, rfl, trivial⟩ rfl (by kernel_rfl) rfl rfl (by kernel_rfl) (by kernel_rfl) ⟨?s7_0, ?s7_1, ?s7_2, ?s7_3, ?s7_4, ?s7_5, ?s7_6, ?s7_7, ?s7_8, ?s7_9, ?s7_10, ?s7_11, trivial⟩ ?p7
       all_goals try (intro t9 w9 hT9 K9 hK9; simp only [OV, FV, List.getD_cons_succ, List.getD_cons_zero, Option.getD_some]; intros)
       case s7_0 | s7_1 | s7_2 | s7_3 | s7_4 | s7_5 | s7_6 | s7_7 | s7_8 =>
        have d9_0 := grow_cell hT9 t0; have d9_1 := grow_cell hT9 t1; have d9_2 := grow_cell hT9 t2; have d9_3 := grow_cell hT9 t3; have d9_4 := grow_cell hT9 v0; have d9_5 := grow_cell hT9 v1; have d9_6 := grow_cell hT9 v2; have d9_7 := grow_cell hT9 v3
        go_simp; exact hK9 _ (Grow.refl _)
       case s7_9 =>
        go_simp
        first | exact hK9 _ (Grow.refl _) | (refine (HCMP.out _ (EO.below HP1.out hT9.of_drew) (EO.below HP2.out hT9.of_drew)).mono ?_; rintro _ w8 ⟨rfl, hb8⟩; exact hK9 _ hb8)
       case s7_10 | s7_11 =>
        have d9_0 := grow_cell hT9 t0; have d9_1 := grow_cell hT9 t1; have d9_2 := grow_cell hT9 t2; have d9_3 := grow_cell hT9 t3; have d9_4 := grow_cell hT9 v0; have d9_5 := grow_cell hT9 v1; have d9_6 := grow_cell hT9 v2; have d9_7 := grow_cell hT9 v3
        go_simp; exact hK9 _ (Grow.refl _)
       intro w9 hb9
       simp only [putL, Act.put, List.setIfInBounds_toArray, List.set_cons_succ, List.set_cons_zero]
       go_wp2_with fail
       go_meet
       exact ⟨_, rfl, (fun _ => HK0.out), hb9⟩
    case rest =>
     obtain ⟨bb, rfl, HBB, hb9⟩ := hcut; have hs9 := hb9.size; have hbB := belowB hb2 hb2.size hb9; have o_x := o_t.below hb9 (by omega); have HO3 := Z' (ownsRow_below HO2.out hb9); clear hb9 o_t hb2 HO2 t0 t1 t2 t3; obtain ⟨wp, hwp⟩ : ∃ wp : World, wp = wc := ⟨_, rfl⟩; rw [<- hwp] at o_x hbB HO3 hs9 |-; clear hwp
     cases bb
     ·have h63 : M.length + 1 <= maxLen := by unfold maxLen; omega
      have zk1 : IntKind.i64.wrap ((k : Int) + 1) = ((k + 1 : Nat) : Int) := (IntWalk.i64_in ((k : Int) + 1) (by omega)).trans (by omega)
      go_wp2_with (at_builtin; refine wpList_append_own_at _ rfl (.tmp 29) (.tmp 31) 26 rfl w.heap.size 98 i0 _ 4 56 Tryz.underlying26 hi0 hz0 hz1 hz2 rfl (by decide) _ M.length es.flatten rfl (HO3.out.alloc _) ⟨wp.heap.size, 0, none⟩ 1 1 [.string ⟨#[]⟩, .int .i64 0, .int .i64 0, .slice none 0 0] rfl rfl (new_cells _ _ _ _ rfl) (by simp [Value.oneCell']) h63 (by omega) (by rw [size1]; omega) ?_)
      intro v' wx hown' hgrow' hnil' hat'; have hbz := (hbB.alloc (by omega) (.cells #[.string ⟨#[]⟩, .int .i64 0, .int .i64 0, .slice none 0 0] 98)).grown hgrow' (by rw [size1]; omega) (fun jj hj => own_lt HO3.out jj hj); have hgx : g < wp.heap.size := by omega
      have hnv : Value.ownBlock (.slice A3 M.length c3) ≠ some g := fun e => absurd (HNE.out g e) (Nat.lt_irrefl _); have o_z : Own wx g 98 [.string nm, .int .i64 l0, .int .i64 h0, .slice Am ks.length cm] := (hgrow'.block g (by rw [size1]; omega) (fun e => hnv e.symm)).trans (o_x.alloc _); obtain ⟨gq, cq, rfl, -, hncq⟩ := World.ownsRow.form hown' (by omega); have hgq : gq ≠ g := by
       intro e; subst e
       rcases hat' with e | e
       ·exact hnv e.symm
       ·simp [Value.ownBlock] at e
        omega
      have hgqB : w.heap.size <= gq := own_lt hown' gq rfl; have hcq := own_form hown'; obtain ⟨_, _, ee, hn1, hn2⟩ := hcq
      injection ee with ee1 ee2 ee3
      subst ee3; clear ee1 ee2; unfold maxLen at hn2; have hsz3 := hgrow'.size; rw [size1] at hsz3; have HO' := Z' hown'; clear hown' hgrow' hnil' hat' HO3 h63 o_x hbB
      go_upto_region 9 with (fail)
      rcases (show k = M.length \/ k < M.length by omega) with hkM | hkM
      ·subst hkM; have hcp : ∀ (d a : Option Addr) (sl c c' : Nat) (W : World), (Builtin.copy_ #[26, 26] 3 #[.slice d 0 c, .slice a sl c']).run Tryz.prog W = .ok (.int .i64 0) W := fun d a sl c c' W => run_copy_0 W _ _ _ 98 d a 0 c sl c' Tryz.underlying26 (by rw [hi0]; rfl) (Nat.min_zero _); have hx9 : M.length + 1 - (M.length + 1) = 0 := by omega
       have HFX : Hid (wx.drew.ownsRow w.heap.size 98 4 (.slice (some ⟨gq, 0, none⟩) (M.length + 1) cq) (M.length + 1) (es.flatten ++ [.string ⟨#[]⟩, .int .i64 0, .int .i64 0, .slice none 0 0] ++ [])) := by
        show World.ownsRow _ _ _ _ _ _ _
        rw [List.append_nil]; exact HO'.out.drew
       have hPL : es.flatten.length = M.length * 4 := by rw [flat_length HEL.out.wide, HEL.out.len]
       have o_q : Own wx.drew g 98 [.string nm, .int .i64 l0, .int .i64 h0, .slice Am ks.length cm] := o_z; have hbq : Below w.heap.size w wx.drew := hbz.drew; have HFL : Hid ((es.take M.length ++ [[Value.string nm, Value.int .i64 l0, Value.int .i64 h0, Value.slice Am ks.length cm]] ++ es.drop M.length).flatten = es.flatten ++ [.string nm, .int .i64 l0, .int .i64 h0, .slice Am ks.length cm] ++ []) := by
        show _ = _
        rw [<- HEL.out.len, List.take_length, List.drop_length, List.append_nil, List.flatten_append, List.append_nil]
        simp
       clear o_z hbz
       by_cases hcap : cq = M.length + 1
       ·subst hcap
        go_region
        go_upto_region 10 with (fail)
        generalize wx.drew = wq at HFX o_q hbq |-; obtain ⟨f0, f1, f2, f3⟩ := four_cells HFX.out hPL; have r0 := HFX.out.frozenAt (M.length * 4); have r1 := HFX.out.frozenAt (M.length * 4 + 1); have r2 := HFX.out.frozenAt (M.length * 4 + 2); have r3 := HFX.out.frozenAt (M.length * 4 + 3); obtain ⟨t0, t1, t2, t3⟩ := o_q.cells4; have HST := Z' (stored4 HFX.out hPL (.string nm) (.int .i64 l0) (.int .i64 h0) (.slice Am ks.length cm)); have hbS := (((hbq.setCell (p := ⟨gq, M.length * 4, none⟩) hgqB (.string nm)).setCell (p := ⟨gq, M.length * 4 + 1, none⟩) hgqB (.int .i64 l0)).setCell (p := ⟨gq, M.length * 4 + 2, none⟩) hgqB (.int .i64 h0)).setCell (p := ⟨gq, M.length * 4 + 3, none⟩) hgqB (.slice Am ks.length cm); have hlen9 : (M.take M.length ++ [(⟨nm, l0, h0, ks⟩ : Spn)] ++ M.drop M.length).length = M.length + 1 := by simp only [List.length_append, List.length_take, List.length_drop, List.length_cons, List.length_nil]; omega
        have HL9 := Z' hlen9; clear HFX o_q hbq hlen9; have zj : IntKind.i64.wrap ((j : Int) + 1) = (j : Int) + 1 := IntWalk.i64_in _ (by omega)
        go_wp2
        go_roundg (l.length + 1 - (j + 1))
        case measure => omega
        case rel => exact ⟨j + 1, M.take M.length ++ [(⟨nm, l0, h0, ks⟩ : Spn)] ++ M.drop M.length, es.take M.length ++ [[Value.string nm, Value.int .i64 l0, Value.int .i64 h0, Value.slice Am ks.length cm]] ++ es.drop M.length, rfl, by omega, by rw [HL9.out]; have := HMJ.out; omega, by go_num, HEL.out.ins rfl HES.out M.length, by rw [HL9.out, HFL.out]; exact HST.out, hbS⟩
       ·skip
        go_region
        go_upto_region 10 with (fail)
        generalize wx.drew = wq at HFX o_q hbq |-; obtain ⟨f0, f1, f2, f3⟩ := four_cells HFX.out hPL; have r0 := HFX.out.frozenAt (M.length * 4); have r1 := HFX.out.frozenAt (M.length * 4 + 1); have r2 := HFX.out.frozenAt (M.length * 4 + 2); have r3 := HFX.out.frozenAt (M.length * 4 + 3); obtain ⟨t0, t1, t2, t3⟩ := o_q.cells4; have HST := Z' (stored4 HFX.out hPL (.string nm) (.int .i64 l0) (.int .i64 h0) (.slice Am ks.length cm)); have hbS := (((hbq.setCell (p := ⟨gq, M.length * 4, none⟩) hgqB (.string nm)).setCell (p := ⟨gq, M.length * 4 + 1, none⟩) hgqB (.int .i64 l0)).setCell (p := ⟨gq, M.length * 4 + 2, none⟩) hgqB (.int .i64 h0)).setCell (p := ⟨gq, M.length * 4 + 3, none⟩) hgqB (.slice Am ks.length cm); have hlen9 : (M.take M.length ++ [(⟨nm, l0, h0, ks⟩ : Spn)] ++ M.drop M.length).length = M.length + 1 := by simp only [List.length_append, List.length_take, List.length_drop, List.length_cons, List.length_nil]; omega
        have HL9 := Z' hlen9; clear HFX o_q hbq hlen9; have zj : IntKind.i64.wrap ((j : Int) + 1) = (j : Int) + 1 := IntWalk.i64_in _ (by omega)
        go_wp2
        go_roundg (l.length + 1 - (j + 1))
        case measure => omega
        case rel => exact ⟨j + 1, M.take M.length ++ [(⟨nm, l0, h0, ks⟩ : Spn)] ++ M.drop M.length, es.take M.length ++ [[Value.string nm, Value.int .i64 l0, Value.int .i64 h0, Value.slice Am ks.length cm]] ++ es.drop M.length, rfl, by omega, by rw [HL9.out]; have := HMJ.out; omega, by go_num, HEL.out.ins rfl HES.out M.length, by rw [HL9.out, HFL.out]; exact HST.out, hbS⟩
      ·rcases HO'.out.2 with ⟨hbad, _⟩ | ⟨gq', cq', cur, hform, -, hgq9, -, -, hcur, htake⟩
       ·simp at hbad
       simp only [Value.slice.injEq, Option.some.injEq, Addr.mk.injEq, and_true, true_and] at hform
       obtain ⟨rfl, rfl⟩ := hform; have hPL0 : es.flatten.length = M.length * 4 := by rw [flat_length HEL.out.wide, HEL.out.len]
       have hdl : (es.drop k).flatten.length = (M.length - k) * 4 := by rw [flat_length (fun e he => HEL.out.wide e (List.mem_of_mem_drop he)), List.length_drop, HEL.out.len]
       have hPL : (es.take k).flatten.length = k * 4 := by rw [flat_length (fun e he => HEL.out.wide e (List.mem_of_mem_take he)), List.length_take, HEL.out.len, Nat.min_eq_left (by omega)]
       have hone : ∀ v ∈ (es.drop k).flatten, v.oneCell' = true := by
        intro v hv9; obtain ⟨e9, he9, hve⟩ := List.mem_flatten.1 hv9; obtain ⟨i9, hi9, rfl⟩ := List.mem_iff_getElem.1 (List.mem_of_mem_drop he9); have hi8 : i9 < M.length := by rw [<- HEL.out.len]; exact hi9
        exact ESpn.one (HEL.out.each i9 _ _ (List.getElem?_eq_getElem hi9) (List.getElem?_eq_getElem hi8)) v hve
       have hsrc : ∀ jj v, (es.drop k).flatten[jj]? = some v -> wx.drew.cell? ((⟨gq, k * 4, none⟩ : Addr).add jj) = some v := by
        intro jj v hv9; rw [<- flat_drop HEL.out.wide k, List.getElem?_drop] at hv9; have := HO'.out.cells (g := gq) rfl (k * 4 + jj) v (by rw [List.getElem?_append_left]; exact hv9; rcases Nat.lt_or_ge (k * 4 + jj) es.flatten.length with h9 | h9; exact h9; rw [List.getElem?_eq_none h9] at hv9; cases hv9); rw [Addr.add_lit] at this |-
        simp only [Nat.zero_add] at this
        exact this
       have hmn : Nat.min (M.length + 1 - k) (M.length - k) = M.length - k := Nat.min_eq_right (by omega); have hcp := run_copy_k (P := Tryz.prog) wx.drew 26 26 3 98 4 gq ((k + 1) * 4) (M.length - k) (cq - (k + 1)) ⟨gq, k * 4, none⟩ (M.length + 1 - k) (cq - k) cur 98 (es.drop k).flatten Tryz.underlying26 reg_size hgq9 (by rw [hmn, hdl]) hsrc (by rw [hdl, hcur, <- Nat.add_mul]; exact Nat.mul_le_mul_right _ (by omega)) hone; rw [hmn] at hcp; have HFX : Hid ((wx.drew.setRow gq (cur.toList.take ((k + 1) * 4) ++ (es.drop k).flatten ++ cur.toList.drop ((k + 1) * 4 + (es.drop k).flatten.length)).toArray).ownsRow w.heap.size 98 4 (.slice (some ⟨gq, 0, none⟩) (M.length + 1) cq) (M.length + 1) ((es.take k).flatten ++ fourL es k ++ (es.drop k).flatten)) := by
        refine ownsRow_over HO'.out.drew hgq9 (by rw [hdl, <- Nat.add_mul]; exact Nat.mul_le_mul_right _ (by omega)) ?_; have hlt9 : k < es.length := by rw [HEL.out.len]; exact hkM
        rw [hdl, <- Nat.add_mul]; have e1 : k + 1 + (M.length - k) = M.length + 1 := by omega
        have e3 : (es.flatten ++ [Value.string ⟨#[]⟩, Value.int .i64 0, Value.int .i64 0, Value.slice none 0 0]).drop ((M.length + 1) * 4) = [] := List.drop_eq_nil_of_le (by rw [List.length_append, hPL0]; simp; omega); rw [e1, e3, List.append_nil, List.take_append_of_le_length (by rw [hPL0]; omega), flat_take HEL.out.wide (k + 1), List.take_succ_eq_append_getElem hlt9, List.flatten_append]; have e2 : [es[k]].flatten = fourL es k := by
         rw [List.flatten_singleton]; exact fourL_eq HEL.out.wide hlt9
        rw [e2]
       obtain ⟨x0, x1, x2, x3, hx4⟩ : ∃ x0 x1 x2 x3, fourL es k = [x0, x1, x2, x3] := ⟨_, _, _, _, rfl⟩; rw [hx4] at HFX; clear hx4; have hxne : gq ≠ g := hgq; have o_q : Own (wx.drew.setRow gq (cur.toList.take ((k + 1) * 4) ++ (es.drop k).flatten ++ cur.toList.drop ((k + 1) * 4 + (es.drop k).flatten.length)).toArray) g 98 [.string nm, .int .i64 l0, .int .i64 h0, .slice Am ks.length cm] := (setRow_other _ _ _ _ (fun e => hxne e.symm)).trans o_z; have hbq := below_setRow9 hbz.drew hgqB (cur.toList.take ((k + 1) * 4) ++ (es.drop k).flatten ++ cur.toList.drop ((k + 1) * 4 + (es.drop k).flatten.length)).toArray; have HFL : Hid ((es.take k ++ [[Value.string nm, Value.int .i64 l0, Value.int .i64 h0, Value.slice Am ks.length cm]] ++ es.drop k).flatten = (es.take k).flatten ++ [.string nm, .int .i64 l0, .int .i64 h0, .slice Am ks.length cm] ++ (es.drop k).flatten) := by
        show _ = _
        rw [List.flatten_append, List.flatten_append, List.flatten_singleton]
       have zk2 : decide (k + 1 <= cq) = true := decide_eq_true (by omega); have hq1 : ¬ cq = k + 1 := by omega
       have hq2 : ¬ cq = k := by omega
       generalize hR9 : (cur.toList.take ((k + 1) * 4) ++ (es.drop k).flatten ++ cur.toList.drop ((k + 1) * 4 + (es.drop k).flatten.length)).toArray = R9 at hcp HFX o_q hbq; clear hR9 o_z hbz hsrc hone hmn hgq9 hcur htake
       go_region
       go_upto_region 10 with (fail)
       generalize (wx.drew.setRow gq R9) = wq at HFX o_q hbq |-; obtain ⟨f0, f1, f2, f3⟩ := four_cells HFX.out hPL; have r0 := HFX.out.frozenAt (k * 4); have r1 := HFX.out.frozenAt (k * 4 + 1); have r2 := HFX.out.frozenAt (k * 4 + 2); have r3 := HFX.out.frozenAt (k * 4 + 3); obtain ⟨t0, t1, t2, t3⟩ := o_q.cells4; have HST := Z' (stored4 HFX.out hPL (.string nm) (.int .i64 l0) (.int .i64 h0) (.slice Am ks.length cm)); have hbS := (((hbq.setCell (p := ⟨gq, k * 4, none⟩) hgqB (.string nm)).setCell (p := ⟨gq, k * 4 + 1, none⟩) hgqB (.int .i64 l0)).setCell (p := ⟨gq, k * 4 + 2, none⟩) hgqB (.int .i64 h0)).setCell (p := ⟨gq, k * 4 + 3, none⟩) hgqB (.slice Am ks.length cm); have hlen9 : (M.take k ++ [(⟨nm, l0, h0, ks⟩ : Spn)] ++ M.drop k).length = M.length + 1 := by simp only [List.length_append, List.length_take, List.length_drop, List.length_cons, List.length_nil]; omega
       have HL9 := Z' hlen9; clear HFX o_q hbq hlen9; have zj : IntKind.i64.wrap ((j : Int) + 1) = (j : Int) + 1 := IntWalk.i64_in _ (by omega)
       go_wp2
       go_roundg (l.length + 1 - (j + 1))
       case measure => omega
       case rel => exact ⟨j + 1, M.take k ++ [(⟨nm, l0, h0, ks⟩ : Spn)] ++ M.drop k, es.take k ++ [[Value.string nm, Value.int .i64 l0, Value.int .i64 h0, Value.slice Am ks.length cm]] ++ es.drop k, rfl, by omega, by rw [HL9.out]; have := HMJ.out; omega, by go_num, HEL.out.ins rfl HES.out k, by rw [HL9.out, HFL.out]; exact HST.out, hbS⟩
     ·have hk0 := HBB.out (by trivial); have zk : IntKind.i64.wrap ((k : Int) - 1) = ((k - 1 : Nat) : Int) := (IntWalk.i64_in ((k : Int) - 1) (by omega)).trans (by omega)
      go_wp2
      go_roundg (k - 1 + 1)
      case measure => omega
      case rel => exact ⟨k - 1, rfl, by omega, by go_num, HO3.out, o_x, hbB, by omega⟩
  ·obtain ⟨A3, c3, rfl, hc1, hc2⟩ := own_form HOW.out
   go_wp2
   go_ret
   exact ⟨⟨_, M, rfl, es, HEL.out.mono (fun x e _ h => h.chg (Chg.grow9 hbr)), SO.of_own HOW.out (fun k hk h => absurd (hS k h) (by omega))⟩, hbr⟩
end Go.Proofs.YtjimfbmegmnocaaGreatDoor
