/- Parts of the proof: Qa, Cnh. No condition of its own. -/
import Derived.Test.YtjimfbmegmnocaaGreatDoorCma
import Derived.Test.YtjimfbmegmnocaaGreatDoorNm
set_option linter.unusedSimpArgs false
set_option linter.unusedVariables false
set_option maxRecDepth 100000
set_option maxHeartbeats 4000000
namespace Go.Proofs.YtjimfbmegmnocaaGreatDoor
open Go.RowKit

structure TP (T : Option Addr × List Int × Nat) (B : Nat) (w : World) (p : Nat) : Prop where
 tape : ∃ at_, Tape w p T.1 T.2.1 T.2.2 at_
 out : RdOut (fun k => k = p \/ B <= k) w T.1 (ci T.2.1)
 lt : p < B
 size : B <= w.heap.size
section
variable {T : Option Addr × List Int × Nat} {B B' p : Nat} {w w' : World}
theorem RdOut.weak9 {S S' : Nat -> Prop} {w : World} {A : Option Addr} {xs : List Value} (h : RdOut S w A xs) (hs : ∀ k, S' k -> S k) : RdOut S' w A xs := fun j u hu => let ⟨b, off, e, hn, hc⟩ := h j u hu; ⟨b, off, e, fun x => hn (hs _ x), hc⟩
theorem TP.up (h : TP T B w p) (hB : B <= B') (hB' : B' <= w.heap.size) : TP T B' w p := ⟨h.tape, h.out.weak9 fun k hk => hk.elim .inl fun e => .inr (by omega), by have := h.lt; omega, hB'⟩
theorem TP.keep (h : TP T B w p) (hc : Chg (fun k => B <= k) w w') : TP T B w' p := by
 obtain ⟨at_, ht⟩ := h.tape; have hr := RdOut.chg h.out (hc.mono fun k _ e => .inr e); exact ⟨⟨at_, hc.own ht.own (by have := h.lt; omega), hr.weak9 fun k => .inl, ht.le, ht.few, ht.wf⟩, hr, h.lt, Nat.le_trans h.size hc.size⟩
theorem TP.back (h : TP T B w p) {at_ : Nat} (ht : Tape w' p T.1 T.2.1 T.2.2 at_) (hc : Chg (fun k => k = p \/ B <= k) w w') : TP T B w' p := ⟨⟨at_, ht⟩, RdOut.chg h.out hc, h.lt, Nat.le_trans h.size hc.size⟩
theorem TP.below (h : TP T B w p) (hb : Below w.heap.size w w') : TP T B w' p := h.keep (Chg.grow9 hb)
theorem TP.drew (h : TP T B w p) : TP T B w.drew p := h.keep (Chg.refl _ _).drew
theorem TP.start {A : Option Addr} {l : List Int} {c at_ : Nat} (h : Tape w p A l c at_) : TP (A, l, c) w.heap.size w p := by
 refine ⟨⟨at_, h⟩, fun j u hu => ?_, h.own.lt, Nat.le_refl _⟩; obtain ⟨b, off, e, hn, hc⟩ := h.rd j u hu; exact ⟨b, off, e, fun x => x.elim hn fun x => by have := World.block_lt_of_cell? w _ hc; simp at this; omega, hc⟩
theorem next9 (T : Option Addr × List Int × Nat) (B p n : Nat) (i : Int) (hi : i = (n : Int)) (w : World) (h : TP T B w p) (hn : 0 < n) (hn2 : n <= 1000000) :
  Calls Tryz.prog 20 #[.pointer (some ⟨p, 0, none⟩), .int .i64 i] w fun e w' => ∃ r : Nat, e = .returned (.int .i64 (r : Int)) /\ r < n /\ TP T B w' p /\ Chg (fun k => k = p) w w' := by
 subst hi; obtain ⟨at_, ht⟩ := h.tape; refine (next_any p _ _ _ at_ n w ht hn hn2).mono ?_; rintro e w' ⟨r, at', rfl, hr, ht', hc⟩; exact ⟨r, rfl, hr, h.back ht' (hc.mono fun k _ => .inl), hc⟩
theorem ownsRow_chg {S : Nat -> Prop} {e : TypeId} {k n : Nat} {v : Value} {xs : List Value} (h : w.ownsRow B e k v n xs) (hc : Chg S w w') (hn : ∀ b, v.ownBlock = some b -> ¬ S b) : w'.ownsRow B e k v n xs := by
 refine ⟨h.1, ?_⟩
 rcases h.2 with h0 | ⟨g, cap, cur, hv, hb, hh, hr⟩
 ·exact .inl h0
 ·refine .inr ⟨g, cap, cur, hv, hb, ?_, hr⟩; have hlt : g < w.heap.size := by
   rcases Nat.lt_or_ge g w.heap.size with hl | hl
   ·exact hl
   ·rw [Array.getElem?_eq_none hl] at hh; cases hh
  rw [hc.block g hlt (hn g (by rw [hv]; rfl))]; exact hh
end
def BS (B9 : Nat) (t : TypeId) (cs : List Value) (n : Nat) (v : Value) (w : World) : Prop := ∃ g, v = .slice (some ⟨g, 0, none⟩) n n /\ B9 <= g /\ Own w g t cs
theorem BS.chg {B9 : Nat} {t : TypeId} {cs : List Value} {n : Nat} {v : Value} {S : Nat -> Prop} {w w' : World} (h : BS B9 t cs n v w) (hc : Chg S w w') (hS : ∀ k, S k -> k < B9) : BS B9 t cs n v w' := by
 obtain ⟨g, rfl, h1, h2⟩ := h; exact ⟨g, rfl, h1, hc.own h2 fun h => by have := hS _ h; omega⟩
theorem word_made (n : Nat) (hn : n < 6) (w : World) : Calls Tryz.prog 42 #[.int .i64 (n : Int)] w fun e w' => (∃ s : ByteArray, e = .returned (.string s) /\ s.size <= 10) /\ Below w.heap.size w w' := by
 have hd := new_cells w 9 [.string ⟨#[97]⟩, .string ⟨#[98]⟩, .string ⟨#[99]⟩, .string ⟨#[65]⟩, .string ⟨#[97, 98]⟩, .string ⟨#[]⟩] w.heap.size rfl; obtain ⟨s, hs, hz⟩ : ∃ s : ByteArray, ([.string ⟨#[97]⟩, .string ⟨#[98]⟩, .string ⟨#[99]⟩, .string ⟨#[65]⟩, .string ⟨#[97, 98]⟩, .string ⟨#[]⟩] : List Value)[n]? = some (.string s) /\ s.size <= 10 := by
  rcases (show n = 0 \/ n = 1 \/ n = 2 \/ n = 3 \/ n = 4 \/ n = 5 by omega) with rfl | rfl | rfl | rfl | rfl | rfl
  ·exact ⟨_, rfl, by decide⟩
  ·exact ⟨_, rfl, by decide⟩
  ·exact ⟨_, rfl, by decide⟩
  ·exact ⟨_, rfl, by decide⟩
  ·exact ⟨_, rfl, by decide⟩
  ·exact ⟨_, rfl, by decide⟩
 have hk := hd n _ hs; rw [Addr.add_lit, Nat.zero_add] at hk; have hbw := (new1 w [.string ⟨#[97]⟩, .string ⟨#[98]⟩, .string ⟨#[99]⟩, .string ⟨#[65]⟩, .string ⟨#[97, 98]⟩, .string ⟨#[]⟩] 9).2; clear hs hd
 go_enter Tryz.func42, Tryz.ntmps42
 go_wp2
 go_ret
 exact ⟨⟨s, rfl, hz⟩, hbw⟩
theorem tag_made (n : Nat) (hn : n < 2) (w : World) : Calls Tryz.prog 43 #[.int .i64 (n : Int)] w fun e w' => (∃ s : ByteArray, e = .returned (.string s) /\ s.size <= 10) /\ Below w.heap.size w w' := by
 have hd := new_cells w 9 [.string ⟨#[88]⟩, .string ⟨#[89]⟩] w.heap.size rfl; obtain ⟨s, hs, hz⟩ : ∃ s : ByteArray, ([.string ⟨#[88]⟩, .string ⟨#[89]⟩] : List Value)[n]? = some (.string s) /\ s.size <= 10 := by
  rcases (show n = 0 \/ n = 1 by omega) with rfl | rfl
  ·exact ⟨_, rfl, by decide⟩
  ·exact ⟨_, rfl, by decide⟩
 have hk := hd n _ hs; rw [Addr.add_lit, Nat.zero_add] at hk; have hbw := (new1 w [.string ⟨#[88]⟩, .string ⟨#[89]⟩] 9).2; clear hs hd
 go_enter Tryz.func43, Tryz.ntmps43
 go_wp2
 go_ret
 exact ⟨⟨s, rfl, hz⟩, hbw⟩
theorem features_made (n : Nat) (hn : n < 4) (w : World) : Calls Tryz.prog 44 #[.int .i64 (n : Int)] w fun e w' => (∃ s : ByteArray, e = .returned (.string s) /\ s.size <= 10) /\ Below w.heap.size w w' := by
 have hd := new_cells w 9 [.string ⟨#[124]⟩, .string ⟨#[124, 112, 124]⟩, .string ⟨#[124, 112, 124, 113, 124]⟩, .string ⟨#[124, 113, 124]⟩] w.heap.size rfl; obtain ⟨s, hs, hz⟩ : ∃ s : ByteArray, ([.string ⟨#[124]⟩, .string ⟨#[124, 112, 124]⟩, .string ⟨#[124, 112, 124, 113, 124]⟩, .string ⟨#[124, 113, 124]⟩] : List Value)[n]? = some (.string s) /\ s.size <= 10 := by
  rcases (show n = 0 \/ n = 1 \/ n = 2 \/ n = 3 by omega) with rfl | rfl | rfl | rfl
  ·exact ⟨_, rfl, by decide⟩
  ·exact ⟨_, rfl, by decide⟩
  ·exact ⟨_, rfl, by decide⟩
  ·exact ⟨_, rfl, by decide⟩
 have hk := hd n _ hs; rw [Addr.add_lit, Nat.zero_add] at hk; have hbw := (new1 w [.string ⟨#[124]⟩, .string ⟨#[124, 112, 124]⟩, .string ⟨#[124, 112, 124, 113, 124]⟩, .string ⟨#[124, 113, 124]⟩] 9).2; clear hs hd
 go_enter Tryz.func44, Tryz.ntmps44
 go_wp2
 go_ret
 exact ⟨⟨s, rfl, hz⟩, hbw⟩
theorem type_made (x : Int) (hx : I64 x) (w : World) : Calls Tryz.prog 45 #[.int .i64 x] w fun e w' => (∃ s : ByteArray, e = .returned (.string s) /\ s.size <= 10) /\ Below w.heap.size w w' := by
 obtain ⟨o_s, hbw⟩ := new1 w [.string ⟨#[115]⟩, .string ⟨#[110, 112]⟩, .string ⟨#[116]⟩] 9; have H : Hid (∀ n : Nat, n < 3 -> ∃ s : ByteArray, ([.string ⟨#[115]⟩, .string ⟨#[110, 112]⟩, .string ⟨#[116]⟩] : List Value)[n]? = some (.string s) /\ s.size <= 10) := by
  intro n hn
  rcases (show n = 0 \/ n = 1 \/ n = 2 by omega) with rfl | rfl | rfl
  ·exact ⟨_, rfl, by decide⟩
  ·exact ⟨_, rfl, by decide⟩
  ·exact ⟨_, rfl, by decide⟩
 go_enter Tryz.func45, Tryz.ntmps45
 go_wp2_with fail
 refine (mod_any x 3 _ (by decide) (by decide) hx.1 hx.2).mono ?_; rintro e w2 ⟨rfl, rfl⟩; obtain ⟨r, hr, hr3⟩ : ∃ r : Nat, x % 3 = (r : Int) /\ r < 3 := ⟨(x % 3).toNat, by omega, by omega⟩; have hr' : x % ((3 : Nat) : Int) = (r : Int) := hr; rw [hr']; clear hr hr'; obtain ⟨s, hs, hz⟩ := H.out r hr3; have hk := o_s.cell r; rw [hs] at hk; clear hs o_s
 go_wp2
 go_ret
 exact ⟨⟨s, rfl, hz⟩, hbw⟩
def atts9 : List (ByteArray × Bool) := [(⟨#[119, 111, 114, 100]⟩, false), (⟨#[116, 97, 103]⟩, false), (⟨#[102, 101, 97, 116]⟩, true)]
theorem attributes_made {S : Nat -> Prop} (w : World) (hS : ∀ k, S k -> k < w.heap.size) : Calls Tryz.prog 18 #[] w fun e w' => (∃ v, e = .returned v /\ AttrsO S w' v atts9) /\ Below w.heap.size w w' := by
 obtain ⟨o_s, hbw⟩ := new1 w [.string ⟨#[119, 111, 114, 100]⟩, .bool false, .string ⟨#[116, 97, 103]⟩, .bool false, .string ⟨#[102, 101, 97, 116]⟩, .bool true] 62
 go_enter Tryz.func18, Tryz.ntmps18
 go_wp2
 go_ret
 refine ⟨⟨_, rfl, [[.string ⟨#[119, 111, 114, 100]⟩, .bool false], [.string ⟨#[116, 97, 103]⟩, .bool false], [.string ⟨#[102, 101, 97, 116]⟩, .bool true]], ⟨rfl, by decide, ?_⟩, some ⟨w.heap.size, 0, none⟩, 3, rfl, by decide, by unfold maxLen; omega, ?_⟩, hbw⟩
 ·intro i e x h1 h2
  rcases i with _ | _ | _ | i
  ·cases h1; cases h2; exact ⟨rfl, by decide⟩
  ·cases h1; cases h2; exact ⟨rfl, by decide⟩
  ·cases h1; cases h2; exact ⟨rfl, by decide⟩
  ·cases h1
 ·intro j u hu; exact ⟨w.heap.size, 0, rfl, fun h => by have := hS _ h; omega, by rw [Nat.zero_add, o_s.cell]; exact hu⟩
open Go.RowKit

theorem EO.src {α : Type} {S : Nat -> Prop} {w : World} {k : Nat} {E : α -> List Value -> Prop} {A : Option Addr} {n c : Nat} {l : List α} (h : EO S w k E (.slice A n c) l) (hE : ∀ x e, E x e -> ∀ u ∈ e, u.oneCell' = true) :
  ∃ es, Els k E es l /\ es.flatten.length = l.length * k /\ RdOut S w A es.flatten /\ ∀ u ∈ es.flatten, u.oneCell' = true := by
 obtain ⟨es, h1, A', c', he, h2, h3, h4⟩ := h
 injection he with e1 e2 e3
 subst e1 e2 e3; refine ⟨es, h1, by rw [flat_length h1.wide, h1.len], h4, fun u hu => ?_⟩; obtain ⟨e, he, hu⟩ := List.mem_flatten.1 hu; obtain ⟨i, hi⟩ := List.getElem?_of_mem he; have hl : i < l.length := by
  rcases Nat.lt_or_ge i l.length with hl | hl
  ·exact hl
  ·rw [List.getElem?_eq_none (by rw [h1.len]; exact hl)] at hi; cases hi
 exact hE _ _ (h1.each i e l[i] hi (List.getElem?_eq_getElem hl)) u hu
theorem EAttr.one {p : ByteArray × Bool} {e : List Value} (h : EAttr p e) : ∀ u ∈ e, u.oneCell' = true := by rw [h.1]; intro u hu; simp at hu; rcases hu with rfl | rfl <;> rfl
theorem ENode.one {p : ByteArray × Int × Int × Int} {e : List Value} (h : ENode p e) : ∀ u ∈ e, u.oneCell' = true := by rw [h.1]; intro u hu; simp at hu; rcases hu with rfl | rfl | rfl | rfl <;> rfl
theorem ERow.one {S : Nat -> Prop} {w : World} {r : List ByteArray} {e : List Value} (h : ERow S w r e) : ∀ u ∈ e, u.oneCell' = true := by
 obtain ⟨v, rfl, hv⟩ := h; obtain ⟨A, c, rfl, -, -, -⟩ := EO.form hv; intro u hu; simp at hu; subst hu; rfl
theorem att_info : (Tryz.prog.info? 62).map (fun i => (i.zero, i.size, i.bytes)) = some (some (.agg #[.string ⟨#[]⟩, .bool false]), 2, 24) := by kernel_rfl
theorem row_info : (Tryz.prog.info? 28).map (fun i => (i.zero, i.size, i.bytes)) = some (some (.slice none 0 0), 1, 24) := by kernel_rfl
theorem txt_info : (Tryz.prog.info? 89).map (fun i => (i.zero, i.size, i.bytes)) = some (some (.agg #[.string ⟨#[]⟩, .int .i64 0, .int .i64 0, .slice none 0 0]), 4, 56) := by kernel_rfl
theorem nod_info : (Tryz.prog.info? 105).map (fun i => (i.zero, i.size, i.bytes)) = some (some (.agg #[.string ⟨#[]⟩, .int .i64 0, .int .i64 0, .int .i64 0]), 4, 40) := by kernel_rfl
theorem RdOut.weak {S T : Nat -> Prop} {w : World} {A : Option Addr} {xs : List Value} (h : RdOut S w A xs) (hs : ∀ k, T k -> S k) : RdOut T w A xs := fun j u hu => let ⟨b, off, e, hn, hc⟩ := h j u hu; ⟨b, off, e, fun x => hn (hs _ x), hc⟩
theorem RdOut.on {S : Nat -> Prop} {w w' : World} {B gc B3 : Nat} {A : Option Addr} {xs : List Value} (h : RdOut (fun k => S k \/ B <= k) w A xs) (hg : B <= gc) (hB : B <= B3) (hc : Chg (fun k => k = gc \/ B3 <= k) w.drew w') : Rd w' A xs :=
 ((h.weak (T := fun k => k = gc \/ B3 <= k) fun k hk => .inr (hk.elim (fun e => by omega) fun e => by omega)).chg ((Chg.refl _ w).drew.trans hc)).rd
theorem wanted_of9 {o : Oper} {y : Nat -> Option Bool} (h : o.guard = none) : Region.wanted o y = true := by simp [Region.wanted, h]
theorem EO.step {α : Type} {S : Nat -> Prop} {w w' : World} {k gc : Nat} {E : α -> List Value -> Prop} {v : Value} {l : List α} (h : EO (fun k => S k \/ k = gc) w k E v l) (hc : Chg (fun k => k = gc \/ w.heap.size <= k) w w') : EO (fun k => S k \/ k = gc) w' k E v l :=
 EO.weak' (EO.chg' (EO.fresh h) (hc.mono fun _ _ h => h.elim (fun e => .inl (.inr e)) .inr)) fun _ h => .inl h
theorem ERow.join {S : Nat -> Prop} {w w' : World} {B gc B3 : Nat} {r : List ByteArray} {e : List Value} (h : ERow (fun k => S k \/ B <= k) w r e) (hg : B <= gc) (hB : B <= B3) (hc : Chg (fun k => k = gc \/ B3 <= k) w w') : ERow (fun k => S k \/ k = gc) w' r e :=
 ((h.weak (T := fun k => (S k \/ k = gc) \/ B3 <= k) fun k hk => hk.elim (fun e => e.elim .inl fun e => .inr (by omega)) fun e => .inr (by omega)).chg (hc.mono fun _ _ h => h.elim (fun e => .inl (.inr e)) .inr)).weak fun _ h => .inl h
theorem ESpn.join {S : Nat -> Prop} {w w' : World} {B gc B3 : Nat} {r : Spn} {e : List Value} (h : ESpn (fun k => S k \/ B <= k) w r e) (hg : B <= gc) (hB : B <= B3) (hc : Chg (fun k => k = gc \/ B3 <= k) w w') : ESpn (fun k => S k \/ k = gc) w' r e :=
 ((h.weak (T := fun k => (S k \/ k = gc) \/ B3 <= k) fun k hk => hk.elim (fun e => e.elim .inl fun e => .inr (by omega)) fun e => .inr (by omega)).chg (hc.mono fun _ _ h => h.elim (fun e => .inl (.inr e)) .inr)).weak fun _ h => .inl h
theorem Below.of_grown {w w' : World} (h : w.grownBy w' none) : Below w.heap.size w w' := ⟨h.os, h.tape, h.output, h.size, fun k hk => h.block k hk (by simp)⟩
open Go in
theorem wp_append_eq {P : Program} {w w' : World} {o : Oper} {a : Act} {K : Act -> World -> Prop} {Q : Exit -> Act -> World -> Prop} (s x : Operand) (t : TypeId)
  (ho : o.op = .call { callee := .builtin .append, args := #[s, x], argTypes := #[t, t] }) (v u v' : Value) (hs : a.eval s = v) (hx : a.eval x = u)
  (hr : (Builtin.append_ #[t, t] o.type #[v, u]).run P w = .ok v' w') (h : K (a.put o.dst v') w') : o.wp P a w K Q := by
 unfold Oper.wp execOp
 simp only [ho, resolve, invoke, builtin, Sem.run_bind, Sem.run_pure, Result.andThen_ok, List.map_toArray, List.map_cons, List.map_nil, hs, hx, hr]
 exact h
open Go in
theorem wpList_append_eq {P : Program} {w w' : World} {ops : Array Oper} {rest : List Oper} {o : Oper} {a : Act} {Q : Exit -> Act -> World -> Prop} (hgd : o.guard = none) (s x : Operand) (t : TypeId)
  (ho : o.op = .call { callee := .builtin .append, args := #[s, x], argTypes := #[t, t] }) (v u v' : Value) (hs : a.eval s = v) (hx : a.eval x = u)
  (hr : (Builtin.append_ #[t, t] o.type #[v, u]).run P w = .ok v' w') (h : wpList P ops Q rest (a.put o.dst v') w') : wpList P ops Q (o :: rest) a w :=
 wpList_plain hgd fun _ hK => wp_append_eq s x t ho v u v' hs hx hr (hK _ _ h)
theorem ev_tmp9 {t : Array Value} {d : List Deferred} {k : Nat} {v : Value} (h : t[k]? = some v) : (Act.mk t d).eval (.tmp k) = v := by
 show t.getD k undef = v
 simp [Array.getD_eq_getD_getElem?, h]
theorem Els.at9 {α : Type} {k : Nat} {E : α -> List Value -> Prop} {es : List (List Value)} {l : List α} (h : Els k E es l) {i : Nat} {x : α} (hx : l[i]? = some x) : ∃ e, es[i]? = some e /\ e.length = k /\ E x e := by
 rcases Nat.lt_or_ge i l.length with hl | hl
 ·rw [List.getElem?_eq_getElem hl] at hx
  injection hx with hx
  subst hx; exact h.get hl
 ·rw [List.getElem?_eq_none hl] at hx; cases hx
theorem set_at9 {α : Type} {l : List α} {i : Nat} {x y : α} (h : l[i]? = some x) : (l.set i y)[i]? = some y := by
 have hl : i < l.length := (List.getElem?_eq_some_iff.1 h).1
 simp [List.getElem?_set, hl]
theorem RowsO.step {S : Nat -> Prop} {w w' : World} {gc : Nat} {v : Value} {l : List (List ByteArray)} (h : RowsO (fun k => S k \/ k = gc) w v l) (hc : Chg (fun k => k = gc \/ w.heap.size <= k) w w') : RowsO (fun k => S k \/ k = gc) w' v l :=
 RowsO.weak (RowsO.chg ((EO.fresh h).mono fun _ _ _ ⟨v, e, hv⟩ => ⟨v, e, EO.fresh hv⟩) (hc.mono fun _ _ h => h.elim (fun e => .inl (.inr e)) .inr)) fun _ h => .inl h
theorem SpnsO.step {S : Nat -> Prop} {w w' : World} {gc : Nat} {v : Value} {l : List Spn} (h : SpnsO (fun k => S k \/ k = gc) w v l) (hc : Chg (fun k => k = gc \/ w.heap.size <= k) w w') : SpnsO (fun k => S k \/ k = gc) w' v l :=
 SpnsO.weak (SpnsO.chg ((EO.fresh h).mono fun _ _ _ ⟨m, e, h1, h2, h3, h4⟩ => ⟨m, e, h1, h2, h3, EO.fresh h4⟩) (hc.mono fun _ _ h => h.elim (fun e => .inl (.inr e)) .inr)) fun _ h => .inl h
theorem set_self9 {α : Type} {l : List α} {i : Nat} {x : α} (h : l[i]? = some x) : l.set i x = l := by
 apply List.ext_getElem?
 intro k; rw [List.getElem?_set]
 split
 ·rename_i e; subst e
  rw [h, if_pos (List.getElem?_eq_some_iff.1 h).1]
 ·rfl
theorem rows_ne9 {w : World} {b b' : Nat} {e e' : TypeId} {k k' n n' : Nat} {v v' : Value} {xs xs' : List Value} (h : w.ownsRow b e k v n xs) (h' : w.ownsRow b' e' k' v' n' xs') (hne : e ≠ e') : v.ownBlock = none \/ v.ownBlock ≠ v'.ownBlock := by
 rcases h.2 with ⟨rfl, _⟩ | ⟨g, cap, cur, rfl, _, hh, _⟩
 ·exact .inl rfl
 ·refine .inr fun he => ?_
  rcases h'.2 with ⟨rfl, _⟩ | ⟨g', cap', cur', rfl, _, hh', _⟩
  ·simp [Value.ownBlock] at he
  ·have : g = g' := by simpa [Value.ownBlock] using he
   subst this; rw [hh] at hh'
   injection hh' with hh'
   injection hh' with _ ht
   exact hne ht
theorem EInt.one {p : Int} {e : List Value} (h : EInt p e) : ∀ u ∈ e, u.oneCell' = true := by rw [h.1]; intro u hu; simp at hu; subst hu; rfl
theorem EStr.one {p : ByteArray} {e : List Value} (h : EStr p e) : ∀ u ∈ e, u.oneCell' = true := by rw [h.1]; intro u hu; simp at hu; subst hu; rfl
theorem int_info9 : (Tryz.prog.info? 3).map (fun i => (i.zero, i.size, i.bytes)) = some (some (.int .i64 0), 1, 8) := by kernel_rfl
theorem AllH.len {C : Cor} {H : List Int} {R : List ByteArray} (h : AllH C H R) (v : HeadsOK C) : H.length = C.toks.length /\ R.length = C.toks.length /\ ∀ x ∈ H, -1 <= x /\ x <= C.toks.length := by
 rcases Nat.eq_zero_or_pos C.heads.length with h0 | h0
 ·obtain ⟨rfl, rfl⟩ := h.none h0; refine ⟨by simp, by simp, fun x hx => ?_⟩; rw [List.eq_of_mem_replicate hx]
  omega
 ·obtain ⟨rfl, rfl⟩ := h.some_ h0; have hm := v.many; refine ⟨by omega, by have := v.same; omega, fun x hx => ?_⟩; obtain ⟨i, hi, rfl⟩ := List.getElem_of_mem hx; have := v.all.head i hi hi
  omega
theorem els_ints9 {es : List (List Value)} : ∀ {l : List Int}, Els 1 EInt es l -> es.flatten = ci l := by
 induction es with
 | nil => intro l h; have := h.len; cases l with | nil => rfl | cons x r => simp at this
 | cons e es ih =>
  intro l h; have hl := h.len
  cases l with
  | nil => simp at hl
  | cons x r =>
   have h0 := h.each 0 e x rfl rfl; have hr : Els 1 EInt es r := ⟨by simpa using hl, fun e he => h.wide e (by simp [he]), fun i e x h1 h2 => h.each (i + 1) e x (by simpa using h1) (by simpa using h2)⟩; rw [List.flatten_cons, ih hr, h0.1]
   rfl
theorem findText6_grow {S : Nat -> Prop} {a t x r n h s : Value} {C : Cor} (z : ByteArray) (w : World) (q : CorC S w a t x r n h s C) :
  Calls Tryz.prog 51 #[.agg #[a, t, x, r, n, h, s], .string z] w fun e w' => (∃ k : Int, e = .returned (.int .i64 k)) /\ Below w.heap.size w w' :=
 (findText6_any w q z).mono fun _ _ h => ⟨⟨_, h.1⟩, h.2⟩
end Go.Proofs.YtjimfbmegmnocaaGreatDoor
