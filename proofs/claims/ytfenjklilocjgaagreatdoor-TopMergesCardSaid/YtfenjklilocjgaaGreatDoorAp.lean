/- Parts of the proof: Ap. No condition of its own. -/
import Derived.Test.YtfenjklilocjgaaGreatDoorAf
set_option linter.unusedSimpArgs false
set_option linter.unusedVariables false
set_option linter.unusedSectionVars false
namespace Go.Proofs.YtfenjklilocjgaaGreatDoor
set_option linter.unusedSimpArgs false
set_option linter.unusedVariables false
set_option linter.unusedSectionVars false
open Go.RowKit Dg

/-- The document of the example. -/
def Doc (cv : Value) (w : World) : Prop := ∃ (ga ca gt ct gx cx gr cr k1 c1 k2 c2 : Nat) (s1 s2 : ByteArray), cv = .agg #[.slice (some ⟨ga, 0, none⟩) 1 ca, .slice (some ⟨gt, 0, none⟩) 2 ct, .slice (some ⟨gx, 0, none⟩) 1 cx, .slice (some ⟨gr, 0, none⟩) 1 cr, .slice none 0 0, .slice none 0 0, .slice none 0 0] ∧ (1 ≤ ca ∧ 2 ≤ ct ∧ 1 ≤ cx ∧ 1 ≤ cr ∧ 1 ≤ c1 ∧ 1 ≤ c2) ∧ Rd w (some ⟨ga, 0, none⟩) [.string ⟨#[119, 111, 114, 100]⟩, .bool false] ∧ Rd w (some ⟨gt, 0, none⟩) [.slice (some ⟨k1, 0, none⟩) 1 c1, .slice (some ⟨k2, 0, none⟩) 1 c2] ∧ Rd w (some ⟨k1, 0, none⟩) [.string s1] ∧ Rd w (some ⟨k2, 0, none⟩) [.string s2] ∧ OneL s1 ∧ OneL s2 ∧ Rd w (some ⟨gx, 0, none⟩) [.string ⟨#[116]⟩, .int .i64 0, .int .i64 2, .slice none 0 0] ∧ Rd w (some ⟨gr, 0, none⟩) [.string ⟨#[115]⟩, .int .i64 0, .int .i64 1, .slice none 0 0]
theorem Doc.below {cv : Value} {w w' : World} (h : Doc cv w) (hb : Below w.heap.size w w') : Doc cv w' := by
  obtain ⟨ga, ca, gt, ct, gx, cx, gr, cr, k1, c1, k2, c2, s1, s2, h0, hl, h1, h2, h3, h4, e1, e2, h5, h6⟩ := h
  exact ⟨ga, ca, gt, ct, gx, cx, gr, cr, k1, c1, k2, c2, s1, s2, h0, hl, h1.below hb, h2.below hb, h3.below hb, h4.below hb, e1, e2, h5.below hb, h6.below hb⟩
theorem Rd.chgS {S : Nat → Prop} {k : Nat} {xs : List Value} {w w' : World} (h : Rd w (some ⟨k, 0, none⟩) xs) (hc : Chg S w w') (hne : ¬ S k) : Rd w' (some ⟨k, 0, none⟩) xs := by
  intro j u hu
  obtain ⟨b, off, e, hcell⟩ := h j u hu
  injection e with e; injection e with e1 e2; subst e1 e2
  exact ⟨_, _, rfl, hc.cell hcell hne⟩
theorem own_cap {w : World} {base e size n : Nat} {A : Option Addr} {c : Nat} {xs : List Value} (h : w.ownsRow base e size (.slice A n c) n xs) : n ≤ c := by
  obtain ⟨A9, c9, e9, h9, -⟩ := own_form h
  injection e9 with _ _ e9
  subst e9
  exact h9
theorem doc_of {B g n0 : Nat} {A T X R O v : Value} {ts : List Value} {w w' : World} (h : RS none B g A T X R O 2 1 1 0 ts [.string ⟨#[116]⟩, .int .i64 0, .int .i64 2, .slice none 0 0] [.string ⟨#[115]⟩, .int .i64 0, .int .i64 1, .slice none 0 0] [] false w) (hv : w.ownsRow n0 69 4 v 1 [.string ⟨#[115]⟩, .int .i64 0, .int .i64 1, .slice none 0 0]) (hn : g < n0) (hB : B ≤ n0) (hc : Chg (fun k => k = g ∨ k < B) w w') : Doc (.agg #[A, T, X, v, .slice none 0 0, .slice none 0 0, .slice none 0 0]) w' := by
  have hS : ∀ k, B ≤ k → k ≠ g → ¬ (k = g ∨ k < B) := fun k h1 h2 x => by omega
  have hcap : ∀ {e : TypeId} {size n : Nat} {V : Value} {ys : List Value}, w.ownsRow B e size V n ys → 0 < n → e ≠ 93 → ∃ k c, V = .slice (some ⟨k, 0, none⟩) n c ∧ n ≤ c ∧ Rd w' (some ⟨k, 0, none⟩) ys := by
    intro e size n V ys hr h0 he
    obtain ⟨k, c, rfl, hk, -⟩ := hr.form (by omega)
    exact ⟨k, c, rfl, own_cap hr, (Rd.of_own hr).chgS hc (hS k hk (fun x => h.ne hr he (by subst x; rfl)))⟩
  obtain ⟨ga, ca, rfl, a1, a2⟩ := hcap h.a (by decide) (by decide)
  obtain ⟨gt, ct, rfl, t1, t2⟩ := hcap h.t (by decide) (by decide)
  obtain ⟨gx, cx, rfl, x1, x2⟩ := hcap h.x (by decide) (by decide)
  obtain ⟨gr, cr, rfl, hgr, -⟩ := hv.form (by decide)
  have r1 := own_cap hv
  have r2 := (Rd.of_own hv).chgS hc (hS gr (by omega) (by omega))
  have hlen := h.t.1
  match ts, hlen with
  | [y1, y2], _ =>
    obtain ⟨s1, e1, o1⟩ := h.tk y1 (by simp)
    obtain ⟨s2, e2, o2⟩ := h.tk y2 (by simp)
    obtain ⟨k1, c1, rfl, b1, b2⟩ := hcap o1 (by decide) (by decide)
    obtain ⟨k2, c2, rfl, d1, d2⟩ := hcap o2 (by decide) (by decide)
    exact ⟨ga, ca, gt, ct, gx, cx, gr, cr, k1, c1, k2, c2, s1, s2, rfl, ⟨a1, t1, x1, r1, b1, d1⟩, a2, t2, b2, d2, e1, e2, x2, r2⟩
set_option maxRecDepth 100000 in
set_option maxHeartbeats 1000000 in
theorem checkAttrs_ok (ga ca : Nat) (hca : 1 ≤ ca) (w : World) (hr : Rd w (some ⟨ga, 0, none⟩) [.string ⟨#[119, 111, 114, 100]⟩, .bool false]) : Calls Tryz.prog 38 #[.slice (some ⟨ga, 0, none⟩) 1 ca] w fun e w' => e = .returned (.bool true) ∧ Below w.heap.size w w' := by
  go_enter Tryz.func38, Tryz.ntmps38
  go_wp2_with fail
  refine (validate_attrs ga ca hca _ hr).mono ?_
  rintro e w1 ⟨rfl, hb⟩
  go_wp2
  go_ret
  exact ⟨rfl, hb⟩
theorem cut_line {s line rest : ByteArray} (m : Int) (w : World) (hs : s.size < 4294967281) (hm : w.cell? ⟨0, 0, none⟩ = some (.int .i64 m)) (h : Lib.cut s.data.toList [10] = (line.data.toList, rest.data.toList, true)) : Calls Tryz.prog 39 #[.string s, .string ⟨#[10]⟩] w fun e w' => e = .returned (.tuple #[.string line, .string rest, .bool true]) ∧ Below w.heap.size w w' := by
  refine (Tryz.strings_Cut s ⟨#[10]⟩ m w hs hm).mono ?_
  rintro e w' ⟨rfl, n, rfl⟩
  have e1 : (⟨#[10]⟩ : ByteArray).data.toList = [10] := rfl
  rw [e1, h]
  exact ⟨rfl, ⟨rfl, rfl, rfl, Nat.le_refl _, fun _ _ => rfl⟩⟩
theorem cut_0 : Lib.cut (ByteArray.extract ⟨#[60, 116, 101, 120, 116, 32, 105, 100, 61, 34, 116, 34, 62, 10, 60, 115, 62, 10, 97, 10, 60, 47, 115, 62, 10, 98, 10, 60, 47, 116, 101, 120, 116, 62, 10]⟩ 0 35).data.toList [10] = ((⟨#[60, 116, 101, 120, 116, 32, 105, 100, 61, 34, 116, 34, 62]⟩ : ByteArray).data.toList, (⟨#[60, 115, 62, 10, 97, 10, 60, 47, 115, 62, 10, 98, 10, 60, 47, 116, 101, 120, 116, 62, 10]⟩ : ByteArray).data.toList, true) := by decide
theorem cut_1 : Lib.cut (ByteArray.extract ⟨#[60, 116, 101, 120, 116, 32, 105, 100, 61, 34, 116, 34, 62, 10, 60, 115, 62, 10, 97, 10, 60, 47, 115, 62, 10, 98, 10, 60, 47, 116, 101, 120, 116, 62, 10]⟩ 14 35).data.toList [10] = ((⟨#[60, 115, 62]⟩ : ByteArray).data.toList, (⟨#[97, 10, 60, 47, 115, 62, 10, 98, 10, 60, 47, 116, 101, 120, 116, 62, 10]⟩ : ByteArray).data.toList, true) := by decide
theorem cut_2 : Lib.cut (ByteArray.extract ⟨#[60, 116, 101, 120, 116, 32, 105, 100, 61, 34, 116, 34, 62, 10, 60, 115, 62, 10, 97, 10, 60, 47, 115, 62, 10, 98, 10, 60, 47, 116, 101, 120, 116, 62, 10]⟩ 18 35).data.toList [10] = ((⟨#[97]⟩ : ByteArray).data.toList, (⟨#[60, 47, 115, 62, 10, 98, 10, 60, 47, 116, 101, 120, 116, 62, 10]⟩ : ByteArray).data.toList, true) := by decide
theorem cut_3 : Lib.cut (ByteArray.extract ⟨#[60, 116, 101, 120, 116, 32, 105, 100, 61, 34, 116, 34, 62, 10, 60, 115, 62, 10, 97, 10, 60, 47, 115, 62, 10, 98, 10, 60, 47, 116, 101, 120, 116, 62, 10]⟩ 20 35).data.toList [10] = ((⟨#[60, 47, 115, 62]⟩ : ByteArray).data.toList, (⟨#[98, 10, 60, 47, 116, 101, 120, 116, 62, 10]⟩ : ByteArray).data.toList, true) := by decide
theorem cut_4 : Lib.cut (ByteArray.extract ⟨#[60, 116, 101, 120, 116, 32, 105, 100, 61, 34, 116, 34, 62, 10, 60, 115, 62, 10, 97, 10, 60, 47, 115, 62, 10, 98, 10, 60, 47, 116, 101, 120, 116, 62, 10]⟩ 25 35).data.toList [10] = ((⟨#[98]⟩ : ByteArray).data.toList, (⟨#[60, 47, 116, 101, 120, 116, 62, 10]⟩ : ByteArray).data.toList, true) := by decide
theorem cut_5 : Lib.cut (ByteArray.extract ⟨#[60, 116, 101, 120, 116, 32, 105, 100, 61, 34, 116, 34, 62, 10, 60, 115, 62, 10, 97, 10, 60, 47, 115, 62, 10, 98, 10, 60, 47, 116, 101, 120, 116, 62, 10]⟩ 27 35).data.toList [10] = ((⟨#[60, 47, 116, 101, 120, 116, 62]⟩ : ByteArray).data.toList, (⟨#[]⟩ : ByteArray).data.toList, true) := by decide
end Go.Proofs.YtfenjklilocjgaaGreatDoor
