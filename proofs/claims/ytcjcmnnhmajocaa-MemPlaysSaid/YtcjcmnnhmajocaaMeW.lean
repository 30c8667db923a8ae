/- '==' on stops; slices of the call's own that are turned. -/
import Derived.Test.YtcjcmnnhmajocaaMeU
import Derived.Test.YtcjcmnnhmajocaaGuQ
import Derived.Deep.RegionHeld3
namespace Go.Proofs.Ytcjcmnnhmajocaa.Me
open Go.RowKit Kt
set_option linter.unusedVariables false
set_option linter.unusedSimpArgs false
noncomputable def fldS (i : Nat) : Field := (Try.prog.fieldsOf 131)[i]!
theorem fldsS : (Try.prog.fieldsOf 131).toList = [fldS 0, fldS 1] := by kernel_rfl
def eqs (k x k' x' : Int) : Bool := k == k' && (x == x' && true)
theorem eqs_iff (k x k' x' : Int) : eqs k x k' x' = true ↔ (k = k' ∧ x = x') := by simp [eqs]
theorem eqs_self (k x : Int) : eqs k x k x = true := (eqs_iff _ _ _ _).2 ⟨rfl, rfl⟩
theorem equal_stop (k x k' x' : Int) (w : World) : (Op.equalIn 10000 131 (.agg #[.int .i64 k, .int .u32 x]) (.agg #[.int .i64 k', .int .u32 x'])).run Try.prog w = .ok (eqs k x k' x') w := by
  have h : ∀ w : World, (Op.eqFields 9999 #[.int .i64 k, .int .u32 x] #[.int .i64 k', .int .u32 x'] [fldS 0, fldS 1]).run Try.prog w = .ok (eqs k x k' x') w := by
    refine Gu.eqFields_step 9998 _ _ _ _ (by decide +kernel) (k := .i64) (k' := .i64) (by kernel_rfl) (fun w => by kernel_rfl) (fun w => by kernel_rfl) ?_
    refine Gu.eqFields_step 9998 _ _ _ _ (by decide +kernel) (k := .u32) (k' := .u32) (by kernel_rfl) (fun w => by kernel_rfl) (fun w => by kernel_rfl) ?_
    intro w
    simp [Op.eqFields]
  rw [← fldsS] at h
  rw [run_equalIn_struct w 9999 131 _ _ (by kernel_rfl) (by kernel_rfl), h]
theorem eql_stop (k x k' x' : Int) : ∀ w : World, (binOp .eql 131 (.agg #[.int .i64 k, .int .u32 x]) (.agg #[.int .i64 k', .int .u32 x'])).run Try.prog w = .ok (.bool (eqs k x k' x')) w := by
  intro w
  rw [run_eql_struct, equal_stop]
  rfl
/-- bytes that may be turned: in a block from B on -/
def TB (B : Nat) (ao : Option Addr) (n : Nat) (W : World) : Prop :=
  ∀ j, j < n → ∃ g, ao = some ⟨g, 0, none⟩ ∧ B ≤ g ∧ g < W.heap.size ∧ (∃ x : Int, W.cell? ⟨g, j, none⟩ = some (.int .u8 x)) ∧ ∀ i, W.frozen? ⟨g, i, none⟩ = false
theorem Own.form {B : Nat} {v : Value} {us : List Int} {W : World} (h : Own B v us W) : ∃ ao cap, v = .slice ao us.length cap ∧ Gu.Bs us ao cap W ∧ TB B ao us.length W := by
  rcases h.2 with ⟨rfl, hn⟩ | ⟨g, c1, cur, rfl, hg, hrow, hle, hmx, hsz, htk⟩
  · have hn' : us.length = 0 := hn
    rw [hn']
    exact ⟨none, 0, rfl, ⟨by omega, by unfold maxLen; omega, fun h => absurd h (by omega)⟩, fun j hj => absurd hj (by omega)⟩
  · have hc : ∀ j, j < us.length → W.cell? ⟨g, j, none⟩ = some (.int .u8 (us.getD j 0)) := by
      intro j hj
      rw [cell_of_row W g j _ _ _ hrow, ← Array.getElem?_toList]
      have h2 : (cur.toList.take (us.length * 1))[j]? = (us.map (Value.int .u8))[j]? := by rw [htk]
      rw [Nat.mul_one, List.getElem?_take, if_pos hj, List.getElem?_map] at h2
      rw [h2, List.getElem?_eq_getElem hj, List.getD_eq_getElem?_getD, List.getElem?_eq_getElem hj]
      rfl
    exact ⟨_, c1, rfl, ⟨hle, hmx, fun _ => ⟨g, 0, rfl, (Array.getElem?_eq_some_iff.1 hrow).1, fun j hj => by rw [Nat.zero_add]; exact hc j hj⟩⟩,
      fun j hj => ⟨g, rfl, hg, (Array.getElem?_eq_some_iff.1 hrow).1, ⟨_, hc j hj⟩, fun i => frozen_of_row _ _ _ _ _ hrow⟩⟩
theorem Bs.upto {us : List Int} {ao : Option Addr} {cap : Nat} {w w' : World} {S : Nat → Prop} (h : Gu.Bs us ao cap w) (u : Upto S w w') (hs : ∀ g, ao = some g → 0 < us.length → ¬ S g.block) : Gu.Bs us ao cap w' := by
  obtain ⟨l, m, k⟩ := h
  refine ⟨l, m, fun hlen => ?_⟩
  obtain ⟨b, off, rfl, hb', hc⟩ := k hlen
  exact ⟨b, off, rfl, Nat.lt_of_lt_of_le hb' u.size, fun j hj => (u.cell (q := ⟨b, off + j, none⟩) hb' (hs ⟨b, off, none⟩ rfl hlen)).trans (hc j hj)⟩
theorem TB.ge {B : Nat} {ao : Option Addr} {n : Nat} {W : World} (h : TB B ao n W) : ∀ g, ao = some g → 0 < n → B ≤ g.block := by
  intro g hg hn
  obtain ⟨g', e, hb, _⟩ := h 0 hn
  rw [hg] at e
  obtain rfl := Option.some.inj e
  exact hb
theorem TB.upto {B : Nat} {ao : Option Addr} {n : Nat} {w w' : World} {S : Nat → Prop} (h : TB B ao n w) (u : Upto S w w') (hs : ∀ k, B ≤ k → ¬ S k) : TB B ao n w' := by
  intro j hj
  obtain ⟨g, e, hb, hl, ⟨x, hx⟩, hf⟩ := h j hj
  exact ⟨g, e, hb, Nat.lt_of_lt_of_le hl u.size, ⟨x, (u.cell (q := ⟨g, j, none⟩) hl (hs g hb)).trans hx⟩, fun i => (u.frozen (q := ⟨g, i, none⟩) hl (hs g hb)).trans (hf i)⟩
theorem TB.mono {B B' : Nat} {ao : Option Addr} {n : Nat} {w : World} (h : TB B ao n w) (hB : B' ≤ B) : TB B' ao n w := by
  intro j hj
  obtain ⟨g, e, hb, r⟩ := h j hj
  exact ⟨g, e, Nat.le_trans hB hb, r⟩
theorem TB.set {B g : Nat} {n : Nat} {W : World} (h : TB B (some ⟨g, 0, none⟩) n W) (k : Nat) (y : Int) : TB B (some ⟨g, 0, none⟩) n (W.setCell ⟨g, k, none⟩ (.int .u8 y)) := by
  intro j hj
  obtain ⟨g', e, hb, hl, ⟨x, hx⟩, hf⟩ := h j hj
  simp only [Option.some.injEq, Addr.mk.injEq, and_true] at e
  subst e
  refine ⟨g, rfl, hb, by simpa using hl, ?_, fun i => by simpa using hf i⟩
  by_cases hjk : j = k
  · subst hjk
    exact ⟨y, World.cell?_setCell_same _ _ _ hx⟩
  · exact ⟨x, by rw [World.cell?_setCell_other _ _ _ _ (by intro h; simp only [Addr.mk.injEq] at h; omega)]; exact hx⟩
theorem twin_own (us : List Int) (ao : Option Addr) (cap : Nat) (w : World) (hs : Gu.Bs us ao cap w) (hreach : us.length ≤ 140737488351232) :
    Calls Try.prog 30 #[.slice ao us.length cap] w fun e w' => ∃ v, e = .returned v ∧ Own w.heap.size v us w' ∧ Below w.heap.size w w' := by
  obtain ⟨l1, m1, k1⟩ := hs
  by_cases h0 : us.length = 0
  · obtain rfl : us = [] := List.length_eq_zero_iff.1 h0
    exact (Gu.twin_zero ao cap w).mono fun e w' h => ⟨_, h.1, Own.nil _ _, h.2⟩
  · obtain ⟨b, off, rfl, hb, hc⟩ := k1 (by omega)
    exact Gu.twin_some us b off cap w hc (by omega) hreach
end Go.Proofs.Ytcjcmnnhmajocaa.Me
