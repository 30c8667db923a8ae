/- Parts and marks that came in, told plainly. -/
import Derived.ProofKit
import Derived.OpenShut
import Derived.ChangeSlices
import Derived.Deep.Slices
import Derived.Deep.Fields
import Derived.ChangeArms
import Derived.Test.YtcjcmnnhmajocabPoaa
import Derived.Test.YtcjcmnnhmajocabIrPk
import Derived.Test.YtcjcmnnhmajocabPobs
import Derived.Test.YtcjcmnnhmajocabEvBok
namespace Go.Proofs.Ytcjcmnnhmajocab.Ev
open Go.RowKit Kt Me Fl
set_option linter.unusedVariables false
/-- twelve numbers -/
def twelve (a0 a1 a2 a3 a4 a5 a6 a7 a8 a9 a10 a11 : Int) : Nat → Int
  | 0 => a0 | 1 => a1 | 2 => a2 | 3 => a3 | 4 => a4 | 5 => a5 | 6 => a6 | 7 => a7 | 8 => a8 | 9 => a9 | 10 => a10 | 11 => a11 | _ => 0
set_option maxRecDepth 100000 in
theorem open_ctx {r : Reach} {W : World} {b0 : Nat} {v : Value} (h : Value.okWide Try.prog W r b0 37 v) : ∃ cx : Nat → Int, v = .agg (ctL cx) ∧ COk cx := by
  obtain ⟨cs1, rfl, hn1, hc1⟩ := Kt.okWide_cells (n := 12) (ts := [22, 22, 22, 22, 22, 22, 22, 22, 22, 22, 22, 22]) (by kernel_rfl) (by kernel_rfl) (by kernel_rfl) h
  obtain ⟨x0, x1, x2, x3, x4, x5, x6, x7, x8, x9, x10, x11, rfl⟩ := Kt.size12 hn1
  obtain ⟨a0, rfl, w0⟩ := Kt.cell_int (k := .u32) Try.underlying22 (hc1 0 _ 22 rfl rfl)
  obtain ⟨a1, rfl, w1⟩ := Kt.cell_int (k := .u32) Try.underlying22 (hc1 1 _ 22 rfl rfl)
  obtain ⟨a2, rfl, w2⟩ := Kt.cell_int (k := .u32) Try.underlying22 (hc1 2 _ 22 rfl rfl)
  obtain ⟨a3, rfl, w3⟩ := Kt.cell_int (k := .u32) Try.underlying22 (hc1 3 _ 22 rfl rfl)
  obtain ⟨a4, rfl, w4⟩ := Kt.cell_int (k := .u32) Try.underlying22 (hc1 4 _ 22 rfl rfl)
  obtain ⟨a5, rfl, w5⟩ := Kt.cell_int (k := .u32) Try.underlying22 (hc1 5 _ 22 rfl rfl)
  obtain ⟨a6, rfl, w6⟩ := Kt.cell_int (k := .u32) Try.underlying22 (hc1 6 _ 22 rfl rfl)
  obtain ⟨a7, rfl, w7⟩ := Kt.cell_int (k := .u32) Try.underlying22 (hc1 7 _ 22 rfl rfl)
  obtain ⟨a8, rfl, w8⟩ := Kt.cell_int (k := .u32) Try.underlying22 (hc1 8 _ 22 rfl rfl)
  obtain ⟨a9, rfl, w9⟩ := Kt.cell_int (k := .u32) Try.underlying22 (hc1 9 _ 22 rfl rfl)
  obtain ⟨a10, rfl, w10⟩ := Kt.cell_int (k := .u32) Try.underlying22 (hc1 10 _ 22 rfl rfl)
  obtain ⟨a11, rfl, w11⟩ := Kt.cell_int (k := .u32) Try.underlying22 (hc1 11 _ 22 rfl rfl)
  refine ⟨twelve a0 a1 a2 a3 a4 a5 a6 a7 a8 a9 a10 a11, rfl, fun j => ?_⟩
  match j with
  | 0 => exact Kt.bd_u32 w0
  | 1 => exact Kt.bd_u32 w1
  | 2 => exact Kt.bd_u32 w2
  | 3 => exact Kt.bd_u32 w3
  | 4 => exact Kt.bd_u32 w4
  | 5 => exact Kt.bd_u32 w5
  | 6 => exact Kt.bd_u32 w6
  | 7 => exact Kt.bd_u32 w7
  | 8 => exact Kt.bd_u32 w8
  | 9 => exact Kt.bd_u32 w9
  | 10 => exact Kt.bd_u32 w10
  | 11 => exact Kt.bd_u32 w11
  | n + 12 => exact ⟨Int.le_refl _, (by decide : (0 : Int) < 4294967296)⟩
end Go.Proofs.Ytcjcmnnhmajocab.Ev
namespace Go.Proofs.Ytcjcmnnhmajocab.Ev
open Go.RowKit Go.ChangeShapes Go.WideShapes Go.Deep Me
set_option linter.unusedVariables false
set_option linter.unusedSimpArgs false
theorem list_of {α : Type} {p : Nat → α → Prop} : ∀ n, (∀ i, i < n → ∃ o, p i o) → ∃ os : List α, os.length = n ∧ ∀ i o, os[i]? = some o → p i o
  | 0, _ => ⟨[], rfl, fun i o h => by simp at h⟩
  | n + 1, h => by
    obtain ⟨os, hl, hp⟩ := list_of n (fun i hi => h i (by omega))
    obtain ⟨o, ho⟩ := h n (by omega)
    refine ⟨os ++ [o], by simp [hl], fun i x hx => ?_⟩
    by_cases hi : i < n
    · rw [List.getElem?_append_left (by omega)] at hx
      exact hp i x hx
    · have hin : i < (os ++ [o]).length := (List.getElem?_eq_some_iff.1 hx).1
      obtain rfl : i = n := by simp [hl] at hin; omega
      rw [List.getElem?_append_right (by omega), hl, Nat.sub_self] at hx
      obtain rfl : o = x := by simpa using hx
      exact ho
theorem get_rg (zs : List Int) (h : ∀ n ∈ zs, (Lit.int .u8 n).wf = true) (j : Nat) : 0 ≤ zs.getD j 0 ∧ zs.getD j 0 < 256 := by
  rw [List.getD_eq_getElem?_getD]
  cases hz : zs[j]? with
  | none => simp
  | some z => exact Kt.bd_u8 (h z (List.mem_of_getElem? hz))
theorem get_tk (zs : List Int) (n j : Nat) (h : j < n) : (zs.take n).getD j 0 = zs.getD j 0 := by
  rw [List.getD_eq_getElem?_getD, List.getD_eq_getElem?_getD, List.getElem?_take, if_pos h]
theorem cells_u8 : Try.prog.cellsOf 5 = 1 := by kernel_rfl
section
variable {H : Type} {enc : TypeId × Value → H} {w : World} {base : Nat} {held : Bool}
/-- bytes that came in -/
theorem open_bytes {fuel : Nat} {c : Value} {x : DataW H × List MemPlace} (h : DataW.trod enc Try.prog w base (fun _ => true) held fuel 74 [c] = some x) :
    ∃ (us : List Int) (ao : Option Addr) (cap : Nat), c = .slice ao us.length cap ∧ Gu.Bs us ao cap w ∧ ∀ j, 0 ≤ us.getD j 0 ∧ us.getD j 0 < 256 := by
  rcases open_ints Try.underlying74 Try.underlying5 cells_u8 h with ⟨hcs, hx⟩ | ⟨a, len, cap, zs, hcs, _, hl, hm, hz, hx, hcell, hwz⟩
  · simp only [List.cons.injEq, and_true] at hcs
    subst hcs
    exact ⟨[], none, 0, rfl, ⟨Nat.le_refl _, by unfold maxLen; omega, fun h => absurd h (by simp)⟩, by simp⟩
  · simp only [List.cons.injEq, and_true] at hcs
    subst hcs
    simp only [if_true] at hz
    have hlen : (zs.take len).length = len := by rw [List.length_take]; omega
    refine ⟨zs.take len, some a, cap, by rw [hlen], ⟨by omega, hm, fun h => ?_⟩, get_rg _ (fun n hn => hwz n (List.mem_of_mem_take hn))⟩
    rw [hlen] at h
    have hc0 := hcell 0 (by omega)
    obtain ⟨b, off, spot⟩ := a
    have hspot : spot = none := by simpa [Addr.add] using World.cell?_spot hc0
    subst hspot
    have hbW : b < w.heap.size := World.block_lt_of_cell? w _ hc0
    refine ⟨b, off, rfl, hbW, fun j hj => ?_⟩
    rw [hlen] at hj
    rw [← Addr.add_lit, hcell j (by omega), get_tk _ _ _ hj]
set_option maxRecDepth 100000 in
theorem open_part {fuel : Nat} {a : Addr} {i : Nat} {x : DataW H × List MemPlace} {cs : List Value} (hc : w.cells? base (a.add (i * 3)) 3 = some cs) (h : DataW.trod enc Try.prog w base (fun _ => true) held fuel 132 cs = some x) :
    ∃ s : Prt, PrtOk s w ∧ ∀ (j : Nat) v, s.cells[j]? = some v → w.cell? (a.add (i * 3 + j)) = some v := by
  obtain ⟨ys, n', hn', hy, hlen, hyl, hf⟩ := DataW.trod_struct Try.underlying132 h
  obtain ⟨_, hcl, hat⟩ := World.cells?_some hc
  have s1 : Try.prog.cellsOf 3 = 1 := by kernel_rfl
  have s4 : Try.prog.cellsOf 74 = 1 := by kernel_rfl
  match cs, hcl, ys, hyl with
  | [c0, c1, c2], _, [y0, y1, y2], _ =>
    have k0 : DataW.trod enc Try.prog w base (fun _ => true) held n' 3 [c0] = some y0 := by simpa [s1, s4] using hf 0 _ rfl
    obtain ⟨v0, e0, _, w0⟩ := DataW.trod_int Try.underlying3 k0
    simp only [List.cons.injEq, and_true] at e0
    subst e0
    have k1 : DataW.trod enc Try.prog w base (fun _ => true) held n' 74 [c1] = some y1 := by simpa [s1, s4] using hf 1 _ rfl
    obtain ⟨us, ao, cap, e1, hB, hG⟩ := open_bytes k1
    subst e1
    have k2 : DataW.trod enc Try.prog w base (fun _ => true) held n' 3 [c2] = some y2 := by simpa [s1, s4] using hf 2 _ rfl
    obtain ⟨v2, e2, _, w2⟩ := DataW.trod_int Try.underlying3 k2
    simp only [List.cons.injEq, and_true] at e2
    subst e2
    have b0 := Kt.bd_i64 w0
    refine ⟨⟨v0, us, ao, cap, v2⟩, ⟨b0.1, b0.2, hB, hG⟩, fun j v hj => ?_⟩
    have hj3 : j < 3 := by
      have := (Array.getElem?_eq_some_iff.1 hj).1
      simpa [Prt.cells] using this
    have := hat j hj3
    rw [Go.Deep.add_add] at this
    rw [this, ← hj]
    simp [Prt.cells]
theorem open_parts {fuel : Nat} {c : Value} {x : DataW H × List MemPlace} (h : DataW.trod enc Try.prog w base (fun _ => true) held fuel 57 [c] = some x) :
    ∃ (ss : List Prt) (ao : Option Addr) (cap : Nat), c = .slice ao ss.length cap ∧ Prts ss ao cap w := by
  have hC : Try.prog.cellsOf 132 = 3 := by kernel_rfl
  rcases open_slice Try.underlying57 h with ⟨e3, hx⟩ | ⟨a, len, cap, m, n', D, Pl, e3, _, hl, hm, hmm, hx, hi⟩
  · simp only [List.cons.injEq, and_true] at e3
    subst e3
    exact ⟨[], none, 0, rfl, ⟨Nat.le_refl _, by unfold maxLen; omega, fun o ho => (nomatch ho), fun h => absurd h (by simp)⟩⟩
  · simp only [List.cons.injEq, and_true] at e3
    subst e3
    simp only [if_true] at hmm
    subst hmm
    obtain ⟨ss, hss, hp⟩ := list_of (p := fun i s => PrtOk s w ∧ ∀ (j : Nat) v, s.cells[j]? = some v → w.cell? (a.add (i * 3 + j)) = some v) len (fun i hlt => by
      obtain ⟨cs', hc, ht⟩ := hi i (by omega)
      rw [hC] at hc
      exact open_part hc ht)
    subst hss
    refine ⟨ss, some a, m, rfl, ⟨hl, hm, fun s hs => ?_, fun h0 => ?_⟩⟩
    · obtain ⟨i, hi'⟩ := List.mem_iff_getElem?.1 hs
      exact (hp i s hi').1
    · obtain ⟨b, off, spot⟩ := a
      obtain ⟨s, hs⟩ : ∃ s, ss[0]? = some s := ⟨ss[0], List.getElem?_eq_getElem h0⟩
      have hc0 := (hp 0 s hs).2 0 (.int .i64 s.at_) rfl
      have hspot : spot = none := by simpa [Addr.add] using World.cell?_spot hc0
      subst hspot
      have hbW : b < w.heap.size := World.block_lt_of_cell? w _ hc0
      refine ⟨b, off, rfl, hbW, fun i s hs j v hj => ?_⟩
      rw [Nat.add_assoc, ← Addr.add_lit]
      exact (hp i s hs).2 j v hj
end
section
variable {H : Type} {enc : TypeId × Value → H} {w : World} {base : Nat} {held : Bool}
/-- numbers that came in -/
theorem open_nums {fuel : Nat} {c : Value} {x : DataW H × List MemPlace} (h : DataW.trod enc Try.prog w base (fun _ => true) held fuel 39 [c] = some x) :
    ∃ (ks : List Int) (ao : Option Addr) (cap : Nat), c = .slice ao ks.length cap ∧ Nums ks ao cap w := by
  have hC : Try.prog.cellsOf 3 = 1 := by kernel_rfl
  rcases open_slice Try.underlying39 h with ⟨e3, hx⟩ | ⟨a, len, cap, m, n', D, Pl, e3, _, hl, hm, hmm, hx, hi⟩
  · simp only [List.cons.injEq, and_true] at e3
    subst e3
    exact ⟨[], none, 0, rfl, ⟨Nat.le_refl _, by unfold maxLen; omega, fun h => absurd h (by simp)⟩⟩
  · simp only [List.cons.injEq, and_true] at e3
    subst e3
    simp only [if_true] at hmm
    subst hmm
    obtain ⟨bs, hbs, hp⟩ := list_of (p := fun i b => w.cell? (a.add i) = some (.int .i64 b)) len (fun i hlt => by
      obtain ⟨cs', hc, ht⟩ := hi i (by omega)
      rw [hC] at hc
      obtain ⟨b, e, _⟩ := DataW.trod_int Try.underlying3 ht
      subst e
      obtain ⟨_, hcl, hat⟩ := World.cells?_some hc
      have := hat 0 (by omega)
      rw [Go.Deep.add_add, Nat.mul_one, Nat.add_zero] at this
      exact ⟨b, this⟩)
    subst hbs
    refine ⟨bs, some a, m, rfl, ⟨hl, hm, fun h0 => ?_⟩⟩
    obtain ⟨b, off, spot⟩ := a
    have hc0 := hp 0 _ (List.getElem?_eq_getElem h0)
    have hspot : spot = none := by simpa [Addr.add] using World.cell?_spot hc0
    subst hspot
    have hbW : b < w.heap.size := World.block_lt_of_cell? w _ hc0
    refine ⟨b, off, rfl, hbW, fun j hj => ?_⟩
    rw [← Addr.add_lit, hp j _ (List.getElem?_eq_getElem hj), List.getD_eq_getElem?_getD, List.getElem?_eq_getElem hj]
    rfl
end
end Go.Proofs.Ytcjcmnnhmajocab.Ev
