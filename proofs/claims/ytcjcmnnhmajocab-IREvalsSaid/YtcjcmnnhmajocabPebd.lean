/- Parts and marks that came in, told plainly. -/
import Derived.RowKit
import GoSem.ClaimWide
import Derived.WideShapes
import Derived.ProofKit
import Derived.OpenShut
import Derived.ChangeSlices
import Derived.Deep.Slices
import Derived.Deep.Fields
import Derived.ChangeArms
import Derived.Test.YtcjcmnnhmajocabPebc
namespace Go.Proofs.Ytcjcmnnhmajocab.Kt
open Go
variable {P : Program} {w : World} {r : Reach} {base : Nat} {t : TypeId} {v : Value}
def rowly (P : Program) (t : TypeId) : Bool := match P.underlying t with
  | some (.struct _) => true
  | some (.array _ _) => true
  | _ => false
theorem okWide_cells {n : Nat} {ts : List TypeId} (hu : rowly P t = true) (hc : P.cellsOf t = n) (ht : P.cellTypes P.depth t = some ts) (h : Value.okWide P w r base t v) :
    ∃ cs, v = .agg cs ∧ cs.size = n ∧ ∀ (i : Nat) (x : Value) (u : TypeId), cs[i]? = some x → ts[i]? = some u → Cell.okWide P w r base u x := by
  have h' : ∃ cs, v = .agg cs ∧ cs.size = P.cellsOf t ∧ Row.okWide P w r base t cs := by
    unfold rowly at hu
    unfold Value.okWide at h
    cases hx : P.underlying t with
    | none => simp [hx] at hu
    | some d => cases d <;> simp_all
  obtain ⟨cs, h1, h2, ts', h3, _, h5⟩ := h'
  rw [ht] at h3
  obtain rfl := Option.some.inj h3
  refine ⟨cs, h1, h2.trans hc, fun i x u hi hu' => ?_⟩
  obtain ⟨u2, e1, e2⟩ := h5 i x hi
  have hlt : i < ts.length := by
    by_cases hh : i < ts.length
    · exact hh
    · rw [List.getElem?_eq_none (by omega)] at hu'; cases hu'
  rw [Nat.mod_eq_of_lt hlt, hu'] at e1
  obtain rfl := Option.some.inj e1
  exact e2
theorem cell_int {u : TypeId} {k : IntKind} {x : Value} (hu : P.underlying u = some (.int k)) (h : Cell.okWide P w r base u x) : ∃ n, x = .int k n ∧ (Lit.int k n).wf = true := by
  simp only [Cell.okWide, hu] at h
  cases x <;> simp_all [Cell.ok, Lit.wf, IntKind.has]
theorem size12 {cs : Array Value} (h : cs.size = 12) : ∃ x0 x1 x2 x3 x4 x5 x6 x7 x8 x9 x10 x11, cs = #[x0, x1, x2, x3, x4, x5, x6, x7, x8, x9, x10, x11] := by
  rcases cs with ⟨l⟩
  match l, h with
  | [x0, x1, x2, x3, x4, x5, x6, x7, x8, x9, x10, x11], _ => exact ⟨x0, x1, x2, x3, x4, x5, x6, x7, x8, x9, x10, x11, rfl⟩
end Go.Proofs.Ytcjcmnnhmajocab.Kt
namespace Go.Proofs.Ytcjcmnnhmajocab.Ev
open Go.RowKit Go.ChangeShapes Go.WideShapes Go.Deep Me
set_option linter.unusedVariables false
set_option linter.unusedSimpArgs false
theorem list_of {α : Type} {p : Nat → α → Prop} : ∀ n, (∀ i, i < n → ∃ o, p i o) → ∃ os : List α, os.length = n ∧ ∀ i o, os[i]? = some o → p i o
  | 0, _ => ⟨[], rfl, fun i o h => by simp at h⟩
  | n + 1, h => by
    obtain ⟨os, hl, hp⟩ := list_of n (fun i hi => h i (by omega))
    obtain ⟨o, ho⟩ := h n (by omega)
    refine ⟨os ++ [o], by simp [hl], fun i x hx => ?_⟩
    by_cases hi : i < n
    · rw [List.getElem?_append_left (by omega)] at hx
      exact hp i x hx
    · have hin : i < (os ++ [o]).length := (List.getElem?_eq_some_iff.1 hx).1
      obtain rfl : i = n := by simp [hl] at hin; omega
      rw [List.getElem?_append_right (by omega), hl, Nat.sub_self] at hx
      obtain rfl : o = x := by simpa using hx
      exact ho
theorem get_rg (zs : List Int) (h : ∀ n ∈ zs, (Lit.int .u8 n).wf = true) (j : Nat) : 0 ≤ zs.getD j 0 ∧ zs.getD j 0 < 256 := by
  rw [List.getD_eq_getElem?_getD]
  cases hz : zs[j]? with
  | none => simp
  | some z => exact Kt.bd_u8 (h z (List.mem_of_getElem? hz))
theorem get_tk (zs : List Int) (n j : Nat) (h : j < n) : (zs.take n).getD j 0 = zs.getD j 0 := by
  rw [List.getD_eq_getElem?_getD, List.getD_eq_getElem?_getD, List.getElem?_take, if_pos h]
theorem cells_u8 : Try.prog.cellsOf 5 = 1 := by kernel_rfl
section
variable {H : Type} {enc : TypeId × Value → H} {w : World} {base : Nat} {held : Bool}
/-- bytes that came in -/
theorem open_bytes {fuel : Nat} {c : Value} {x : DataW H × List MemPlace} (h : DataW.trod enc Try.prog w base (fun _ => true) held fuel 74 [c] = some x) :
    ∃ (us : List Int) (ao : Option Addr) (cap : Nat), c = .slice ao us.length cap ∧ Gu.Bs us ao cap w ∧ ∀ j, 0 ≤ us.getD j 0 ∧ us.getD j 0 < 256 := by
  rcases open_ints Try.underlying74 Try.underlying5 cells_u8 h with ⟨hcs, hx⟩ | ⟨a, len, cap, zs, hcs, _, hl, hm, hz, hx, hcell, hwz⟩
  · simp only [List.cons.injEq, and_true] at hcs
    subst hcs
    exact ⟨[], none, 0, rfl, ⟨Nat.le_refl _, by unfold maxLen; omega, fun h => absurd h (by simp)⟩, by simp⟩
  · simp only [List.cons.injEq, and_true] at hcs
    subst hcs
    simp only [if_true] at hz
    have hlen : (zs.take len).length = len := by rw [List.length_take]; omega
    refine ⟨zs.take len, some a, cap, by rw [hlen], ⟨by omega, hm, fun h => ?_⟩, get_rg _ (fun n hn => hwz n (List.mem_of_mem_take hn))⟩
    rw [hlen] at h
    have hc0 := hcell 0 (by omega)
    obtain ⟨b, off, spot⟩ := a
    have hspot : spot = none := by simpa [Addr.add] using World.cell?_spot hc0
    subst hspot
    have hbW : b < w.heap.size := World.block_lt_of_cell? w _ hc0
    refine ⟨b, off, rfl, hbW, fun j hj => ?_⟩
    rw [hlen] at hj
    rw [← Addr.add_lit, hcell j (by omega), get_tk _ _ _ hj]
set_option maxRecDepth 100000 in
theorem open_part {fuel : Nat} {a : Addr} {i : Nat} {x : DataW H × List MemPlace} {cs : List Value} (hc : w.cells? base (a.add (i * 3)) 3 = some cs) (h : DataW.trod enc Try.prog w base (fun _ => true) held fuel 132 cs = some x) :
    ∃ s : Prt, PrtOk s w ∧ ∀ (j : Nat) v, s.cells[j]? = some v → w.cell? (a.add (i * 3 + j)) = some v := by
  obtain ⟨ys, n', hn', hy, hlen, hyl, hf⟩ := DataW.trod_struct Try.underlying132 h
  obtain ⟨_, hcl, hat⟩ := World.cells?_some hc
  have s1 : Try.prog.cellsOf 3 = 1 := by kernel_rfl
  have s4 : Try.prog.cellsOf 74 = 1 := by kernel_rfl
  match cs, hcl, ys, hyl with
  | [c0, c1, c2], _, [y0, y1, y2], _ =>
    have k0 : DataW.trod enc Try.prog w base (fun _ => true) held n' 3 [c0] = some y0 := by simpa [s1, s4] using hf 0 _ rfl
    obtain ⟨v0, e0, _, w0⟩ := DataW.trod_int Try.underlying3 k0
    simp only [List.cons.injEq, and_true] at e0
    subst e0
    have k1 : DataW.trod enc Try.prog w base (fun _ => true) held n' 74 [c1] = some y1 := by simpa [s1, s4] using hf 1 _ rfl
    obtain ⟨us, ao, cap, e1, hB, hG⟩ := open_bytes k1
    subst e1
    have k2 : DataW.trod enc Try.prog w base (fun _ => true) held n' 3 [c2] = some y2 := by simpa [s1, s4] using hf 2 _ rfl
    obtain ⟨v2, e2, _, w2⟩ := DataW.trod_int Try.underlying3 k2
    simp only [List.cons.injEq, and_true] at e2
    subst e2
    have b0 := Kt.bd_i64 w0
    refine ⟨⟨v0, us, ao, cap, v2⟩, ⟨b0.1, b0.2, hB, hG⟩, fun j v hj => ?_⟩
    have hj3 : j < 3 := by
      have := (Array.getElem?_eq_some_iff.1 hj).1
      simpa [Prt.cells] using this
    have := hat j hj3
    rw [Go.Deep.add_add] at this
    rw [this, ← hj]
    simp [Prt.cells]
theorem open_parts {fuel : Nat} {c : Value} {x : DataW H × List MemPlace} (h : DataW.trod enc Try.prog w base (fun _ => true) held fuel 57 [c] = some x) :
    ∃ (ss : List Prt) (ao : Option Addr) (cap : Nat), c = .slice ao ss.length cap ∧ Prts ss ao cap w := by
  have hC : Try.prog.cellsOf 132 = 3 := by kernel_rfl
  rcases open_slice Try.underlying57 h with ⟨e3, hx⟩ | ⟨a, len, cap, m, n', D, Pl, e3, _, hl, hm, hmm, hx, hi⟩
  · simp only [List.cons.injEq, and_true] at e3
    subst e3
    exact ⟨[], none, 0, rfl, ⟨Nat.le_refl _, by unfold maxLen; omega, fun o ho => (nomatch ho), fun h => absurd h (by simp)⟩⟩
  · simp only [List.cons.injEq, and_true] at e3
    subst e3
    simp only [if_true] at hmm
    subst hmm
    obtain ⟨ss, hss, hp⟩ := list_of (p := fun i s => PrtOk s w ∧ ∀ (j : Nat) v, s.cells[j]? = some v → w.cell? (a.add (i * 3 + j)) = some v) len (fun i hlt => by
      obtain ⟨cs', hc, ht⟩ := hi i (by omega)
      rw [hC] at hc
      exact open_part hc ht)
    subst hss
    refine ⟨ss, some a, m, rfl, ⟨hl, hm, fun s hs => ?_, fun h0 => ?_⟩⟩
    · obtain ⟨i, hi'⟩ := List.mem_iff_getElem?.1 hs
      exact (hp i s hi').1
    · obtain ⟨b, off, spot⟩ := a
      obtain ⟨s, hs⟩ : ∃ s, ss[0]? = some s := ⟨ss[0], List.getElem?_eq_getElem h0⟩
      have hc0 := (hp 0 s hs).2 0 (.int .i64 s.at_) rfl
      have hspot : spot = none := by simpa [Addr.add] using World.cell?_spot hc0
      subst hspot
      have hbW : b < w.heap.size := World.block_lt_of_cell? w _ hc0
      refine ⟨b, off, rfl, hbW, fun i s hs j v hj => ?_⟩
      rw [Nat.add_assoc, ← Addr.add_lit]
      exact (hp i s hs).2 j v hj
end
section
variable {H : Type} {enc : TypeId × Value → H} {w : World} {base : Nat} {held : Bool}
/-- numbers that came in -/
theorem open_nums {fuel : Nat} {c : Value} {x : DataW H × List MemPlace} (h : DataW.trod enc Try.prog w base (fun _ => true) held fuel 39 [c] = some x) :
    ∃ (ks : List Int) (ao : Option Addr) (cap : Nat), c = .slice ao ks.length cap ∧ Nums ks ao cap w := by
  have hC : Try.prog.cellsOf 3 = 1 := by kernel_rfl
  rcases open_slice Try.underlying39 h with ⟨e3, hx⟩ | ⟨a, len, cap, m, n', D, Pl, e3, _, hl, hm, hmm, hx, hi⟩
  · simp only [List.cons.injEq, and_true] at e3
    subst e3
    exact ⟨[], none, 0, rfl, ⟨Nat.le_refl _, by unfold maxLen; omega, fun h => absurd h (by simp)⟩⟩
  · simp only [List.cons.injEq, and_true] at e3
    subst e3
    simp only [if_true] at hmm
    subst hmm
    obtain ⟨bs, hbs, hp⟩ := list_of (p := fun i b => w.cell? (a.add i) = some (.int .i64 b)) len (fun i hlt => by
      obtain ⟨cs', hc, ht⟩ := hi i (by omega)
      rw [hC] at hc
      obtain ⟨b, e, _⟩ := DataW.trod_int Try.underlying3 ht
      subst e
      obtain ⟨_, hcl, hat⟩ := World.cells?_some hc
      have := hat 0 (by omega)
      rw [Go.Deep.add_add, Nat.mul_one, Nat.add_zero] at this
      exact ⟨b, this⟩)
    subst hbs
    refine ⟨bs, some a, m, rfl, ⟨hl, hm, fun h0 => ?_⟩⟩
    obtain ⟨b, off, spot⟩ := a
    have hc0 := hp 0 _ (List.getElem?_eq_getElem h0)
    have hspot : spot = none := by simpa [Addr.add] using World.cell?_spot hc0
    subst hspot
    have hbW : b < w.heap.size := World.block_lt_of_cell? w _ hc0
    refine ⟨b, off, rfl, hbW, fun j hj => ?_⟩
    rw [← Addr.add_lit, hp j _ (List.getElem?_eq_getElem hj), List.getD_eq_getElem?_getD, List.getElem?_eq_getElem hj]
    rfl
end
end Go.Proofs.Ytcjcmnnhmajocab.Ev
