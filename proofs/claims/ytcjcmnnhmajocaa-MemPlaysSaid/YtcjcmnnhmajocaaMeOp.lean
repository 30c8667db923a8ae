/- A script that came in: its calls as a list. -/
import Derived.Test.YtcjcmnnhmajocaaMeZ
import Derived.Test.YtcjcmnnhmajocaaOpen
import Derived.ProofKit
import Derived.SizedLaws
import Derived.ChangeSlices
import Derived.Deep.Slices
import Derived.Deep.Fields
import Derived.ChangeArms
namespace Go.Proofs.Ytcjcmnnhmajocaa.Me
open Go.RowKit Go.ChangeShapes Go.WideShapes Go.Deep
set_option linter.unusedVariables false
set_option linter.unusedSimpArgs false
theorem list_of {α : Type} {p : Nat → α → Prop} : ∀ n, (∀ i, i < n → ∃ o, p i o) → ∃ os : List α, os.length = n ∧ ∀ i o, os[i]? = some o → p i o
  | 0, _ => ⟨[], rfl, fun i o h => by simp at h⟩
  | n + 1, h => by
    obtain ⟨os, hl, hp⟩ := list_of n (fun i hi => h i (by omega))
    obtain ⟨o, ho⟩ := h n (by omega)
    refine ⟨os ++ [o], by simp [hl], fun i x hx => ?_⟩
    by_cases hi : i < n
    · rw [List.getElem?_append_left (by omega)] at hx
      exact hp i x hx
    · have hin : i < (os ++ [o]).length := (List.getElem?_eq_some_iff.1 hx).1
      obtain rfl : i = n := by simp [hl] at hin; omega
      rw [List.getElem?_append_right (by omega), hl, Nat.sub_self] at hx
      obtain rfl : o = x := by simpa using hx
      exact ho
theorem get_rg (zs : List Int) (h : ∀ n ∈ zs, (Lit.int .u8 n).wf = true) (j : Nat) : 0 ≤ zs.getD j 0 ∧ zs.getD j 0 < 256 := by
  rw [List.getD_eq_getElem?_getD]
  cases hz : zs[j]? with
  | none => simp
  | some z => exact Kt.bd_u8 (h z (List.mem_of_getElem? hz))
theorem get_tk (zs : List Int) (n j : Nat) (h : j < n) : (zs.take n).getD j 0 = zs.getD j 0 := by
  rw [List.getD_eq_getElem?_getD, List.getD_eq_getElem?_getD, List.getElem?_take, if_pos h]
theorem cells_u8 : Try.prog.cellsOf 5 = 1 := by kernel_rfl
theorem bytes_u8 : Try.prog.bytesOf 5 = 1 := by kernel_rfl
section
variable {H : Type} {enc : TypeId × Value → H} {w : World} {base : Nat} {held : Bool}
theorem weights_all {P : Program} {e : TypeId} {n : Nat} : ∀ (l : List (DataW H)) (d : DataW H), d ∈ l → n ∈ d.weights P e → n ∈ DataW.weightsAll P e l
  | d' :: r, d, hd, hn => by
    simp only [DataW.weightsAll, List.mem_append]
    rcases List.mem_cons.1 hd with rfl | hd
    · exact .inl hn
    · exact .inr (weights_all r d hd hn)
/-- bytes that came in -/
theorem open_bytes {fuel : Nat} {c : Value} {x : DataW H × List MemPlace} (h : DataW.trod enc Try.prog w base (fun _ => true) held fuel 54 [c] = some x) (hwt : ∀ n ∈ x.1.weights Try.prog 54, n ≤ reachBytes) :
    ∃ (us : List Int) (ao : Option Addr) (cap : Nat), c = .slice ao us.length cap ∧ Gu.Bs us ao cap w ∧ us.length ≤ 140737488351232 ∧ ∀ j, 0 ≤ us.getD j 0 ∧ us.getD j 0 < 256 := by
  rcases open_ints Try.underlying54 Try.underlying5 cells_u8 h with ⟨hcs, hx⟩ | ⟨a, len, cap, zs, hcs, _, hl, hm, hz, hx, hcell, hwz⟩
  · simp only [List.cons.injEq, and_true] at hcs
    subst hcs
    exact ⟨[], none, 0, rfl, ⟨Nat.le_refl _, by unfold maxLen; omega, fun h => absurd h (by simp)⟩, by simp, by simp⟩
  · simp only [List.cons.injEq, and_true] at hcs
    subst hcs
    simp only [if_true] at hz
    have hlen : (zs.take len).length = len := by rw [List.length_take]; omega
    refine ⟨zs.take len, some a, cap, by rw [hlen], ⟨by omega, hm, fun h => ?_⟩, ?_, get_rg _ (fun n hn => hwz n (List.mem_of_mem_take hn))⟩
    · rw [hlen] at h
      have hc0 := hcell 0 (by omega)
      obtain ⟨b, off, spot⟩ := a
      have hspot : spot = none := by simpa [Addr.add] using World.cell?_spot hc0
      subst hspot
      have hbW : b < w.heap.size := World.block_lt_of_cell? w _ hc0
      refine ⟨b, off, rfl, hbW, fun j hj => ?_⟩
      rw [hlen] at hj
      rw [← Addr.add_lit, hcell j (by omega), get_tk _ _ _ hj]
    · have := hwt (((zs.take len).length + (zs.drop len).length) * 1) (by
        rw [hx]
        simp only [DataW.weights, Try.underlying54, bytes_u8, lits, List.length_map]
        exact List.mem_cons_self ..)
      rw [hlen]
      simp only [List.length_take, List.length_drop, reachBytes] at this
      omega
set_option maxRecDepth 100000 in
theorem open_stp {fuel : Nat} {a : Addr} {i : Nat} {x : DataW H × List MemPlace} {cs : List Value} (hc : w.cells? base (a.add (i * 6)) 6 = some cs) (h : DataW.trod enc Try.prog w base (fun _ => true) held fuel 71 cs = some x)
    (hwt : ∀ n ∈ x.1.weights Try.prog 71, n ≤ reachBytes) :
    ∃ s : Stp, StpOk s w ∧ ∀ (j : Nat) v, s.cells[j]? = some v → w.cell? (a.add (i * 6 + j)) = some v := by
  obtain ⟨ys, n', hn', hy, hlen, hyl, hf⟩ := DataW.trod_struct Try.underlying71 h
  obtain ⟨_, hcl, hat⟩ := World.cells?_some hc
  have s1 : Try.prog.cellsOf 3 = 1 := by kernel_rfl
  have s2 : Try.prog.cellsOf 25 = 1 := by kernel_rfl
  have s3 : Try.prog.cellsOf 4 = 1 := by kernel_rfl
  have s4 : Try.prog.cellsOf 54 = 1 := by kernel_rfl
  match cs, hcl, ys, hyl with
  | [c0, c1, c2, c3, c4, c5], _, [y0, y1, y2, y3, y4, y5], _ =>
    have k0 : DataW.trod enc Try.prog w base (fun _ => true) held n' 3 [c0] = some y0 := by simpa [s1, s2, s3, s4] using hf 0 _ rfl
    obtain ⟨v0, e0, _, w0⟩ := DataW.trod_int Try.underlying3 k0
    simp only [List.cons.injEq, and_true] at e0
    subst e0
    have k1 : DataW.trod enc Try.prog w base (fun _ => true) held n' 25 [c1] = some y1 := by simpa [s1, s2, s3, s4] using hf 1 _ rfl
    obtain ⟨v1, e1, _, w1⟩ := DataW.trod_int Try.underlying25 k1
    simp only [List.cons.injEq, and_true] at e1
    subst e1
    have k2 : DataW.trod enc Try.prog w base (fun _ => true) held n' 3 [c2] = some y2 := by simpa [s1, s2, s3, s4] using hf 2 _ rfl
    obtain ⟨v2, e2, _, w2⟩ := DataW.trod_int Try.underlying3 k2
    simp only [List.cons.injEq, and_true] at e2
    subst e2
    have k3 : DataW.trod enc Try.prog w base (fun _ => true) held n' 25 [c3] = some y3 := by simpa [s1, s2, s3, s4] using hf 3 _ rfl
    obtain ⟨v3, e3, _, w3⟩ := DataW.trod_int Try.underlying25 k3
    simp only [List.cons.injEq, and_true] at e3
    subst e3
    have k4 : DataW.trod enc Try.prog w base (fun _ => true) held n' 54 [c4] = some y4 := by simpa [s1, s2, s3, s4] using hf 4 _ rfl
    have hy1 : x.1 = .agg [y0.1, y1.1, y2.1, y3.1, y4.1, y5.1] := by
      rw [hy]; rfl
    obtain ⟨us, ao, cap, e4, hB, hR, hG⟩ := open_bytes k4 (fun n hn => hwt n (by
      rw [hy1]
      simp only [DataW.weights, Try.underlying71, DataW.weightsEach, List.map_cons, List.map_nil, List.mem_append]
      simp [DataW.weightsEach, hn]))
    subst e4
    have k5 : DataW.trod enc Try.prog w base (fun _ => true) held n' 4 [c5] = some y5 := by simpa [s1, s2, s3, s4] using hf 5 _ rfl
    obtain ⟨v5, e5, _⟩ := DataW.trod_bool Try.underlying4 k5
    simp only [List.cons.injEq, and_true] at e5
    subst e5
    have b1 := Kt.bd_u32 w1
    have b2 := Kt.bd_i64 w2
    have b3 := Kt.bd_u32 w3
    refine ⟨⟨v0, v1, v2, v3, us, ao, cap, v5⟩, ⟨b1.1, b1.2, b2.1, b2.2, b3.1, b3.2, hB, hR, hG⟩, fun j v hj => ?_⟩
    have hj6 : j < 6 := by
      have := (Array.getElem?_eq_some_iff.1 hj).1
      simpa [Stp.cells, stV] using this
    have := hat j hj6
    rw [Go.Deep.add_add] at this
    rw [this, ← hj]
    simp [Stp.cells, stV]
set_option maxRecDepth 100000 in
theorem open_script {fuel : Nat} {c : Value} {x : DataW H × List MemPlace} (h : DataW.trod enc Try.prog w base (fun _ => true) held fuel 64 [c] = some x) (hwt : ∀ n ∈ x.1.weights Try.prog 64, n ≤ reachBytes) :
    ∃ (ss : List Stp) (ao : Option Addr) (cap : Nat), c = .slice ao ss.length cap ∧ Scr ss ao cap w := by
  have hC : Try.prog.cellsOf 71 = 6 := by kernel_rfl
  rcases open_slice Try.underlying64 h with ⟨e3, hx⟩ | ⟨a, len, cap, m, n', D, Pl, e3, _, hl, hm, hmm, hx, hi⟩
  · simp only [List.cons.injEq, and_true] at e3
    subst e3
    exact ⟨[], none, 0, rfl, ⟨Nat.le_refl _, by unfold maxLen; omega, fun o ho => (nomatch ho), fun h => absurd h (by simp)⟩⟩
  · simp only [List.cons.injEq, and_true] at e3
    subst e3
    simp only [if_true] at hmm
    subst hmm
    obtain ⟨ss, hss, hp⟩ := list_of (p := fun i s => StpOk s w ∧ ∀ (j : Nat) v, s.cells[j]? = some v → w.cell? (a.add (i * 6 + j)) = some v) len (fun i hlt => by
      obtain ⟨cs', hc, ht⟩ := hi i (by omega)
      rw [hC] at hc
      exact open_stp hc ht (fun n hn => hwt n (by
        rw [hx]
        simp only [DataW.weights, Try.underlying64, List.mem_cons, List.mem_append]
        exact .inr (.inl (weights_all _ _ (List.mem_map.2 ⟨i, List.mem_range.2 hlt, rfl⟩) hn)))))
    subst hss
    refine ⟨ss, some a, m, rfl, ⟨hl, hm, fun s hs => ?_, fun h0 => ?_⟩⟩
    · obtain ⟨i, hi'⟩ := List.mem_iff_getElem?.1 hs
      exact (hp i s hi').1
    · obtain ⟨b, off, spot⟩ := a
      obtain ⟨s, hs⟩ : ∃ s, ss[0]? = some s := ⟨ss[0], List.getElem?_eq_getElem h0⟩
      have hc0 := (hp 0 s hs).2 0 (.int .i64 s.k) rfl
      have hspot : spot = none := by simpa [Addr.add] using World.cell?_spot hc0
      subst hspot
      have hbW : b < w.heap.size := World.block_lt_of_cell? w _ hc0
      refine ⟨b, off, rfl, hbW, fun i s hs j v hj => ?_⟩
      rw [Nat.add_assoc, ← Addr.add_lit]
      exact (hp i s hs).2 j v hj
theorem open_bools {fuel : Nat} {c : Value} {x : DataW H × List MemPlace} (h : DataW.trod enc Try.prog w base (fun _ => true) held fuel 65 [c] = some x) :
    ∃ (bs : List Bool) (ao : Option Addr) (cap : Nat), c = .slice ao bs.length cap ∧ Bl bs ao cap w := by
  have hC : Try.prog.cellsOf 4 = 1 := by kernel_rfl
  rcases open_slice Try.underlying65 h with ⟨e3, hx⟩ | ⟨a, len, cap, m, n', D, Pl, e3, _, hl, hm, hmm, hx, hi⟩
  · simp only [List.cons.injEq, and_true] at e3
    subst e3
    exact ⟨[], none, 0, rfl, ⟨Nat.le_refl _, by unfold maxLen; omega, fun h => absurd h (by simp)⟩⟩
  · simp only [List.cons.injEq, and_true] at e3
    subst e3
    simp only [if_true] at hmm
    subst hmm
    obtain ⟨bs, hbs, hp⟩ := list_of (p := fun i b => w.cell? (a.add i) = some (.bool b)) len (fun i hlt => by
      obtain ⟨cs', hc, ht⟩ := hi i (by omega)
      rw [hC] at hc
      obtain ⟨b, e, _⟩ := DataW.trod_bool Try.underlying4 ht
      subst e
      obtain ⟨_, hcl, hat⟩ := World.cells?_some hc
      have := hat 0 (by omega)
      rw [Go.Deep.add_add, Nat.mul_one, Nat.add_zero] at this
      exact ⟨b, this⟩)
    subst hbs
    refine ⟨bs, some a, m, rfl, ⟨hl, hm, fun h0 => ?_⟩⟩
    obtain ⟨b, off, spot⟩ := a
    have hc0 := hp 0 _ (List.getElem?_eq_getElem h0)
    have hspot : spot = none := by simpa [Addr.add] using World.cell?_spot hc0
    subst hspot
    have hbW : b < w.heap.size := World.block_lt_of_cell? w _ hc0
    refine ⟨b, off, rfl, hbW, fun j hj => ?_⟩
    rw [← Addr.add_lit, hp j _ (List.getElem?_eq_getElem hj), List.getD_eq_getElem?_getD, List.getElem?_eq_getElem hj]
    rfl
end
end Go.Proofs.Ytcjcmnnhmajocaa.Me
