/- A block that came in: its operations as a list. -/
import Derived.ProofKit
import Derived.SizedLaws
import Derived.Lib.SmallJoins
import Derived.Deep.Slices
import Derived.Deep.Fields
import Derived.ChangeSame
import Derived.Test.YtcjcmnnhmajocabPgaa
namespace Go.Proofs.Ytcjcmnnhmajocab.Ic
open Go.RowKit Go.ChangeShapes Go.WideShapes Go.Joins Go.Deep
set_option linter.unusedVariables false
theorem list_of {p : Nat → Opr → Prop} : ∀ n, (∀ i, i < n → ∃ o, p i o) → ∃ os : List Opr, os.length = n ∧ ∀ i o, os[i]? = some o → p i o
  | 0, _ => ⟨[], rfl, fun i o h => by simp at h⟩
  | n + 1, h => by
    obtain ⟨os, hl, hp⟩ := list_of n (fun i hi => h i (by omega))
    obtain ⟨o, ho⟩ := h n (by omega)
    refine ⟨os ++ [o], by simp [hl], fun i x hx => ?_⟩
    by_cases hi : i < n
    · rw [List.getElem?_append_left (by omega)] at hx
      exact hp i x hx
    · have hin : i < (os ++ [o]).length := (List.getElem?_eq_some_iff.1 hx).1
      obtain rfl : i = n := by simp [hl] at hin; omega
      rw [List.getElem?_append_right (by omega), hl, Nat.sub_self] at hx
      obtain rfl : o = x := by simpa using hx
      exact ho
structure OprOk (o : Opr) : Prop where
  k : (Lit.int .i64 o.k).wf = true
  w : (Lit.int .i64 o.w).wf = true
  a : (Lit.int .i64 o.a).wf = true
  b : (Lit.int .i64 o.b).wf = true
  c : (Lit.int .i64 o.c).wf = true
  kn : (Lit.int .u32 o.kn).wf = true
  n : (Lit.int .i64 o.n).wf = true
section
variable {H : Type} {enc : TypeId × Value → H} {w : World} {base : Nat} {spare : Nat → Bool} {held : Bool}
set_option maxRecDepth 100000 in
theorem open_elem {fuel : Nat} {a : Addr} {i : Nat} {x : DataW H × List MemPlace} {cs : List Value} (hc : w.cells? base (a.add (i * 7)) 7 = some cs) (h : DataW.trod enc Try.prog w base spare held fuel 31 cs = some x) :
    ∃ o : Opr, OprOk o ∧ ∀ (j : Nat) v, o.cells[j]? = some v → w.cell? (a.add (i * 7 + j)) = some v := by
  obtain ⟨ys, n', hn', hy, hlen, hyl, hf⟩ := DataW.trod_struct Try.underlying31 h
  obtain ⟨_, hcl, hat⟩ := World.cells?_some hc
  have s1 : Try.prog.cellsOf 3 = 1 := by kernel_rfl
  have s2 : Try.prog.cellsOf 22 = 1 := by kernel_rfl
  match cs, hcl, ys, hyl with
  | [c0, c1, c2, c3, c4, c5, c6], _, [y0, y1, y2, y3, y4, y5, y6], _ =>
    have k0 : DataW.trod enc Try.prog w base spare held n' 3 [c0] = some y0 := by simpa [s1, s2] using hf 0 _ rfl
    obtain ⟨v0, e0, _, w0⟩ := DataW.trod_int Try.underlying3 k0
    simp only [List.cons.injEq, and_true] at e0
    subst e0
    have k1 : DataW.trod enc Try.prog w base spare held n' 3 [c1] = some y1 := by simpa [s1, s2] using hf 1 _ rfl
    obtain ⟨v1, e1, _, w1⟩ := DataW.trod_int Try.underlying3 k1
    simp only [List.cons.injEq, and_true] at e1
    subst e1
    have k2 : DataW.trod enc Try.prog w base spare held n' 3 [c2] = some y2 := by simpa [s1, s2] using hf 2 _ rfl
    obtain ⟨v2, e2, _, w2⟩ := DataW.trod_int Try.underlying3 k2
    simp only [List.cons.injEq, and_true] at e2
    subst e2
    have k3 : DataW.trod enc Try.prog w base spare held n' 3 [c3] = some y3 := by simpa [s1, s2] using hf 3 _ rfl
    obtain ⟨v3, e3, _, w3⟩ := DataW.trod_int Try.underlying3 k3
    simp only [List.cons.injEq, and_true] at e3
    subst e3
    have k4 : DataW.trod enc Try.prog w base spare held n' 3 [c4] = some y4 := by simpa [s1, s2] using hf 4 _ rfl
    obtain ⟨v4, e4, _, w4⟩ := DataW.trod_int Try.underlying3 k4
    simp only [List.cons.injEq, and_true] at e4
    subst e4
    have k5 : DataW.trod enc Try.prog w base spare held n' 22 [c5] = some y5 := by simpa [s1, s2] using hf 5 _ rfl
    obtain ⟨v5, e5, _, w5⟩ := DataW.trod_int Try.underlying22 k5
    simp only [List.cons.injEq, and_true] at e5
    subst e5
    have k6 : DataW.trod enc Try.prog w base spare held n' 3 [c6] = some y6 := by simpa [s1, s2] using hf 6 _ rfl
    obtain ⟨v6, e6, _, w6⟩ := DataW.trod_int Try.underlying3 k6
    simp only [List.cons.injEq, and_true] at e6
    subst e6
    refine ⟨⟨v0, v1, v2, v3, v4, v5, v6⟩, ⟨w0, w1, w2, w3, w4, w5, w6⟩, fun j v hj => ?_⟩
    have hj7 : j < 7 := by
      have := (Array.getElem?_eq_some_iff.1 hj).1
      simpa [Opr.cells] using this
    have := hat j hj7
    rw [Go.Deep.add_add] at this
    rw [this, ← hj]
    simp [Opr.cells]
set_option maxRecDepth 100000 in
theorem open_block {r : Reach} {b0 : Nat} {v : Value} {d : DataW H} {p : List MemPlace} (hv : Value.okWide Try.prog w r b0 25 v) (h : DataW.Trod enc Try.prog w 0 (fun _ => true) true 25 v d p) (lt : ∀ x ∈ p, x.block < w.heap.size)
    (hsz : ∀ n ∈ d.weights Try.prog 25, n ≤ reachBytes) :
    ∃ (pc cnt byt : Int) (os : List Opr) (ao : Option Addr) (cap : Nat), v = .agg #[.int .u32 pc, .int .i64 cnt, .int .i64 byt, .slice ao os.length cap] ∧ (Lit.int .u32 pc).wf = true ∧ (Lit.int .i64 cnt).wf = true ∧ (Lit.int .i64 byt).wf = true ∧
      (∀ o ∈ os, OprOk o) ∧ Ops os ao cap w ∧ os.length * 56 ≤ 140737488351232 := by
  obtain ⟨v0, v1, v2, v3, y0, y1, y2, y3, n, rfl, rfl, rfl, t0, t1, t2, t3⟩ := open_agg4 Try.underlying25 (by kernel_rfl) (by kernel_rfl) hv h
  obtain ⟨pc, e0, _, w0⟩ := DataW.trod_int Try.underlying22 t0
  obtain ⟨cnt, e1, _, w1⟩ := DataW.trod_int Try.underlying3 t1
  obtain ⟨byt, e2, _, w2⟩ := DataW.trod_int Try.underlying3 t2
  simp only [List.cons.injEq, and_true] at e0 e1 e2
  subst e0 e1 e2
  have hC : Try.prog.cellsOf 31 = 7 := by kernel_rfl
  have hB : Try.prog.bytesOf 31 = 56 := by kernel_rfl
  rcases open_slice Try.underlying23 t3 with ⟨e3, hx⟩ | ⟨a, len, cap, m, n', D, Pl, e3, _, hl, hm, hmm, hx, hi⟩
  · simp only [List.cons.injEq, and_true] at e3
    subst e3
    exact ⟨pc, cnt, byt, [], none, 0, rfl, w0, w1, w2, fun o ho => (nomatch ho), ⟨Nat.le_refl _, by unfold maxLen; omega, fun h => absurd h (by simp)⟩, by simp⟩
  · simp only [List.cons.injEq, and_true] at e3
    subst e3
    simp only [if_true] at hmm
    subst hmm
    obtain ⟨os, hos, hp⟩ := list_of (p := fun i o => OprOk o ∧ ∀ (j : Nat) v, o.cells[j]? = some v → w.cell? (a.add (i * 7 + j)) = some v) len (fun i hlt => by
      obtain ⟨cs', hc, ht⟩ := hi i (by omega)
      rw [hC] at hc
      exact open_elem hc ht)
    subst hos
    refine ⟨pc, cnt, byt, os, some a, m, rfl, w0, w1, w2, fun o ho => ?_, ⟨hl, hm, fun h0 => ?_⟩, ?_⟩
    · obtain ⟨i, hi'⟩ := List.mem_iff_getElem?.1 ho
      exact (hp i o hi').1
    · obtain ⟨b, off, spot⟩ := a
      obtain ⟨o, ho⟩ : ∃ o, os[0]? = some o := ⟨os[0], List.getElem?_eq_getElem h0⟩
      have hspot : spot = none := by simpa [Addr.add] using World.cell?_spot ((hp 0 o ho).2 0 _ rfl)
      subst hspot
      have hbW : b < w.heap.size := lt (.cell b off) (by
        rw [hx]
        simp only [List.mem_append]
        exact .inr (.inr (.inr (.inl (MemPlace.mem_row.2 ⟨0, by rw [hC]; omega, by simp⟩)))))
      refine ⟨b, off, rfl, hbW, fun i o ho j v hj => ?_⟩
      rw [Nat.add_assoc, ← Addr.add_lit]
      exact (hp i o ho).2 j v hj
    · have := hsz (((List.range os.length).map D).length * 56 + ((List.range (m - os.length)).map fun j => D (os.length + j)).length * 56) (by
        simp [DataW.weights, DataW.weightsEach, Try.underlying25, Try.underlying23, hx, hB]
        exact .inr (.inr (.inr (.inl (by omega)))))
      simp [reachBytes] at this
      omega
end
end Go.Proofs.Ytcjcmnnhmajocab.Ic
