/- Lemmas. -/
import Derived.ProofKit
import Derived.SizedLaws
import Derived.Lib.SmallJoins
import Derived.Deep.Slices
import Derived.Deep.Fields
import Derived.ChangeSame
import Derived.RowKit
import GoSem.ClaimWide
import Derived.WideShapes
import Derived.Test.YtcjcmnnhmajocabPoaa
namespace Go.Proofs.Ytcjcmnnhmajocab.Ic
open Go.RowKit Go.ChangeShapes Go.WideShapes Go.Joins Go.Deep
set_option linter.unusedVariables false
theorem list_of {p : Nat → Opr → Prop} : ∀ n, (∀ i, i < n → ∃ o, p i o) → ∃ os : List Opr, os.length = n ∧ ∀ i o, os[i]? = some o → p i o
  | 0, _ => ⟨[], rfl, fun i o h => by simp at h⟩
  | n + 1, h => by
    obtain ⟨os, hl, hp⟩ := list_of n (fun i hi => h i (by omega))
    obtain ⟨o, ho⟩ := h n (by omega)
    refine ⟨os ++ [o], by simp [hl], fun i x hx => ?_⟩
    by_cases hi : i < n
    · rw [List.getElem?_append_left (by omega)] at hx
      exact hp i x hx
    · have hin : i < (os ++ [o]).length := (List.getElem?_eq_some_iff.1 hx).1
      obtain rfl : i = n := by simp [hl] at hin; omega
      rw [List.getElem?_append_right (by omega), hl, Nat.sub_self] at hx
      obtain rfl : o = x := by simpa using hx
      exact ho
structure OprOk (o : Opr) : Prop where
  k : (Lit.int .i64 o.k).wf = true
  w : (Lit.int .i64 o.w).wf = true
  a : (Lit.int .i64 o.a).wf = true
  b : (Lit.int .i64 o.b).wf = true
  c : (Lit.int .i64 o.c).wf = true
  kn : (Lit.int .u32 o.kn).wf = true
  n : (Lit.int .i64 o.n).wf = true
section
variable {H : Type} {enc : TypeId × Value → H} {w : World} {base : Nat} {spare : Nat → Bool} {held : Bool}
set_option maxRecDepth 100000 in
theorem open_elem {fuel : Nat} {a : Addr} {i : Nat} {x : DataW H × List MemPlace} {cs : List Value} (hc : w.cells? base (a.add (i * 7)) 7 = some cs) (h : DataW.trod enc Try.prog w base spare held fuel 31 cs = some x) :
    ∃ o : Opr, OprOk o ∧ ∀ (j : Nat) v, o.cells[j]? = some v → w.cell? (a.add (i * 7 + j)) = some v := by
  obtain ⟨ys, n', hn', hy, hlen, hyl, hf⟩ := DataW.trod_struct Try.underlying31 h
  obtain ⟨_, hcl, hat⟩ := World.cells?_some hc
  have s1 : Try.prog.cellsOf 3 = 1 := by kernel_rfl
  have s2 : Try.prog.cellsOf 22 = 1 := by kernel_rfl
  match cs, hcl, ys, hyl with
  | [c0, c1, c2, c3, c4, c5, c6], _, [y0, y1, y2, y3, y4, y5, y6], _ =>
    have k0 : DataW.trod enc Try.prog w base spare held n' 3 [c0] = some y0 := by simpa [s1, s2] using hf 0 _ rfl
    obtain ⟨v0, e0, _, w0⟩ := DataW.trod_int Try.underlying3 k0
    simp only [List.cons.injEq, and_true] at e0
    subst e0
    have k1 : DataW.trod enc Try.prog w base spare held n' 3 [c1] = some y1 := by simpa [s1, s2] using hf 1 _ rfl
    obtain ⟨v1, e1, _, w1⟩ := DataW.trod_int Try.underlying3 k1
    simp only [List.cons.injEq, and_true] at e1
    subst e1
    have k2 : DataW.trod enc Try.prog w base spare held n' 3 [c2] = some y2 := by simpa [s1, s2] using hf 2 _ rfl
    obtain ⟨v2, e2, _, w2⟩ := DataW.trod_int Try.underlying3 k2
    simp only [List.cons.injEq, and_true] at e2
    subst e2
    have k3 : DataW.trod enc Try.prog w base spare held n' 3 [c3] = some y3 := by simpa [s1, s2] using hf 3 _ rfl
    obtain ⟨v3, e3, _, w3⟩ := DataW.trod_int Try.underlying3 k3
    simp only [List.cons.injEq, and_true] at e3
    subst e3
    have k4 : DataW.trod enc Try.prog w base spare held n' 3 [c4] = some y4 := by simpa [s1, s2] using hf 4 _ rfl
    obtain ⟨v4, e4, _, w4⟩ := DataW.trod_int Try.underlying3 k4
    simp only [List.cons.injEq, and_true] at e4
    subst e4
    have k5 : DataW.trod enc Try.prog w base spare held n' 22 [c5] = some y5 := by simpa [s1, s2] using hf 5 _ rfl
    obtain ⟨v5, e5, _, w5⟩ := DataW.trod_int Try.underlying22 k5
    simp only [List.cons.injEq, and_true] at e5
    subst e5
    have k6 : DataW.trod enc Try.prog w base spare held n' 3 [c6] = some y6 := by simpa [s1, s2] using hf 6 _ rfl
    obtain ⟨v6, e6, _, w6⟩ := DataW.trod_int Try.underlying3 k6
    simp only [List.cons.injEq, and_true] at e6
    subst e6
    refine ⟨⟨v0, v1, v2, v3, v4, v5, v6⟩, ⟨w0, w1, w2, w3, w4, w5, w6⟩, fun j v hj => ?_⟩
    have hj7 : j < 7 := by
      have := (Array.getElem?_eq_some_iff.1 hj).1
      simpa [Opr.cells] using this
    have := hat j hj7
    rw [Go.Deep.add_add] at this
    rw [this, ← hj]
    simp [Opr.cells]
set_option maxRecDepth 100000 in
theorem open_block {r : Reach} {b0 : Nat} {v : Value} {d : DataW H} {p : List MemPlace} (hv : Value.okWide Try.prog w r b0 25 v) (h : DataW.Trod enc Try.prog w 0 (fun _ => true) true 25 v d p) (lt : ∀ x ∈ p, x.block < w.heap.size)
    (hsz : ∀ n ∈ d.weights Try.prog 25, n ≤ reachBytes) :
    ∃ (pc cnt byt : Int) (os : List Opr) (ao : Option Addr) (cap : Nat), v = .agg #[.int .u32 pc, .int .i64 cnt, .int .i64 byt, .slice ao os.length cap] ∧ (Lit.int .u32 pc).wf = true ∧ (Lit.int .i64 cnt).wf = true ∧ (Lit.int .i64 byt).wf = true ∧
      (∀ o ∈ os, OprOk o) ∧ Ops os ao cap w ∧ os.length * 56 ≤ 140737488351232 := by
  obtain ⟨v0, v1, v2, v3, y0, y1, y2, y3, n, rfl, rfl, rfl, t0, t1, t2, t3⟩ := open_agg4 Try.underlying25 (by kernel_rfl) (by kernel_rfl) hv h
  obtain ⟨pc, e0, _, w0⟩ := DataW.trod_int Try.underlying22 t0
  obtain ⟨cnt, e1, _, w1⟩ := DataW.trod_int Try.underlying3 t1
  obtain ⟨byt, e2, _, w2⟩ := DataW.trod_int Try.underlying3 t2
  simp only [List.cons.injEq, and_true] at e0 e1 e2
  subst e0 e1 e2
  have hC : Try.prog.cellsOf 31 = 7 := by kernel_rfl
  have hB : Try.prog.bytesOf 31 = 56 := by kernel_rfl
  rcases open_slice Try.underlying23 t3 with ⟨e3, hx⟩ | ⟨a, len, cap, m, n', D, Pl, e3, _, hl, hm, hmm, hx, hi⟩
  · simp only [List.cons.injEq, and_true] at e3
    subst e3
    exact ⟨pc, cnt, byt, [], none, 0, rfl, w0, w1, w2, fun o ho => (nomatch ho), ⟨Nat.le_refl _, by unfold maxLen; omega, fun h => absurd h (by simp)⟩, by simp⟩
  · simp only [List.cons.injEq, and_true] at e3
    subst e3
    simp only [if_true] at hmm
    subst hmm
    obtain ⟨os, hos, hp⟩ := list_of (p := fun i o => OprOk o ∧ ∀ (j : Nat) v, o.cells[j]? = some v → w.cell? (a.add (i * 7 + j)) = some v) len (fun i hlt => by
      obtain ⟨cs', hc, ht⟩ := hi i (by omega)
      rw [hC] at hc
      exact open_elem hc ht)
    subst hos
    refine ⟨pc, cnt, byt, os, some a, m, rfl, w0, w1, w2, fun o ho => ?_, ⟨hl, hm, fun h0 => ?_⟩, ?_⟩
    · obtain ⟨i, hi'⟩ := List.mem_iff_getElem?.1 ho
      exact (hp i o hi').1
    · obtain ⟨b, off, spot⟩ := a
      obtain ⟨o, ho⟩ : ∃ o, os[0]? = some o := ⟨os[0], List.getElem?_eq_getElem h0⟩
      have hspot : spot = none := by simpa [Addr.add] using World.cell?_spot ((hp 0 o ho).2 0 _ rfl)
      subst hspot
      have hbW : b < w.heap.size := lt (.cell b off) (by
        rw [hx]
        simp only [List.mem_append]
        exact .inr (.inr (.inr (.inl (MemPlace.mem_row.2 ⟨0, by rw [hC]; omega, by simp⟩)))))
      refine ⟨b, off, rfl, hbW, fun i o ho j v hj => ?_⟩
      rw [Nat.add_assoc, ← Addr.add_lit]
      exact (hp i o ho).2 j v hj
    · have := hsz (((List.range os.length).map D).length * 56 + ((List.range (m - os.length)).map fun j => D (os.length + j)).length * 56) (by
        simp [DataW.weights, DataW.weightsEach, Try.underlying25, Try.underlying23, hx, hB]
        exact .inr (.inr (.inr (.inl (by omega)))))
      simp [reachBytes] at this
      omega
end
end Go.Proofs.Ytcjcmnnhmajocab.Ic
namespace Go.Proofs.Ytcjcmnnhmajocab.Kt
open Go
variable {P : Program} {w : World} {r : Reach} {base : Nat} {t : TypeId} {v : Value}
def rowly (P : Program) (t : TypeId) : Bool := match P.underlying t with
  | some (.struct _) => true
  | some (.array _ _) => true
  | _ => false
theorem okWide_cells {n : Nat} {ts : List TypeId} (hu : rowly P t = true) (hc : P.cellsOf t = n) (ht : P.cellTypes P.depth t = some ts) (h : Value.okWide P w r base t v) :
    ∃ cs, v = .agg cs ∧ cs.size = n ∧ ∀ (i : Nat) (x : Value) (u : TypeId), cs[i]? = some x → ts[i]? = some u → Cell.okWide P w r base u x := by
  have h' : ∃ cs, v = .agg cs ∧ cs.size = P.cellsOf t ∧ Row.okWide P w r base t cs := by
    unfold rowly at hu
    unfold Value.okWide at h
    cases hx : P.underlying t with
    | none => simp [hx] at hu
    | some d => cases d <;> simp_all
  obtain ⟨cs, h1, h2, ts', h3, _, h5⟩ := h'
  rw [ht] at h3
  obtain rfl := Option.some.inj h3
  refine ⟨cs, h1, h2.trans hc, fun i x u hi hu' => ?_⟩
  obtain ⟨u2, e1, e2⟩ := h5 i x hi
  have hlt : i < ts.length := by
    by_cases hh : i < ts.length
    · exact hh
    · rw [List.getElem?_eq_none (by omega)] at hu'; cases hu'
  rw [Nat.mod_eq_of_lt hlt, hu'] at e1
  obtain rfl := Option.some.inj e1
  exact e2
theorem cell_int {u : TypeId} {k : IntKind} {x : Value} (hu : P.underlying u = some (.int k)) (h : Cell.okWide P w r base u x) : ∃ n, x = .int k n ∧ (Lit.int k n).wf = true := by
  simp only [Cell.okWide, hu] at h
  cases x <;> simp_all [Cell.ok, Lit.wf, IntKind.has]
theorem cell_bool {u : TypeId} {x : Value} (hu : P.underlying u = some .bool) (h : Cell.okWide P w r base u x) : ∃ b, x = .bool b := by
  simp only [Cell.okWide, hu] at h
  cases x <;> simp_all [Cell.ok]
theorem value_int {k : IntKind} (hu : P.underlying t = some (.int k)) (h : Value.okWide P w r base t v) : ∃ n, v = .int k n ∧ (Lit.int k n).wf = true := by
  simp only [Value.okWide, Cell.okWide, hu] at h
  cases v <;> simp_all [Cell.ok, Lit.wf, IntKind.has]
theorem size2 {cs : Array Value} (h : cs.size = 2) : ∃ x0 x1, cs = #[x0, x1] := by
  rcases cs with ⟨l⟩
  match l, h with
  | [x0, x1], _ => exact ⟨x0, x1, rfl⟩
theorem size3 {cs : Array Value} (h : cs.size = 3) : ∃ x0 x1 x2, cs = #[x0, x1, x2] := by
  rcases cs with ⟨l⟩
  match l, h with
  | [x0, x1, x2], _ => exact ⟨x0, x1, x2, rfl⟩
theorem size4 {cs : Array Value} (h : cs.size = 4) : ∃ x0 x1 x2 x3, cs = #[x0, x1, x2, x3] := by
  rcases cs with ⟨l⟩
  match l, h with
  | [x0, x1, x2, x3], _ => exact ⟨x0, x1, x2, x3, rfl⟩
theorem size5 {cs : Array Value} (h : cs.size = 5) : ∃ x0 x1 x2 x3 x4, cs = #[x0, x1, x2, x3, x4] := by
  rcases cs with ⟨l⟩
  match l, h with
  | [x0, x1, x2, x3, x4], _ => exact ⟨x0, x1, x2, x3, x4, rfl⟩
theorem size6 {cs : Array Value} (h : cs.size = 6) : ∃ x0 x1 x2 x3 x4 x5, cs = #[x0, x1, x2, x3, x4, x5] := by
  rcases cs with ⟨l⟩
  match l, h with
  | [x0, x1, x2, x3, x4, x5], _ => exact ⟨x0, x1, x2, x3, x4, x5, rfl⟩
theorem size7 {cs : Array Value} (h : cs.size = 7) : ∃ x0 x1 x2 x3 x4 x5 x6, cs = #[x0, x1, x2, x3, x4, x5, x6] := by
  rcases cs with ⟨l⟩
  match l, h with
  | [x0, x1, x2, x3, x4, x5, x6], _ => exact ⟨x0, x1, x2, x3, x4, x5, x6, rfl⟩
theorem size8 {cs : Array Value} (h : cs.size = 8) : ∃ x0 x1 x2 x3 x4 x5 x6 x7, cs = #[x0, x1, x2, x3, x4, x5, x6, x7] := by
  rcases cs with ⟨l⟩
  match l, h with
  | [x0, x1, x2, x3, x4, x5, x6, x7], _ => exact ⟨x0, x1, x2, x3, x4, x5, x6, x7, rfl⟩
theorem size9 {cs : Array Value} (h : cs.size = 9) : ∃ x0 x1 x2 x3 x4 x5 x6 x7 x8, cs = #[x0, x1, x2, x3, x4, x5, x6, x7, x8] := by
  rcases cs with ⟨l⟩
  match l, h with
  | [x0, x1, x2, x3, x4, x5, x6, x7, x8], _ => exact ⟨x0, x1, x2, x3, x4, x5, x6, x7, x8, rfl⟩
theorem size10 {cs : Array Value} (h : cs.size = 10) : ∃ x0 x1 x2 x3 x4 x5 x6 x7 x8 x9, cs = #[x0, x1, x2, x3, x4, x5, x6, x7, x8, x9] := by
  rcases cs with ⟨l⟩
  match l, h with
  | [x0, x1, x2, x3, x4, x5, x6, x7, x8, x9], _ => exact ⟨x0, x1, x2, x3, x4, x5, x6, x7, x8, x9, rfl⟩
theorem size11 {cs : Array Value} (h : cs.size = 11) : ∃ x0 x1 x2 x3 x4 x5 x6 x7 x8 x9 x10, cs = #[x0, x1, x2, x3, x4, x5, x6, x7, x8, x9, x10] := by
  rcases cs with ⟨l⟩
  match l, h with
  | [x0, x1, x2, x3, x4, x5, x6, x7, x8, x9, x10], _ => exact ⟨x0, x1, x2, x3, x4, x5, x6, x7, x8, x9, x10, rfl⟩
theorem size12 {cs : Array Value} (h : cs.size = 12) : ∃ x0 x1 x2 x3 x4 x5 x6 x7 x8 x9 x10 x11, cs = #[x0, x1, x2, x3, x4, x5, x6, x7, x8, x9, x10, x11] := by
  rcases cs with ⟨l⟩
  match l, h with
  | [x0, x1, x2, x3, x4, x5, x6, x7, x8, x9, x10, x11], _ => exact ⟨x0, x1, x2, x3, x4, x5, x6, x7, x8, x9, x10, x11, rfl⟩
theorem size13 {cs : Array Value} (h : cs.size = 13) : ∃ x0 x1 x2 x3 x4 x5 x6 x7 x8 x9 x10 x11 x12, cs = #[x0, x1, x2, x3, x4, x5, x6, x7, x8, x9, x10, x11, x12] := by
  rcases cs with ⟨l⟩
  match l, h with
  | [x0, x1, x2, x3, x4, x5, x6, x7, x8, x9, x10, x11, x12], _ => exact ⟨x0, x1, x2, x3, x4, x5, x6, x7, x8, x9, x10, x11, x12, rfl⟩
theorem size14 {cs : Array Value} (h : cs.size = 14) : ∃ x0 x1 x2 x3 x4 x5 x6 x7 x8 x9 x10 x11 x12 x13, cs = #[x0, x1, x2, x3, x4, x5, x6, x7, x8, x9, x10, x11, x12, x13] := by
  rcases cs with ⟨l⟩
  match l, h with
  | [x0, x1, x2, x3, x4, x5, x6, x7, x8, x9, x10, x11, x12, x13], _ => exact ⟨x0, x1, x2, x3, x4, x5, x6, x7, x8, x9, x10, x11, x12, x13, rfl⟩
theorem size15 {cs : Array Value} (h : cs.size = 15) : ∃ x0 x1 x2 x3 x4 x5 x6 x7 x8 x9 x10 x11 x12 x13 x14, cs = #[x0, x1, x2, x3, x4, x5, x6, x7, x8, x9, x10, x11, x12, x13, x14] := by
  rcases cs with ⟨l⟩
  match l, h with
  | [x0, x1, x2, x3, x4, x5, x6, x7, x8, x9, x10, x11, x12, x13, x14], _ => exact ⟨x0, x1, x2, x3, x4, x5, x6, x7, x8, x9, x10, x11, x12, x13, x14, rfl⟩
theorem size16 {cs : Array Value} (h : cs.size = 16) : ∃ x0 x1 x2 x3 x4 x5 x6 x7 x8 x9 x10 x11 x12 x13 x14 x15, cs = #[x0, x1, x2, x3, x4, x5, x6, x7, x8, x9, x10, x11, x12, x13, x14, x15] := by
  rcases cs with ⟨l⟩
  match l, h with
  | [x0, x1, x2, x3, x4, x5, x6, x7, x8, x9, x10, x11, x12, x13, x14, x15], _ => exact ⟨x0, x1, x2, x3, x4, x5, x6, x7, x8, x9, x10, x11, x12, x13, x14, x15, rfl⟩
theorem size17 {cs : Array Value} (h : cs.size = 17) : ∃ x0 x1 x2 x3 x4 x5 x6 x7 x8 x9 x10 x11 x12 x13 x14 x15 x16, cs = #[x0, x1, x2, x3, x4, x5, x6, x7, x8, x9, x10, x11, x12, x13, x14, x15, x16] := by
  rcases cs with ⟨l⟩
  match l, h with
  | [x0, x1, x2, x3, x4, x5, x6, x7, x8, x9, x10, x11, x12, x13, x14, x15, x16], _ => exact ⟨x0, x1, x2, x3, x4, x5, x6, x7, x8, x9, x10, x11, x12, x13, x14, x15, x16, rfl⟩
theorem size18 {cs : Array Value} (h : cs.size = 18) : ∃ x0 x1 x2 x3 x4 x5 x6 x7 x8 x9 x10 x11 x12 x13 x14 x15 x16 x17, cs = #[x0, x1, x2, x3, x4, x5, x6, x7, x8, x9, x10, x11, x12, x13, x14, x15, x16, x17] := by
  rcases cs with ⟨l⟩
  match l, h with
  | [x0, x1, x2, x3, x4, x5, x6, x7, x8, x9, x10, x11, x12, x13, x14, x15, x16, x17], _ => exact ⟨x0, x1, x2, x3, x4, x5, x6, x7, x8, x9, x10, x11, x12, x13, x14, x15, x16, x17, rfl⟩
theorem size19 {cs : Array Value} (h : cs.size = 19) : ∃ x0 x1 x2 x3 x4 x5 x6 x7 x8 x9 x10 x11 x12 x13 x14 x15 x16 x17 x18, cs = #[x0, x1, x2, x3, x4, x5, x6, x7, x8, x9, x10, x11, x12, x13, x14, x15, x16, x17, x18] := by
  rcases cs with ⟨l⟩
  match l, h with
  | [x0, x1, x2, x3, x4, x5, x6, x7, x8, x9, x10, x11, x12, x13, x14, x15, x16, x17, x18], _ => exact ⟨x0, x1, x2, x3, x4, x5, x6, x7, x8, x9, x10, x11, x12, x13, x14, x15, x16, x17, x18, rfl⟩
theorem size20 {cs : Array Value} (h : cs.size = 20) : ∃ x0 x1 x2 x3 x4 x5 x6 x7 x8 x9 x10 x11 x12 x13 x14 x15 x16 x17 x18 x19, cs = #[x0, x1, x2, x3, x4, x5, x6, x7, x8, x9, x10, x11, x12, x13, x14, x15, x16, x17, x18, x19] := by
  rcases cs with ⟨l⟩
  match l, h with
  | [x0, x1, x2, x3, x4, x5, x6, x7, x8, x9, x10, x11, x12, x13, x14, x15, x16, x17, x18, x19], _ => exact ⟨x0, x1, x2, x3, x4, x5, x6, x7, x8, x9, x10, x11, x12, x13, x14, x15, x16, x17, x18, x19, rfl⟩
theorem size21 {cs : Array Value} (h : cs.size = 21) : ∃ x0 x1 x2 x3 x4 x5 x6 x7 x8 x9 x10 x11 x12 x13 x14 x15 x16 x17 x18 x19 x20, cs = #[x0, x1, x2, x3, x4, x5, x6, x7, x8, x9, x10, x11, x12, x13, x14, x15, x16, x17, x18, x19, x20] := by
  rcases cs with ⟨l⟩
  match l, h with
  | [x0, x1, x2, x3, x4, x5, x6, x7, x8, x9, x10, x11, x12, x13, x14, x15, x16, x17, x18, x19, x20], _ => exact ⟨x0, x1, x2, x3, x4, x5, x6, x7, x8, x9, x10, x11, x12, x13, x14, x15, x16, x17, x18, x19, x20, rfl⟩
theorem size22 {cs : Array Value} (h : cs.size = 22) : ∃ x0 x1 x2 x3 x4 x5 x6 x7 x8 x9 x10 x11 x12 x13 x14 x15 x16 x17 x18 x19 x20 x21, cs = #[x0, x1, x2, x3, x4, x5, x6, x7, x8, x9, x10, x11, x12, x13, x14, x15, x16, x17, x18, x19, x20, x21] := by
  rcases cs with ⟨l⟩
  match l, h with
  | [x0, x1, x2, x3, x4, x5, x6, x7, x8, x9, x10, x11, x12, x13, x14, x15, x16, x17, x18, x19, x20, x21], _ => exact ⟨x0, x1, x2, x3, x4, x5, x6, x7, x8, x9, x10, x11, x12, x13, x14, x15, x16, x17, x18, x19, x20, x21, rfl⟩
theorem size23 {cs : Array Value} (h : cs.size = 23) : ∃ x0 x1 x2 x3 x4 x5 x6 x7 x8 x9 x10 x11 x12 x13 x14 x15 x16 x17 x18 x19 x20 x21 x22, cs = #[x0, x1, x2, x3, x4, x5, x6, x7, x8, x9, x10, x11, x12, x13, x14, x15, x16, x17, x18, x19, x20, x21, x22] := by
  rcases cs with ⟨l⟩
  match l, h with
  | [x0, x1, x2, x3, x4, x5, x6, x7, x8, x9, x10, x11, x12, x13, x14, x15, x16, x17, x18, x19, x20, x21, x22], _ => exact ⟨x0, x1, x2, x3, x4, x5, x6, x7, x8, x9, x10, x11, x12, x13, x14, x15, x16, x17, x18, x19, x20, x21, x22, rfl⟩
theorem size24 {cs : Array Value} (h : cs.size = 24) : ∃ x0 x1 x2 x3 x4 x5 x6 x7 x8 x9 x10 x11 x12 x13 x14 x15 x16 x17 x18 x19 x20 x21 x22 x23, cs = #[x0, x1, x2, x3, x4, x5, x6, x7, x8, x9, x10, x11, x12, x13, x14, x15, x16, x17, x18, x19, x20, x21, x22, x23] := by
  rcases cs with ⟨l⟩
  match l, h with
  | [x0, x1, x2, x3, x4, x5, x6, x7, x8, x9, x10, x11, x12, x13, x14, x15, x16, x17, x18, x19, x20, x21, x22, x23], _ => exact ⟨x0, x1, x2, x3, x4, x5, x6, x7, x8, x9, x10, x11, x12, x13, x14, x15, x16, x17, x18, x19, x20, x21, x22, x23, rfl⟩
end Go.Proofs.Ytcjcmnnhmajocab.Kt
