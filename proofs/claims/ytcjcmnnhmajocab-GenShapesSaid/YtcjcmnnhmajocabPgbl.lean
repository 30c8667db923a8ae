/- crossgrainlaw2.twin: a block with operations of its own. -/
import Derived.Laws.StructEq
import Derived.ArgAppend
import Derived.LoopN
import Derived.Outline
import Derived.Deep.LoopGhost
import Derived.Deep.QuietTactic
import Derived.BigQuiet
import Derived.Test.YtcjcmnnhmajocabPgaa
namespace Go.Proofs.Ytcjcmnnhmajocab.Ic
open Go.RowKit Kt
set_option linter.unusedVariables false
set_option linter.unusedSimpArgs false
theorem eqFields_step {P : Program} (d : Nat) (xs ys : Array Value) (f : Field) (fs : List Field) (hn : f.name ≠ "_") {k k' : IntKind} {a b : Int} {r : Bool} (hu : P.underlying f.type = some (.int k'))
    (p1 : ∀ w : World, (part f.type xs f.offset).run P w = .ok (.int k a) w) (p2 : ∀ w : World, (part f.type ys f.offset).run P w = .ok (.int k b) w) (ih : ∀ w : World, (Op.eqFields (d + 1) xs ys fs).run P w = .ok r w) :
    ∀ w : World, (Op.eqFields (d + 1) xs ys (f :: fs)).run P w = .ok (a == b && r) w := by
  intro w
  simp only [Op.eqFields, if_pos hn, Sem.run_bind, p1, p2, Result.andThen_ok, run_equalIn_int w d f.type k k' a b hu]
  cases h : (a == b)
  · simp
  · simp [ih]
noncomputable def fldO (i : Nat) : Field := (Try.prog.fieldsOf 31)[i]!
theorem fldsO : (Try.prog.fieldsOf 31).toList = [fldO 0, fldO 1, fldO 2, fldO 3, fldO 4, fldO 5, fldO 6] := by kernel_rfl
theorem eq_op (o d a b c n k : Int) : ∀ w : World, (binOp .neq 31 (.agg #[.int .i64 o, .int .i64 d, .int .i64 a, .int .i64 b, .int .i64 c, .int .u32 n, .int .i64 k])
    (.agg #[.int .i64 o, .int .i64 d, .int .i64 a, .int .i64 b, .int .i64 c, .int .u32 n, .int .i64 k])).run Try.prog w = .ok (.bool false) w := by
  intro w
  have h : ∀ w : World, (Op.eqFields 9999 #[.int .i64 o, .int .i64 d, .int .i64 a, .int .i64 b, .int .i64 c, .int .u32 n, .int .i64 k] #[.int .i64 o, .int .i64 d, .int .i64 a, .int .i64 b, .int .i64 c, .int .u32 n, .int .i64 k]
      [fldO 0, fldO 1, fldO 2, fldO 3, fldO 4, fldO 5, fldO 6]).run Try.prog w = .ok (o == o && (d == d && (a == a && (b == b && (c == c && (n == n && (k == k && true))))))) w := by
    refine eqFields_step 9998 _ _ _ _ (by decide +kernel) (k := .i64) (k' := .i64) (by kernel_rfl) (fun w => by kernel_rfl) (fun w => by kernel_rfl) ?_
    refine eqFields_step 9998 _ _ _ _ (by decide +kernel) (k := .i64) (k' := .i64) (by kernel_rfl) (fun w => by kernel_rfl) (fun w => by kernel_rfl) ?_
    refine eqFields_step 9998 _ _ _ _ (by decide +kernel) (k := .i64) (k' := .i64) (by kernel_rfl) (fun w => by kernel_rfl) (fun w => by kernel_rfl) ?_
    refine eqFields_step 9998 _ _ _ _ (by decide +kernel) (k := .i64) (k' := .i64) (by kernel_rfl) (fun w => by kernel_rfl) (fun w => by kernel_rfl) ?_
    refine eqFields_step 9998 _ _ _ _ (by decide +kernel) (k := .i64) (k' := .i64) (by kernel_rfl) (fun w => by kernel_rfl) (fun w => by kernel_rfl) ?_
    refine eqFields_step 9998 _ _ _ _ (by decide +kernel) (k := .u32) (k' := .u32) (by kernel_rfl) (fun w => by kernel_rfl) (fun w => by kernel_rfl) ?_
    refine eqFields_step 9998 _ _ _ _ (by decide +kernel) (k := .i64) (k' := .i64) (by kernel_rfl) (fun w => by kernel_rfl) (fun w => by kernel_rfl) ?_
    intro w
    simp [Op.eqFields]
  rw [← fldsO] at h
  have hs : (Op.equalIn 10000 31 (.agg #[.int .i64 o, .int .i64 d, .int .i64 a, .int .i64 b, .int .i64 c, .int .u32 n, .int .i64 k]) (.agg #[.int .i64 o, .int .i64 d, .int .i64 a, .int .i64 b, .int .i64 c, .int .u32 n, .int .i64 k])).run Try.prog w = .ok true w := by
    rw [run_equalIn_struct w 9999 31 _ _ (by kernel_rfl) (by kernel_rfl), h]
    simp
  rw [run_neq_struct, hs]
  rfl
end Go.Proofs.Ytcjcmnnhmajocab.Ic
namespace Go.Proofs.Ytcjcmnnhmajocab.Ic
open Go.RowKit Kt
set_option linter.unusedVariables false
set_option linter.unusedSimpArgs false
def flat (os : List Opr) : List Value := os.flatMap fun o => o.cells.toList
theorem flat_len (os : List Opr) : (flat os).length = os.length * 7 := by
  induction os with
  | nil => rfl
  | cons o os ih =>
    have : flat (o :: os) = o.cells.toList ++ flat os := rfl
    rw [this, List.length_append, ih, List.length_cons]
    have h : o.cells.toList.length = 7 := rfl
    omega
theorem flat_get (os : List Opr) : ∀ (i r : Nat), r < 7 → (flat os)[i * 7 + r]? = (os[i]?).bind (·.cells[r]?) := by
  induction os with
  | nil => intro i r _; simp [flat]
  | cons o os ih =>
    intro i r hr
    have e : flat (o :: os) = o.cells.toList ++ flat os := rfl
    have h : o.cells.toList.length = 7 := rfl
    rw [e]
    cases i with
    | zero =>
      rw [Nat.zero_mul, Nat.zero_add, List.getElem?_append_left (by omega)]
      simp
    | succ i =>
      rw [List.getElem?_append_right (by omega), h, show (i + 1) * 7 + r - 7 = i * 7 + r by omega, ih i r hr]
      simp
theorem flat_one (os : List Opr) : ∀ u ∈ flat os, u.oneCell' = true := by
  intro u hu
  obtain ⟨o, _, ho⟩ := List.mem_flatMap.1 hu
  simp only [Opr.cells, List.mem_cons, List.not_mem_nil, or_false] at ho
  rcases ho with rfl | rfl | rfl | rfl | rfl | rfl | rfl <;> rfl
theorem Ops.flat {os : List Opr} {ao : Option Addr} {cap : Nat} {w : World} (h : Ops os ao cap w) (h0 : 0 < os.length) :
    ∃ g off, ao = some ⟨g, off, none⟩ ∧ g < w.heap.size ∧ ∀ j u, (flat os)[j]? = some u → w.cell? ((⟨g, off, none⟩ : Addr).add j) = some u := by
  obtain ⟨g, off, e, hg, hc⟩ := h.2.2 h0
  refine ⟨g, off, e, hg, fun j u hj => ?_⟩
  rw [Addr.add_lit]
  have hjj : j / 7 * 7 + j % 7 = j := by omega
  rw [← hjj, flat_get os (j / 7) (j % 7) (by omega)] at hj
  obtain ⟨o, ho, hr⟩ := Option.bind_eq_some_iff.1 hj
  have := hc (j / 7) o ho (j % 7) u hr
  rw [show off + j / 7 * 7 + j % 7 = off + j by omega] at this
  exact this
theorem Ops.of_own {os : List Opr} {base : Nat} {v : Value} {w : World} (h : w.ownsRow base 31 7 v os.length (Ic.flat os)) (h0 : 0 < os.length) : ∃ g c1, v = .slice (some ⟨g, 0, none⟩) os.length c1 ∧ base ≤ g ∧ Ops os (some ⟨g, 0, none⟩) c1 w := by
  rcases h.2 with ⟨rfl, hn⟩ | ⟨g, c1, cur, rfl, hg, hrow, hle, hmx, hsz, htk⟩
  · omega
  · refine ⟨g, c1, rfl, hg, hle, hmx, fun _ => ⟨g, 0, rfl, ?_, fun i o ho j u hj => ?_⟩⟩
    · exact (Array.getElem?_eq_some_iff.1 hrow).1
    · have hi := (List.getElem?_eq_some_iff.1 ho).1
      have hj7 : j < 7 := by
        have := (Array.getElem?_eq_some_iff.1 hj).1
        simpa [Opr.cells] using this
      have h2 : (cur.toList.take (os.length * 7))[i * 7 + j]? = (Ic.flat os)[i * 7 + j]? := by rw [htk]
      rw [flat_get os i j hj7, ho, List.getElem?_take, if_pos (by omega)] at h2
      rw [Nat.zero_add, cell_of_row w g (i * 7 + j) cur 31 (0, 0) hrow, ← Array.getElem?_toList, h2]
      exact hj
theorem op_info : ∃ i z, Try.prog.info? 31 = some i ∧ i.zero = some z ∧ i.size = 7 ∧ i.bytes = 56 ∧ z.cells.size = 7 := by
  have h : (Try.prog.info? 31).map (fun i => (i.zero.map (·.cells.size), i.size, i.bytes)) = some (some 7, 7, 56) := by kernel_rfl
  obtain ⟨i, hi, hz⟩ := Option.map_eq_some_iff.1 h
  simp only [Prod.mk.injEq] at hz
  obtain ⟨z, hz1, hz2⟩ := Option.map_eq_some_iff.1 hz.1
  exact ⟨i, z, hi, hz1, hz.2.1, hz.2.2, hz2⟩
end Go.Proofs.Ytcjcmnnhmajocab.Ic
