/- crossgrainlaw2.twin, sameOps: operations copied, compared. -/
import Derived.Test.YtcjcmnnhmajocaaIrG
import Derived.Test.YtcjcmnnhmajocaaPost
import Derived.Laws.StructEq
import Derived.ArgAppend
import Derived.LoopN
import Derived.Outline
import Derived.Deep.LoopGhost
import Derived.Deep.QuietTactic
import Derived.BigQuiet
namespace Go.Proofs.Ytcjcmnnhmajocaa.Ic
open Go.RowKit Kt
set_option linter.unusedVariables false
set_option linter.unusedSimpArgs false
theorem eqFields_step {P : Program} (d : Nat) (xs ys : Array Value) (f : Field) (fs : List Field) (hn : f.name ≠ "_") {k k' : IntKind} {a b : Int} {r : Bool} (hu : P.underlying f.type = some (.int k'))
    (p1 : ∀ w : World, (part f.type xs f.offset).run P w = .ok (.int k a) w) (p2 : ∀ w : World, (part f.type ys f.offset).run P w = .ok (.int k b) w) (ih : ∀ w : World, (Op.eqFields (d + 1) xs ys fs).run P w = .ok r w) :
    ∀ w : World, (Op.eqFields (d + 1) xs ys (f :: fs)).run P w = .ok (a == b && r) w := by
  intro w
  simp only [Op.eqFields, if_pos hn, Sem.run_bind, p1, p2, Result.andThen_ok, run_equalIn_int w d f.type k k' a b hu]
  cases h : (a == b)
  · simp
  · simp [ih]
noncomputable def fldO (i : Nat) : Field := (Try.prog.fieldsOf 88)[i]!
theorem fldsO : (Try.prog.fieldsOf 88).toList = [fldO 0, fldO 1, fldO 2, fldO 3, fldO 4, fldO 5, fldO 6] := by kernel_rfl
theorem eq_op (o d a b c n k : Int) : ∀ w : World, (binOp .neq 88 (.agg #[.int .i64 o, .int .i64 d, .int .i64 a, .int .i64 b, .int .i64 c, .int .u32 n, .int .i64 k])
    (.agg #[.int .i64 o, .int .i64 d, .int .i64 a, .int .i64 b, .int .i64 c, .int .u32 n, .int .i64 k])).run Try.prog w = .ok (.bool false) w := by
  intro w
  have h : ∀ w : World, (Op.eqFields 9999 #[.int .i64 o, .int .i64 d, .int .i64 a, .int .i64 b, .int .i64 c, .int .u32 n, .int .i64 k] #[.int .i64 o, .int .i64 d, .int .i64 a, .int .i64 b, .int .i64 c, .int .u32 n, .int .i64 k]
      [fldO 0, fldO 1, fldO 2, fldO 3, fldO 4, fldO 5, fldO 6]).run Try.prog w = .ok (o == o && (d == d && (a == a && (b == b && (c == c && (n == n && (k == k && true))))))) w := by
    refine eqFields_step 9998 _ _ _ _ (by decide +kernel) (k := .i64) (k' := .i64) (by kernel_rfl) (fun w => by kernel_rfl) (fun w => by kernel_rfl) ?_
    refine eqFields_step 9998 _ _ _ _ (by decide +kernel) (k := .i64) (k' := .i64) (by kernel_rfl) (fun w => by kernel_rfl) (fun w => by kernel_rfl) ?_
    refine eqFields_step 9998 _ _ _ _ (by decide +kernel) (k := .i64) (k' := .i64) (by kernel_rfl) (fun w => by kernel_rfl) (fun w => by kernel_rfl) ?_
    refine eqFields_step 9998 _ _ _ _ (by decide +kernel) (k := .i64) (k' := .i64) (by kernel_rfl) (fun w => by kernel_rfl) (fun w => by kernel_rfl) ?_
    refine eqFields_step 9998 _ _ _ _ (by decide +kernel) (k := .i64) (k' := .i64) (by kernel_rfl) (fun w => by kernel_rfl) (fun w => by kernel_rfl) ?_
    refine eqFields_step 9998 _ _ _ _ (by decide +kernel) (k := .u32) (k' := .u32) (by kernel_rfl) (fun w => by kernel_rfl) (fun w => by kernel_rfl) ?_
    refine eqFields_step 9998 _ _ _ _ (by decide +kernel) (k := .i64) (k' := .i64) (by kernel_rfl) (fun w => by kernel_rfl) (fun w => by kernel_rfl) ?_
    intro w
    simp [Op.eqFields]
  rw [← fldsO] at h
  have hs : (Op.equalIn 10000 88 (.agg #[.int .i64 o, .int .i64 d, .int .i64 a, .int .i64 b, .int .i64 c, .int .u32 n, .int .i64 k]) (.agg #[.int .i64 o, .int .i64 d, .int .i64 a, .int .i64 b, .int .i64 c, .int .u32 n, .int .i64 k])).run Try.prog w = .ok true w := by
    rw [run_equalIn_struct w 9999 88 _ _ (by kernel_rfl) (by kernel_rfl), h]
    simp
  rw [run_neq_struct, hs]
  rfl
set_option maxHeartbeats 4000000 in
theorem same_ops (os : List Opr) (ao : Option Addr) (cap : Nat) (ao1 : Option Addr) (c1 : Nat) (w : World) (h : Ops os ao cap w) (h1 : Ops os ao1 c1 w) :
    Calls Try.prog 17 #[.slice ao os.length cap, .slice ao1 os.length c1] w fun e w' => e = .returned (.bool true) ∧ Below w.heap.size w w' := by
  have hL : os.length ≤ 9223372036854775807 := by have := h.1; have h2 := h.2.1; unfold maxLen at h2; omega
  have hcap := h.1
  have hcap1 := h1.1
  have H := Lib.hid h
  have H1 := Lib.hid h1
  clear h h1
  go_enter Try.func17, Try.ntmps17
  go_wp2
  go_loopg [13] os.length (fun k i wr => ∃ j : Nat, k = os.length - j ∧ j ≤ os.length ∧ i = .int .i64 j ∧ Below w.heap.size w wr)
  case atStart => exact ⟨0, rfl, Nat.zero_le _, rfl, Below.refl _ _⟩
  case round =>
    obtain ⟨j, hk, hj, rfl, hb⟩ := hrel
    have HK := Lib.hid hk
    clear hk
    by_cases hlt : j < os.length
    · have k0 := H.out.keep hb
      have k1 := H1.out.keep hb
      obtain ⟨g, off, rfl, hg, hc⟩ := k0.2.2 (by omega)
      obtain ⟨g1, off1, rfl, hg1, hc1⟩ := k1.2.2 (by omega)
      obtain ⟨o, ho⟩ : ∃ o, os[j]? = some o := ⟨os[j], List.getElem?_eq_getElem hlt⟩
      have c0 : wr.cell? ⟨g, off + j * 7, none⟩ = some (.int .i64 o.k) := hc j o ho 0 _ rfl
      have c1 : wr.cell? ⟨g, off + j * 7 + 1, none⟩ = some (.int .i64 o.w) := hc j o ho 1 _ rfl
      have c2 : wr.cell? ⟨g, off + j * 7 + 2, none⟩ = some (.int .i64 o.a) := hc j o ho 2 _ rfl
      have c3 : wr.cell? ⟨g, off + j * 7 + 3, none⟩ = some (.int .i64 o.b) := hc j o ho 3 _ rfl
      have c4 : wr.cell? ⟨g, off + j * 7 + 4, none⟩ = some (.int .i64 o.c) := hc j o ho 4 _ rfl
      have c5 : wr.cell? ⟨g, off + j * 7 + 5, none⟩ = some (.int .u32 o.kn) := hc j o ho 5 _ rfl
      have c6 : wr.cell? ⟨g, off + j * 7 + 6, none⟩ = some (.int .i64 o.n) := hc j o ho 6 _ rfl
      have d0 : wr.cell? ⟨g1, off1 + j * 7, none⟩ = some (.int .i64 o.k) := hc1 j o ho 0 _ rfl
      have d1 : wr.cell? ⟨g1, off1 + j * 7 + 1, none⟩ = some (.int .i64 o.w) := hc1 j o ho 1 _ rfl
      have d2 : wr.cell? ⟨g1, off1 + j * 7 + 2, none⟩ = some (.int .i64 o.a) := hc1 j o ho 2 _ rfl
      have d3 : wr.cell? ⟨g1, off1 + j * 7 + 3, none⟩ = some (.int .i64 o.b) := hc1 j o ho 3 _ rfl
      have d4 : wr.cell? ⟨g1, off1 + j * 7 + 4, none⟩ = some (.int .i64 o.c) := hc1 j o ho 4 _ rfl
      have d5 : wr.cell? ⟨g1, off1 + j * 7 + 5, none⟩ = some (.int .u32 o.kn) := hc1 j o ho 5 _ rfl
      have d6 : wr.cell? ⟨g1, off1 + j * 7 + 6, none⟩ = some (.int .i64 o.n) := hc1 j o ho 6 _ rfl
      have hlt' : (j : Int) < (os.length : Int) := by omega
      have heq := eq_op o.k o.w o.a o.b o.c o.kn o.n
      clear hc hc1 ho k0 k1
      go_wp2
      go_quiet (fail)
      go_wp2
      go_roundg (os.length - (j + 1))
      case measure =>
        have := HK.out
        omega
      case rel => exact ⟨j + 1, rfl, by omega, by simp, ⟨hb.os, hb.tape, hb.output, hb.size, hb.block⟩⟩
    · obtain rfl : j = os.length := by omega
      go_wp2
      go_ret
      exact ⟨rfl, hb⟩
end Go.Proofs.Ytcjcmnnhmajocaa.Ic
