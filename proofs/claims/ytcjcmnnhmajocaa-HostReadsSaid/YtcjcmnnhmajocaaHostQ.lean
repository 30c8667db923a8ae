import Derived.Test.YtcjcmnnhmajocaaHostN
import Derived.Laws.StructEq
namespace Go.Proofs.Ytcjcmnnhmajocaa.Ho
open Go.RowKit Kt
set_option linter.unusedVariables false
theorem eqFields_step {P : Program} (d : Nat) (xs ys : Array Value) (f : Field) (fs : List Field) (hn : f.name ≠ "_") {k k' : IntKind} {a b : Int} {r : Bool} (hu : P.underlying f.type = some (.int k'))
    (p1 : ∀ w : World, (part f.type xs f.offset).run P w = .ok (.int k a) w) (p2 : ∀ w : World, (part f.type ys f.offset).run P w = .ok (.int k b) w) (ih : ∀ w : World, (Op.eqFields (d + 1) xs ys fs).run P w = .ok r w) :
    ∀ w : World, (Op.eqFields (d + 1) xs ys (f :: fs)).run P w = .ok (a == b && r) w := by
  intro w
  simp only [Op.eqFields, if_pos hn, Sem.run_bind, p1, p2, Result.andThen_ok, run_equalIn_int w d f.type k k' a b hu]
  cases h : (a == b)
  · simp
  · simp [ih]
noncomputable def fld (i : Nat) : Field := (Try.prog.fieldsOf 46)[i]!
theorem flds : (Try.prog.fieldsOf 46).toList = [fld 0, fld 1, fld 2, fld 3, fld 4, fld 5, fld 6, fld 7] := by kernel_rfl
def eqc (o d a b c n k x o' d' a' b' c' n' k' x' : Int) : Bool := o == o' && (d == d' && (a == a' && (b == b' && (c == c' && (n == n' && (k == k' && (x == x' && true)))))))
theorem eqc_iff (o d a b c n k x o' d' a' b' c' n' k' x' : Int) : eqc o d a b c n k x o' d' a' b' c' n' k' x' = true ↔ (o = o' ∧ d = d' ∧ a = a' ∧ b = b' ∧ c = c' ∧ n = n' ∧ k = k' ∧ x = x') := by
  simp [eqc]
theorem neq_code (o d a b c n k x o' d' a' b' c' n' k' x' : Int) : ∀ w : World, (binOp .neq 46 (.agg #[.int .i64 o, .int .i64 d, .int .i64 a, .int .i64 b, .int .i64 c, .int .i64 n, .int .u32 k, .int .u32 x])
    (.agg #[.int .i64 o', .int .i64 d', .int .i64 a', .int .i64 b', .int .i64 c', .int .i64 n', .int .u32 k', .int .u32 x'])).run Try.prog w = .ok (.bool (!eqc o d a b c n k x o' d' a' b' c' n' k' x')) w := by
  intro w
  have h : ∀ w : World, (Op.eqFields 9999 #[.int .i64 o, .int .i64 d, .int .i64 a, .int .i64 b, .int .i64 c, .int .i64 n, .int .u32 k, .int .u32 x] #[.int .i64 o', .int .i64 d', .int .i64 a', .int .i64 b', .int .i64 c', .int .i64 n', .int .u32 k', .int .u32 x']
      [fld 0, fld 1, fld 2, fld 3, fld 4, fld 5, fld 6, fld 7]).run Try.prog w = .ok (eqc o d a b c n k x o' d' a' b' c' n' k' x') w := by
    refine eqFields_step 9998 _ _ _ _ (by decide +kernel) (k := .i64) (k' := .i64) (by kernel_rfl) (fun w => by kernel_rfl) (fun w => by kernel_rfl) ?_
    refine eqFields_step 9998 _ _ _ _ (by decide +kernel) (k := .i64) (k' := .i64) (by kernel_rfl) (fun w => by kernel_rfl) (fun w => by kernel_rfl) ?_
    refine eqFields_step 9998 _ _ _ _ (by decide +kernel) (k := .i64) (k' := .i64) (by kernel_rfl) (fun w => by kernel_rfl) (fun w => by kernel_rfl) ?_
    refine eqFields_step 9998 _ _ _ _ (by decide +kernel) (k := .i64) (k' := .i64) (by kernel_rfl) (fun w => by kernel_rfl) (fun w => by kernel_rfl) ?_
    refine eqFields_step 9998 _ _ _ _ (by decide +kernel) (k := .i64) (k' := .i64) (by kernel_rfl) (fun w => by kernel_rfl) (fun w => by kernel_rfl) ?_
    refine eqFields_step 9998 _ _ _ _ (by decide +kernel) (k := .i64) (k' := .i64) (by kernel_rfl) (fun w => by kernel_rfl) (fun w => by kernel_rfl) ?_
    refine eqFields_step 9998 _ _ _ _ (by decide +kernel) (k := .u32) (k' := .u32) (by kernel_rfl) (fun w => by kernel_rfl) (fun w => by kernel_rfl) ?_
    refine eqFields_step 9998 _ _ _ _ (by decide +kernel) (k := .u32) (k' := .u32) (by kernel_rfl) (fun w => by kernel_rfl) (fun w => by kernel_rfl) ?_
    intro w
    simp [Op.eqFields]
  rw [← flds] at h
  have hs : (Op.equalIn 10000 46 (.agg #[.int .i64 o, .int .i64 d, .int .i64 a, .int .i64 b, .int .i64 c, .int .i64 n, .int .u32 k, .int .u32 x]) (.agg #[.int .i64 o', .int .i64 d', .int .i64 a', .int .i64 b', .int .i64 c', .int .i64 n', .int .u32 k', .int .u32 x'])).run Try.prog w = .ok (eqc o d a b c n k x o' d' a' b' c' n' k' x') w := by
    rw [run_equalIn_struct w 9999 46 _ _ (by kernel_rfl) (by kernel_rfl), h]
  rw [run_neq_struct, hs]
  rfl
end Go.Proofs.Ytcjcmnnhmajocaa.Ho
