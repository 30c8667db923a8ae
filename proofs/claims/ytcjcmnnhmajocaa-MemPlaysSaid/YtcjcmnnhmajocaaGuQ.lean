/- Two instructions compared. -/
import Derived.Test.YtcjcmnnhmajocaaProg
import Derived.WalkKit
import Derived.Laws.StructEq
namespace Go.Proofs.Ytcjcmnnhmajocaa.Gu
open Go.RowKit
set_option linter.unusedVariables false
theorem eqFields_step {P : Program} (d : Nat) (xs ys : Array Value) (f : Field) (fs : List Field) (hn : f.name ≠ "_") {k k' : IntKind} {a b : Int} {r : Bool} (hu : P.underlying f.type = some (.int k'))
    (p1 : ∀ w : World, (part f.type xs f.offset).run P w = .ok (.int k a) w) (p2 : ∀ w : World, (part f.type ys f.offset).run P w = .ok (.int k b) w) (ih : ∀ w : World, (Op.eqFields (d + 1) xs ys fs).run P w = .ok r w) :
    ∀ w : World, (Op.eqFields (d + 1) xs ys (f :: fs)).run P w = .ok (a == b && r) w := by
  intro w
  simp only [Op.eqFields, if_pos hn, Sem.run_bind, p1, p2, Result.andThen_ok, run_equalIn_int w d f.type k k' a b hu]
  cases h : (a == b)
  · simp
  · simp [ih]
noncomputable def fld (i : Nat) : Field := (Try.prog.fieldsOf 57)[i]!
theorem flds : (Try.prog.fieldsOf 57).toList = [fld 0, fld 1, fld 2, fld 3, fld 4] := by kernel_rfl
def eqi (o d s f m o' d' s' f' m' : Int) : Bool := o == o' && (d == d' && (s == s' && (f == f' && (m == m' && true))))
theorem eqi_iff (o d s f m o' d' s' f' m' : Int) : eqi o d s f m o' d' s' f' m' = true ↔ (o = o' ∧ d = d' ∧ s = s' ∧ f = f' ∧ m = m') := by
  simp [eqi]
theorem eqi_self (o d s f m : Int) : eqi o d s f m o d s f m = true := (eqi_iff _ _ _ _ _ _ _ _ _ _).2 ⟨rfl, rfl, rfl, rfl, rfl⟩
theorem equal_ins (o d s f m o' d' s' f' m' : Int) (w : World) : (Op.equalIn 10000 57 (.agg #[.int .i64 o, .int .i64 d, .int .i64 s, .int .i64 f, .int .u32 m]) (.agg #[.int .i64 o', .int .i64 d', .int .i64 s', .int .i64 f', .int .u32 m'])).run Try.prog w = .ok (eqi o d s f m o' d' s' f' m') w := by
  have h : ∀ w : World, (Op.eqFields 9999 #[.int .i64 o, .int .i64 d, .int .i64 s, .int .i64 f, .int .u32 m] #[.int .i64 o', .int .i64 d', .int .i64 s', .int .i64 f', .int .u32 m'] [fld 0, fld 1, fld 2, fld 3, fld 4]).run Try.prog w = .ok (eqi o d s f m o' d' s' f' m') w := by
    refine eqFields_step 9998 _ _ _ _ (by decide +kernel) (k := .i64) (k' := .i64) (by kernel_rfl) (fun w => by kernel_rfl) (fun w => by kernel_rfl) ?_
    refine eqFields_step 9998 _ _ _ _ (by decide +kernel) (k := .i64) (k' := .i64) (by kernel_rfl) (fun w => by kernel_rfl) (fun w => by kernel_rfl) ?_
    refine eqFields_step 9998 _ _ _ _ (by decide +kernel) (k := .i64) (k' := .i64) (by kernel_rfl) (fun w => by kernel_rfl) (fun w => by kernel_rfl) ?_
    refine eqFields_step 9998 _ _ _ _ (by decide +kernel) (k := .i64) (k' := .i64) (by kernel_rfl) (fun w => by kernel_rfl) (fun w => by kernel_rfl) ?_
    refine eqFields_step 9998 _ _ _ _ (by decide +kernel) (k := .u32) (k' := .u32) (by kernel_rfl) (fun w => by kernel_rfl) (fun w => by kernel_rfl) ?_
    intro w
    simp [Op.eqFields]
  rw [← flds] at h
  rw [run_equalIn_struct w 9999 57 _ _ (by kernel_rfl) (by kernel_rfl), h]
theorem eql_ins (o d s f m o' d' s' f' m' : Int) : ∀ w : World, (binOp .eql 57 (.agg #[.int .i64 o, .int .i64 d, .int .i64 s, .int .i64 f, .int .u32 m]) (.agg #[.int .i64 o', .int .i64 d', .int .i64 s', .int .i64 f', .int .u32 m'])).run Try.prog w = .ok (.bool (eqi o d s f m o' d' s' f' m')) w := by
  intro w
  rw [run_eql_struct, equal_ins]
  rfl
theorem neq_ins (o d s f m o' d' s' f' m' : Int) : ∀ w : World, (binOp .neq 57 (.agg #[.int .i64 o, .int .i64 d, .int .i64 s, .int .i64 f, .int .u32 m]) (.agg #[.int .i64 o', .int .i64 d', .int .i64 s', .int .i64 f', .int .u32 m'])).run Try.prog w = .ok (.bool (!eqi o d s f m o' d' s' f' m')) w := by
  intro w
  rw [run_neq_struct, equal_ins]
  rfl
end Go.Proofs.Ytcjcmnnhmajocaa.Gu
