/- Lemmas. -/
import Derived.Lib.Hide
import Derived.Test.YtcjcmnnhmajocabPoaa
namespace Go.Proofs.Ytcjcmnnhmajocab.Ic
open Go.RowKit
set_option linter.unusedVariables false
set_option linter.unusedSimpArgs false
set_option maxRecDepth 100000 in
set_option maxHeartbeats 4000000 in
theorem needs_7 (w : World) : Calls Try.prog 49 #[.int .i64 7] w fun e w' => e = .returned (.tuple #[.agg #[.int .i64 0, .int .i64 13, .string { data := #[97, 98, 99] }], .bool true]) ∧ Below w.heap.size w w' := by
  go_enter Try.func49, Try.ntmps49
  go_wp2
  refine bodyPost_ret (v := .tuple #[.agg #[.int .i64 0, .int .i64 13, .string { data := #[97, 98, 99] }], .bool true]) (by simp [results, Try.results49, go_sem]) rfl ⟨rfl, ?_⟩
  exact ((Below.refl _ _).alloc (Nat.le_refl _) _).alloc (by simp) _
set_option maxRecDepth 100000 in
set_option maxHeartbeats 4000000 in
theorem needs_8 (w : World) : Calls Try.prog 49 #[.int .i64 8] w fun e w' => e = .returned (.tuple #[.agg #[.int .i64 0, .int .i64 16, .string { data := #[97] }], .bool true]) ∧ Below w.heap.size w w' := by
  go_enter Try.func49, Try.ntmps49
  go_wp2
  refine bodyPost_ret (v := .tuple #[.agg #[.int .i64 0, .int .i64 16, .string { data := #[97] }], .bool true]) (by simp [results, Try.results49, go_sem]) rfl ⟨rfl, ?_⟩
  exact ((Below.refl _ _).alloc (Nat.le_refl _) _).alloc (by simp) _
set_option maxRecDepth 100000 in
set_option maxHeartbeats 4000000 in
theorem needs_9 (w : World) : Calls Try.prog 49 #[.int .i64 9] w fun e w' => e = .returned (.tuple #[.agg #[.int .i64 0, .int .i64 5, .string { data := #[97, 107, 110] }], .bool true]) ∧ Below w.heap.size w w' := by
  go_enter Try.func49, Try.ntmps49
  go_wp2
  refine bodyPost_ret (v := .tuple #[.agg #[.int .i64 0, .int .i64 5, .string { data := #[97, 107, 110] }], .bool true]) (by simp [results, Try.results49, go_sem]) rfl ⟨rfl, ?_⟩
  exact ((Below.refl _ _).alloc (Nat.le_refl _) _).alloc (by simp) _
set_option maxRecDepth 100000 in
set_option maxHeartbeats 4000000 in
theorem needs_10 (w : World) : Calls Try.prog 49 #[.int .i64 10] w fun e w' => e = .returned (.tuple #[.agg #[.int .i64 0, .int .i64 3, .string { data := #[97, 98, 107, 110] }], .bool true]) ∧ Below w.heap.size w w' := by
  go_enter Try.func49, Try.ntmps49
  go_wp2
  refine bodyPost_ret (v := .tuple #[.agg #[.int .i64 0, .int .i64 3, .string { data := #[97, 98, 107, 110] }], .bool true]) (by simp [results, Try.results49, go_sem]) rfl ⟨rfl, ?_⟩
  exact ((Below.refl _ _).alloc (Nat.le_refl _) _).alloc (by simp) _
set_option maxRecDepth 100000 in
set_option maxHeartbeats 4000000 in
theorem needs_11 (w : World) : Calls Try.prog 49 #[.int .i64 11] w fun e w' => e = .returned (.tuple #[.agg #[.int .i64 0, .int .i64 1, .string { data := #[107, 110] }], .bool true]) ∧ Below w.heap.size w w' := by
  go_enter Try.func49, Try.ntmps49
  go_wp2
  refine bodyPost_ret (v := .tuple #[.agg #[.int .i64 0, .int .i64 1, .string { data := #[107, 110] }], .bool true]) (by simp [results, Try.results49, go_sem]) rfl ⟨rfl, ?_⟩
  exact ((Below.refl _ _).alloc (Nat.le_refl _) _).alloc (by simp) _
set_option maxRecDepth 100000 in
set_option maxHeartbeats 4000000 in
theorem needs_12 (w : World) : Calls Try.prog 49 #[.int .i64 12] w fun e w' => e = .returned (.tuple #[.agg #[.int .i64 0, .int .i64 1, .string { data := #[97, 107, 110] }], .bool true]) ∧ Below w.heap.size w w' := by
  go_enter Try.func49, Try.ntmps49
  go_wp2
  refine bodyPost_ret (v := .tuple #[.agg #[.int .i64 0, .int .i64 1, .string { data := #[97, 107, 110] }], .bool true]) (by simp [results, Try.results49, go_sem]) rfl ⟨rfl, ?_⟩
  exact ((Below.refl _ _).alloc (Nat.le_refl _) _).alloc (by simp) _
end Go.Proofs.Ytcjcmnnhmajocab.Ic
