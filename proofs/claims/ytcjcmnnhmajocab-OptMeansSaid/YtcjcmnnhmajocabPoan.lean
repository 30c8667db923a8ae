/- What an operation gives that hangs on what it takes alone: ir.Value and the reference's. -/
import Derived.RegionTactic
import Derived.BigRegion
import Derived.Test.YtcjcmnnhmajocabPoad
import Derived.Test.YtcjcmnnhmajocabPoaj
import Derived.Test.YtcjcmnnhmajocabPoam
namespace Go.Proofs.Ytcjcmnnhmajocab.Ev
open Go.RowKit Kt Me Fl
set_option linter.unusedVariables false
set_option linter.unusedSimpArgs false
theorem ret_u32 {a b : Int} (h : a = b) : Ending.returned (.int .u32 a) = .returned (.int .u32 b) := by rw [h]
theorem truth_any (b : Bool) (w : World) : Calls Try.prog 196 #[.bool b] w fun e w' => e = .returned (.int .u32 (if b then 1 else 0)) ∧ w = w' := by
  cases b
  all_goals go_enter Try.func196, Try.ntmps196
  all_goals go_wp2
  all_goals go_ret
  all_goals exact ⟨rfl, rfl⟩
theorem is3_any (b : Bool) (w : World) : Calls Try.prog 109 #[.bool b] w fun e w' => e = .returned (.int .u32 (if b then 1 else 0)) ∧ w = w' := by
  cases b
  all_goals go_enter Try.func109, Try.ntmps109
  all_goals go_wp2
  all_goals go_ret
  all_goals exact ⟨rfl, rfl⟩
theorem signed3_any (x : Int) (w : World) (h : 0 ≤ x) (g : x < 4294967296) : Calls Try.prog 163 #[.int .u32 x] w fun e w' => e = .returned (.int .i64 (sg x)) ∧ w = w' := by
  by_cases hx : 2147483648 ≤ x
  · have es : sg x = x - 4294967296 := by unfold sg; rw [if_pos hx]
    rw [es]
    clear es
    go_enter Try.func163, Try.ntmps163
    go_wp2
    go_ret
    exact ⟨rfl, rfl⟩
  · have es : sg x = x := by unfold sg; rw [if_neg hx]
    rw [es]
    clear es
    go_enter Try.func163, Try.ntmps163
    go_wp2
    go_ret
    exact ⟨rfl, rfl⟩
theorem mul32_any (a b : Int) (w : World) (h0 : 0 ≤ a) (g0 : a < 4294967296) (h1 : 0 ≤ b) (g1 : b < 4294967296) :
    Calls Try.prog 186 #[.int .u32 a, .int .u32 b] w fun e w' => e = .returned (.tuple #[.int .u32 (a * b / 4294967296), .int .u32 (a * b % 4294967296)]) ∧ w = w' := by
  have h2 : 0 ≤ a * b := Int.mul_nonneg h0 h1
  have h3 : a * b ≤ 4294967295 * 4294967295 := Int.mul_le_mul (by omega) (by omega) h1 (by decide)
  have h4 : a * b < 18446744073709551616 := by omega
  have h5 : a * b % 18446744073709551616 = a * b := by omega
  have h6 : 0 ≤ a * b / 4294967296 := by omega
  have h7 : a * b / 4294967296 < 4294967296 := by omega
  have h8 : a * b / 4294967296 % 4294967296 = a * b / 4294967296 := by omega
  go_enter Try.func186, Try.ntmps186
  go_wp2
  go_ret2
  exact ⟨rfl, rfl⟩
set_option maxRecDepth 100000 in
set_option maxHeartbeats 2000000 in
theorem bin_0 (a b : Int) (w : World) (h0 : 0 ≤ a) (g0 : a < 4294967296) (h1 : 0 ≤ b) (g1 : b < 4294967296) :
    Calls Try.prog 197 #[.int .i64 0, .int .u32 a, .int .u32 b] w fun e w' => e = .returned (.int .u32 (binV 0 a b)) ∧ w = w' := by
  have e3 := mask31 b h1 g1
  go_enter Try.func197, Try.ntmps197
  go_wp2_with (first
    | (go_at_call 185; (with_reducible refine (rol_any _ _ _ (by omega) (by omega) (by omega) (by omega)).mono ?_); rintro e w' ⟨rfl, rfl⟩)
    | (go_at_call 186; (with_reducible refine (mul32_any _ _ _ (by omega) (by omega) (by omega) (by omega)).mono ?_); rintro e w' ⟨rfl, rfl⟩)
    | (go_at_call 196; (with_reducible refine (truth_any _ _).mono ?_); rintro e w' ⟨rfl, rfl⟩))
  go_ret
  refine ⟨ret_u32 ?_, rfl⟩
  all_goals (try rfl)
set_option maxRecDepth 100000 in
set_option maxHeartbeats 2000000 in
theorem bin_1 (a b : Int) (w : World) (h0 : 0 ≤ a) (g0 : a < 4294967296) (h1 : 0 ≤ b) (g1 : b < 4294967296) :
    Calls Try.prog 197 #[.int .i64 1, .int .u32 a, .int .u32 b] w fun e w' => e = .returned (.int .u32 (binV 1 a b)) ∧ w = w' := by
  have e3 := mask31 b h1 g1
  go_enter Try.func197, Try.ntmps197
  go_wp2_with (first
    | (go_at_call 185; (with_reducible refine (rol_any _ _ _ (by omega) (by omega) (by omega) (by omega)).mono ?_); rintro e w' ⟨rfl, rfl⟩)
    | (go_at_call 186; (with_reducible refine (mul32_any _ _ _ (by omega) (by omega) (by omega) (by omega)).mono ?_); rintro e w' ⟨rfl, rfl⟩)
    | (go_at_call 196; (with_reducible refine (truth_any _ _).mono ?_); rintro e w' ⟨rfl, rfl⟩))
  go_ret
  refine ⟨ret_u32 ?_, rfl⟩
  all_goals (try rfl)
set_option maxRecDepth 100000 in
set_option maxHeartbeats 2000000 in
theorem bin_2 (a b : Int) (w : World) (h0 : 0 ≤ a) (g0 : a < 4294967296) (h1 : 0 ≤ b) (g1 : b < 4294967296) :
    Calls Try.prog 197 #[.int .i64 2, .int .u32 a, .int .u32 b] w fun e w' => e = .returned (.int .u32 (binV 2 a b)) ∧ w = w' := by
  have e3 := mask31 b h1 g1
  go_enter Try.func197, Try.ntmps197
  go_wp2_with (first
    | (go_at_call 185; (with_reducible refine (rol_any _ _ _ (by omega) (by omega) (by omega) (by omega)).mono ?_); rintro e w' ⟨rfl, rfl⟩)
    | (go_at_call 186; (with_reducible refine (mul32_any _ _ _ (by omega) (by omega) (by omega) (by omega)).mono ?_); rintro e w' ⟨rfl, rfl⟩)
    | (go_at_call 196; (with_reducible refine (truth_any _ _).mono ?_); rintro e w' ⟨rfl, rfl⟩))
  go_ret
  refine ⟨ret_u32 ?_, rfl⟩
  all_goals (try rfl)
set_option maxRecDepth 100000 in
set_option maxHeartbeats 2000000 in
theorem bin_3 (a b : Int) (w : World) (h0 : 0 ≤ a) (g0 : a < 4294967296) (h1 : 0 ≤ b) (g1 : b < 4294967296) :
    Calls Try.prog 197 #[.int .i64 3, .int .u32 a, .int .u32 b] w fun e w' => e = .returned (.int .u32 (binV 3 a b)) ∧ w = w' := by
  have e3 := mask31 b h1 g1
  go_enter Try.func197, Try.ntmps197
  go_wp2_with (first
    | (go_at_call 185; (with_reducible refine (rol_any _ _ _ (by omega) (by omega) (by omega) (by omega)).mono ?_); rintro e w' ⟨rfl, rfl⟩)
    | (go_at_call 186; (with_reducible refine (mul32_any _ _ _ (by omega) (by omega) (by omega) (by omega)).mono ?_); rintro e w' ⟨rfl, rfl⟩)
    | (go_at_call 196; (with_reducible refine (truth_any _ _).mono ?_); rintro e w' ⟨rfl, rfl⟩))
  go_ret
  refine ⟨ret_u32 ?_, rfl⟩
  all_goals (try rfl)
set_option maxRecDepth 100000 in
set_option maxHeartbeats 2000000 in
theorem bin_4 (a b : Int) (w : World) (h0 : 0 ≤ a) (g0 : a < 4294967296) (h1 : 0 ≤ b) (g1 : b < 4294967296) :
    Calls Try.prog 197 #[.int .i64 4, .int .u32 a, .int .u32 b] w fun e w' => e = .returned (.int .u32 (binV 4 a b)) ∧ w = w' := by
  have e3 := mask31 b h1 g1
  go_enter Try.func197, Try.ntmps197
  go_wp2_with (first
    | (go_at_call 185; (with_reducible refine (rol_any _ _ _ (by omega) (by omega) (by omega) (by omega)).mono ?_); rintro e w' ⟨rfl, rfl⟩)
    | (go_at_call 186; (with_reducible refine (mul32_any _ _ _ (by omega) (by omega) (by omega) (by omega)).mono ?_); rintro e w' ⟨rfl, rfl⟩)
    | (go_at_call 196; (with_reducible refine (truth_any _ _).mono ?_); rintro e w' ⟨rfl, rfl⟩))
  go_ret
  refine ⟨ret_u32 ?_, rfl⟩
  all_goals (try rfl)
set_option maxRecDepth 100000 in
set_option maxHeartbeats 2000000 in
theorem bin_5 (a b : Int) (w : World) (h0 : 0 ≤ a) (g0 : a < 4294967296) (h1 : 0 ≤ b) (g1 : b < 4294967296) :
    Calls Try.prog 197 #[.int .i64 5, .int .u32 a, .int .u32 b] w fun e w' => e = .returned (.int .u32 (binV 5 a b)) ∧ w = w' := by
  have e3 := mask31 b h1 g1
  go_enter Try.func197, Try.ntmps197
  go_wp2_with (first
    | (go_at_call 185; (with_reducible refine (rol_any _ _ _ (by omega) (by omega) (by omega) (by omega)).mono ?_); rintro e w' ⟨rfl, rfl⟩)
    | (go_at_call 186; (with_reducible refine (mul32_any _ _ _ (by omega) (by omega) (by omega) (by omega)).mono ?_); rintro e w' ⟨rfl, rfl⟩)
    | (go_at_call 196; (with_reducible refine (truth_any _ _).mono ?_); rintro e w' ⟨rfl, rfl⟩))
  go_ret
  refine ⟨ret_u32 ?_, rfl⟩
  all_goals (try rfl)
set_option maxRecDepth 100000 in
set_option maxHeartbeats 2000000 in
theorem bin_6 (a b : Int) (w : World) (h0 : 0 ≤ a) (g0 : a < 4294967296) (h1 : 0 ≤ b) (g1 : b < 4294967296) :
    Calls Try.prog 197 #[.int .i64 6, .int .u32 a, .int .u32 b] w fun e w' => e = .returned (.int .u32 (binV 6 a b)) ∧ w = w' := by
  have e3 := mask31 b h1 g1
  go_enter Try.func197, Try.ntmps197
  go_wp2_with (first
    | (go_at_call 185; (with_reducible refine (rol_any _ _ _ (by omega) (by omega) (by omega) (by omega)).mono ?_); rintro e w' ⟨rfl, rfl⟩)
    | (go_at_call 186; (with_reducible refine (mul32_any _ _ _ (by omega) (by omega) (by omega) (by omega)).mono ?_); rintro e w' ⟨rfl, rfl⟩)
    | (go_at_call 196; (with_reducible refine (truth_any _ _).mono ?_); rintro e w' ⟨rfl, rfl⟩))
  go_ret
  refine ⟨ret_u32 ?_, rfl⟩
  all_goals (try rfl)
set_option maxRecDepth 100000 in
set_option maxHeartbeats 2000000 in
theorem bin_7 (a b : Int) (w : World) (h0 : 0 ≤ a) (g0 : a < 4294967296) (h1 : 0 ≤ b) (g1 : b < 4294967296) :
    Calls Try.prog 197 #[.int .i64 7, .int .u32 a, .int .u32 b] w fun e w' => e = .returned (.int .u32 (binV 7 a b)) ∧ w = w' := by
  have e3 := mask31 b h1 g1
  go_enter Try.func197, Try.ntmps197
  go_wp2_with (first
    | (go_at_call 185; (with_reducible refine (rol_any _ _ _ (by omega) (by omega) (by omega) (by omega)).mono ?_); rintro e w' ⟨rfl, rfl⟩)
    | (go_at_call 186; (with_reducible refine (mul32_any _ _ _ (by omega) (by omega) (by omega) (by omega)).mono ?_); rintro e w' ⟨rfl, rfl⟩)
    | (go_at_call 196; (with_reducible refine (truth_any _ _).mono ?_); rintro e w' ⟨rfl, rfl⟩))
  go_ret
  refine ⟨ret_u32 ?_, rfl⟩
  all_goals (rw [wrap32_sg a h0 g0]; rfl)
set_option maxRecDepth 100000 in
set_option maxHeartbeats 2000000 in
theorem bin_8 (a b : Int) (w : World) (h0 : 0 ≤ a) (g0 : a < 4294967296) (h1 : 0 ≤ b) (g1 : b < 4294967296) :
    Calls Try.prog 197 #[.int .i64 8, .int .u32 a, .int .u32 b] w fun e w' => e = .returned (.int .u32 (binV 8 a b)) ∧ w = w' := by
  have e3 := mask31 b h1 g1
  go_enter Try.func197, Try.ntmps197
  go_wp2_with (first
    | (go_at_call 185; (with_reducible refine (rol_any _ _ _ (by omega) (by omega) (by omega) (by omega)).mono ?_); rintro e w' ⟨rfl, rfl⟩)
    | (go_at_call 186; (with_reducible refine (mul32_any _ _ _ (by omega) (by omega) (by omega) (by omega)).mono ?_); rintro e w' ⟨rfl, rfl⟩)
    | (go_at_call 196; (with_reducible refine (truth_any _ _).mono ?_); rintro e w' ⟨rfl, rfl⟩))
  go_ret
  refine ⟨ret_u32 ?_, rfl⟩
  all_goals (try rfl)
set_option maxRecDepth 100000 in
set_option maxHeartbeats 2000000 in
theorem bin_9 (a b : Int) (w : World) (h0 : 0 ≤ a) (g0 : a < 4294967296) (h1 : 0 ≤ b) (g1 : b < 4294967296) :
    Calls Try.prog 197 #[.int .i64 9, .int .u32 a, .int .u32 b] w fun e w' => e = .returned (.int .u32 (binV 9 a b)) ∧ w = w' := by
  have e3 := mask31 b h1 g1
  go_enter Try.func197, Try.ntmps197
  go_wp2_with (first
    | (go_at_call 185; (with_reducible refine (rol_any _ _ _ (by omega) (by omega) (by omega) (by omega)).mono ?_); rintro e w' ⟨rfl, rfl⟩)
    | (go_at_call 186; (with_reducible refine (mul32_any _ _ _ (by omega) (by omega) (by omega) (by omega)).mono ?_); rintro e w' ⟨rfl, rfl⟩)
    | (go_at_call 196; (with_reducible refine (truth_any _ _).mono ?_); rintro e w' ⟨rfl, rfl⟩))
  go_ret
  refine ⟨ret_u32 ?_, rfl⟩
  all_goals (try rfl)
set_option maxRecDepth 100000 in
set_option maxHeartbeats 2000000 in
theorem bin_10 (a b : Int) (w : World) (h0 : 0 ≤ a) (g0 : a < 4294967296) (h1 : 0 ≤ b) (g1 : b < 4294967296) :
    Calls Try.prog 197 #[.int .i64 10, .int .u32 a, .int .u32 b] w fun e w' => e = .returned (.int .u32 (binV 10 a b)) ∧ w = w' := by
  have e3 := mask31 b h1 g1
  go_enter Try.func197, Try.ntmps197
  go_wp2_with (first
    | (go_at_call 185; (with_reducible refine (rol_any _ _ _ (by omega) (by omega) (by omega) (by omega)).mono ?_); rintro e w' ⟨rfl, rfl⟩)
    | (go_at_call 186; (with_reducible refine (mul32_any _ _ _ (by omega) (by omega) (by omega) (by omega)).mono ?_); rintro e w' ⟨rfl, rfl⟩)
    | (go_at_call 196; (with_reducible refine (truth_any _ _).mono ?_); rintro e w' ⟨rfl, rfl⟩))
  go_ret
  refine ⟨ret_u32 ?_, rfl⟩
  all_goals (try rfl)
set_option maxRecDepth 100000 in
set_option maxHeartbeats 2000000 in
theorem bin_11 (a b : Int) (w : World) (h0 : 0 ≤ a) (g0 : a < 4294967296) (h1 : 0 ≤ b) (g1 : b < 4294967296) :
    Calls Try.prog 197 #[.int .i64 11, .int .u32 a, .int .u32 b] w fun e w' => e = .returned (.int .u32 (binV 11 a b)) ∧ w = w' := by
  have e3 := mask31 b h1 g1
  by_cases hx : b = 0
  · have e : binV 11 a b = 4294967295 := by show (if b = 0 then 4294967295 else a / b) = _; rw [if_pos hx]
    rw [e]
    clear e
    go_enter Try.func197, Try.ntmps197
    go_wp2_with (first
        | (go_at_call 185; (with_reducible refine (rol_any _ _ _ (by omega) (by omega) (by omega) (by omega)).mono ?_); rintro e w' ⟨rfl, rfl⟩)
        | (go_at_call 186; (with_reducible refine (mul32_any _ _ _ (by omega) (by omega) (by omega) (by omega)).mono ?_); rintro e w' ⟨rfl, rfl⟩)
        | (go_at_call 196; (with_reducible refine (truth_any _ _).mono ?_); rintro e w' ⟨rfl, rfl⟩))
    go_ret
    first | exact ⟨rfl, rfl⟩ | exact ⟨ret_u32 (by simp), rfl⟩
  · have e : binV 11 a b = a / b := by show (if b = 0 then 4294967295 else a / b) = _; rw [if_neg hx]
    rw [e]
    clear e
    go_enter Try.func197, Try.ntmps197
    go_wp2_with (first
        | (go_at_call 185; (with_reducible refine (rol_any _ _ _ (by omega) (by omega) (by omega) (by omega)).mono ?_); rintro e w' ⟨rfl, rfl⟩)
        | (go_at_call 186; (with_reducible refine (mul32_any _ _ _ (by omega) (by omega) (by omega) (by omega)).mono ?_); rintro e w' ⟨rfl, rfl⟩)
        | (go_at_call 196; (with_reducible refine (truth_any _ _).mono ?_); rintro e w' ⟨rfl, rfl⟩))
    go_ret
    first | exact ⟨rfl, rfl⟩ | exact ⟨ret_u32 (by simp), rfl⟩
set_option maxRecDepth 100000 in
set_option maxHeartbeats 2000000 in
theorem bin_12 (a b : Int) (w : World) (h0 : 0 ≤ a) (g0 : a < 4294967296) (h1 : 0 ≤ b) (g1 : b < 4294967296) :
    Calls Try.prog 197 #[.int .i64 12, .int .u32 a, .int .u32 b] w fun e w' => e = .returned (.int .u32 (binV 12 a b)) ∧ w = w' := by
  have e3 := mask31 b h1 g1
  by_cases hx : b = 0
  · have e : binV 12 a b = a := by show (if b = 0 then a else a % b) = _; rw [if_pos hx]
    rw [e]
    clear e
    go_enter Try.func197, Try.ntmps197
    go_wp2_with (first
        | (go_at_call 185; (with_reducible refine (rol_any _ _ _ (by omega) (by omega) (by omega) (by omega)).mono ?_); rintro e w' ⟨rfl, rfl⟩)
        | (go_at_call 186; (with_reducible refine (mul32_any _ _ _ (by omega) (by omega) (by omega) (by omega)).mono ?_); rintro e w' ⟨rfl, rfl⟩)
        | (go_at_call 196; (with_reducible refine (truth_any _ _).mono ?_); rintro e w' ⟨rfl, rfl⟩))
    go_ret
    first | exact ⟨rfl, rfl⟩ | exact ⟨ret_u32 (by simp), rfl⟩
  · have e : binV 12 a b = a % b := by show (if b = 0 then a else a % b) = _; rw [if_neg hx]
    rw [e]
    clear e
    go_enter Try.func197, Try.ntmps197
    go_wp2_with (first
        | (go_at_call 185; (with_reducible refine (rol_any _ _ _ (by omega) (by omega) (by omega) (by omega)).mono ?_); rintro e w' ⟨rfl, rfl⟩)
        | (go_at_call 186; (with_reducible refine (mul32_any _ _ _ (by omega) (by omega) (by omega) (by omega)).mono ?_); rintro e w' ⟨rfl, rfl⟩)
        | (go_at_call 196; (with_reducible refine (truth_any _ _).mono ?_); rintro e w' ⟨rfl, rfl⟩))
    go_ret
    first | exact ⟨rfl, rfl⟩ | exact ⟨ret_u32 (by simp), rfl⟩
set_option maxRecDepth 100000 in
set_option maxHeartbeats 2000000 in
theorem bin_13 (a b : Int) (w : World) (h0 : 0 ≤ a) (g0 : a < 4294967296) (h1 : 0 ≤ b) (g1 : b < 4294967296) :
    Calls Try.prog 197 #[.int .i64 13, .int .u32 a, .int .u32 b] w fun e w' => e = .returned (.int .u32 (binV 13 a b)) ∧ w = w' := by
  have e3 := mask31 b h1 g1
  by_cases hx : a = b
  · have e : binV 13 a b = 1 := by show (if a = b then 1 else 0) = _; rw [if_pos hx]
    rw [e]
    clear e
    go_enter Try.func197, Try.ntmps197
    go_wp2_with (first
        | (go_at_call 185; (with_reducible refine (rol_any _ _ _ (by omega) (by omega) (by omega) (by omega)).mono ?_); rintro e w' ⟨rfl, rfl⟩)
        | (go_at_call 186; (with_reducible refine (mul32_any _ _ _ (by omega) (by omega) (by omega) (by omega)).mono ?_); rintro e w' ⟨rfl, rfl⟩)
        | (go_at_call 196; (with_reducible refine (truth_any _ _).mono ?_); rintro e w' ⟨rfl, rfl⟩))
    go_ret
    first | exact ⟨rfl, rfl⟩ | exact ⟨ret_u32 (by simp), rfl⟩
  · have e : binV 13 a b = 0 := by show (if a = b then 1 else 0) = _; rw [if_neg hx]
    rw [e]
    clear e
    go_enter Try.func197, Try.ntmps197
    go_wp2_with (first
        | (go_at_call 185; (with_reducible refine (rol_any _ _ _ (by omega) (by omega) (by omega) (by omega)).mono ?_); rintro e w' ⟨rfl, rfl⟩)
        | (go_at_call 186; (with_reducible refine (mul32_any _ _ _ (by omega) (by omega) (by omega) (by omega)).mono ?_); rintro e w' ⟨rfl, rfl⟩)
        | (go_at_call 196; (with_reducible refine (truth_any _ _).mono ?_); rintro e w' ⟨rfl, rfl⟩))
    go_ret
    first | exact ⟨rfl, rfl⟩ | exact ⟨ret_u32 (by simp), rfl⟩
set_option maxRecDepth 100000 in
set_option maxHeartbeats 2000000 in
theorem bin_14 (a b : Int) (w : World) (h0 : 0 ≤ a) (g0 : a < 4294967296) (h1 : 0 ≤ b) (g1 : b < 4294967296) :
    Calls Try.prog 197 #[.int .i64 14, .int .u32 a, .int .u32 b] w fun e w' => e = .returned (.int .u32 (binV 14 a b)) ∧ w = w' := by
  have e3 := mask31 b h1 g1
  by_cases hx : a < b
  · have e : binV 14 a b = 1 := by show (if a < b then 1 else 0) = _; rw [if_pos hx]
    rw [e]
    clear e
    go_enter Try.func197, Try.ntmps197
    go_wp2_with (first
        | (go_at_call 185; (with_reducible refine (rol_any _ _ _ (by omega) (by omega) (by omega) (by omega)).mono ?_); rintro e w' ⟨rfl, rfl⟩)
        | (go_at_call 186; (with_reducible refine (mul32_any _ _ _ (by omega) (by omega) (by omega) (by omega)).mono ?_); rintro e w' ⟨rfl, rfl⟩)
        | (go_at_call 196; (with_reducible refine (truth_any _ _).mono ?_); rintro e w' ⟨rfl, rfl⟩))
    go_ret
    first | exact ⟨rfl, rfl⟩ | exact ⟨ret_u32 (by simp), rfl⟩
  · have e : binV 14 a b = 0 := by show (if a < b then 1 else 0) = _; rw [if_neg hx]
    rw [e]
    clear e
    go_enter Try.func197, Try.ntmps197
    go_wp2_with (first
        | (go_at_call 185; (with_reducible refine (rol_any _ _ _ (by omega) (by omega) (by omega) (by omega)).mono ?_); rintro e w' ⟨rfl, rfl⟩)
        | (go_at_call 186; (with_reducible refine (mul32_any _ _ _ (by omega) (by omega) (by omega) (by omega)).mono ?_); rintro e w' ⟨rfl, rfl⟩)
        | (go_at_call 196; (with_reducible refine (truth_any _ _).mono ?_); rintro e w' ⟨rfl, rfl⟩))
    go_ret
    first | exact ⟨rfl, rfl⟩ | exact ⟨ret_u32 (by simp), rfl⟩
set_option maxRecDepth 100000 in
set_option maxHeartbeats 2000000 in
theorem bin_15 (a b : Int) (w : World) (h0 : 0 ≤ a) (g0 : a < 4294967296) (h1 : 0 ≤ b) (g1 : b < 4294967296) :
    Calls Try.prog 197 #[.int .i64 15, .int .u32 a, .int .u32 b] w fun e w' => e = .returned (.int .u32 (binV 15 a b)) ∧ w = w' := by
  have e3 := mask31 b h1 g1
  have ea := wrap32_sg a h0 g0
  have eb := wrap32_sg b h1 g1
  by_cases hx : sg a < sg b
  · have e : binV 15 a b = 1 := by show (if sg a < sg b then 1 else 0) = _; rw [if_pos hx]
    rw [e]
    clear e
    go_enter Try.func197, Try.ntmps197
    go_wp2_with (first
        | (go_at_call 185; (with_reducible refine (rol_any _ _ _ (by omega) (by omega) (by omega) (by omega)).mono ?_); rintro e w' ⟨rfl, rfl⟩)
        | (go_at_call 186; (with_reducible refine (mul32_any _ _ _ (by omega) (by omega) (by omega) (by omega)).mono ?_); rintro e w' ⟨rfl, rfl⟩)
        | (go_at_call 196; (with_reducible refine (truth_any _ _).mono ?_); rintro e w' ⟨rfl, rfl⟩))
    go_ret
    first | exact ⟨rfl, rfl⟩ | exact ⟨ret_u32 (by simp), rfl⟩
  · have e : binV 15 a b = 0 := by show (if sg a < sg b then 1 else 0) = _; rw [if_neg hx]
    rw [e]
    clear e
    go_enter Try.func197, Try.ntmps197
    go_wp2_with (first
        | (go_at_call 185; (with_reducible refine (rol_any _ _ _ (by omega) (by omega) (by omega) (by omega)).mono ?_); rintro e w' ⟨rfl, rfl⟩)
        | (go_at_call 186; (with_reducible refine (mul32_any _ _ _ (by omega) (by omega) (by omega) (by omega)).mono ?_); rintro e w' ⟨rfl, rfl⟩)
        | (go_at_call 196; (with_reducible refine (truth_any _ _).mono ?_); rintro e w' ⟨rfl, rfl⟩))
    go_ret
    first | exact ⟨rfl, rfl⟩ | exact ⟨ret_u32 (by simp), rfl⟩
end Go.Proofs.Ytcjcmnnhmajocab.Ev
namespace Go.Proofs.Ytcjcmnnhmajocab.Ev
open Go.RowKit Kt Me Fl
set_option linter.unusedVariables false
set_option linter.unusedSimpArgs false
theorem mask255 (a : Int) (h : 0 ≤ a) (g : a < 4294967296) : bits .and .u32 a 255 = a % 256 := by
  obtain ⟨A, rfl⟩ := Int.eq_ofNat_of_zero_le h
  have e : (255 : Int) = ((255 : Nat) : Int) := rfl
  rw [e, u32_and_nat _ _ (by omega) (by decide)]
  have := Nat.and_two_pow_sub_one_eq_mod A 8
  rw [show (255 : Nat) = 2 ^ 8 - 1 from rfl, this]
  omega
theorem mask65535 (a : Int) (h : 0 ≤ a) (g : a < 4294967296) : bits .and .u32 a 65535 = a % 65536 := by
  obtain ⟨A, rfl⟩ := Int.eq_ofNat_of_zero_le h
  have e : (65535 : Int) = ((65535 : Nat) : Int) := rfl
  rw [e, u32_and_nat _ _ (by omega) (by decide)]
  have := Nat.and_two_pow_sub_one_eq_mod A 16
  rw [show (65535 : Nat) = 2 ^ 16 - 1 from rfl, this]
  omega
set_option maxRecDepth 100000 in
set_option maxHeartbeats 2000000 in
theorem un_0 (a : Int) (w : World) (h0 : 0 ≤ a) (g0 : a < 4294967296) :
    Calls Try.prog 167 #[.int .i64 0, .int .u32 a] w fun e w' => e = .returned (.int .u32 (unV 0 a)) ∧ w = w' := by
  have ex := St.not32 a h0 g0
  go_enter Try.func167, Try.ntmps167
  go_wp2_with (go_at_call 196; (with_reducible refine (truth_any _ _).mono ?_); rintro e w' ⟨rfl, rfl⟩)
  go_ret
  exact ⟨rfl, rfl⟩
set_option maxRecDepth 100000 in
set_option maxHeartbeats 2000000 in
theorem un_1 (a : Int) (w : World) (h0 : 0 ≤ a) (g0 : a < 4294967296) :
    Calls Try.prog 167 #[.int .i64 1, .int .u32 a] w fun e w' => e = .returned (.int .u32 (unV 1 a)) ∧ w = w' := by
  go_enter Try.func167, Try.ntmps167
  go_wp2_with (go_at_call 196; (with_reducible refine (truth_any _ _).mono ?_); rintro e w' ⟨rfl, rfl⟩)
  go_ret
  exact ⟨rfl, rfl⟩
set_option maxRecDepth 100000 in
set_option maxHeartbeats 2000000 in
theorem un_2 (a : Int) (w : World) (h0 : 0 ≤ a) (g0 : a < 4294967296) :
    Calls Try.prog 167 #[.int .i64 2, .int .u32 a] w fun e w' => e = .returned (.int .u32 (unV 2 a)) ∧ w = w' := by
  go_enter Try.func167, Try.ntmps167
  go_wp2_with (go_at_call 196; (with_reducible refine (truth_any _ _).mono ?_); rintro e w' ⟨rfl, rfl⟩)
  go_ret
  refine ⟨ret_u32 ?_, rfl⟩
  rw [St.wrap_i8']
  show _ = s8 a
  unfold wrap32 s8
  split <;> omega
set_option maxRecDepth 100000 in
set_option maxHeartbeats 2000000 in
theorem un_3 (a : Int) (w : World) (h0 : 0 ≤ a) (g0 : a < 4294967296) :
    Calls Try.prog 167 #[.int .i64 3, .int .u32 a] w fun e w' => e = .returned (.int .u32 (unV 3 a)) ∧ w = w' := by
  go_enter Try.func167, Try.ntmps167
  go_wp2_with (go_at_call 196; (with_reducible refine (truth_any _ _).mono ?_); rintro e w' ⟨rfl, rfl⟩)
  go_ret
  refine ⟨ret_u32 ?_, rfl⟩
  rw [St.wrap_i16']
  show _ = s16 a
  unfold wrap32 s16
  split <;> omega
set_option maxRecDepth 100000 in
set_option maxHeartbeats 2000000 in
theorem un_4 (a : Int) (w : World) (h0 : 0 ≤ a) (g0 : a < 4294967296) :
    Calls Try.prog 167 #[.int .i64 4, .int .u32 a] w fun e w' => e = .returned (.int .u32 (unV 4 a)) ∧ w = w' := by
  have ex := mask255 a h0 g0
  go_enter Try.func167, Try.ntmps167
  go_wp2_with (go_at_call 196; (with_reducible refine (truth_any _ _).mono ?_); rintro e w' ⟨rfl, rfl⟩)
  go_ret
  exact ⟨rfl, rfl⟩
set_option maxRecDepth 100000 in
set_option maxHeartbeats 2000000 in
theorem un_5 (a : Int) (w : World) (h0 : 0 ≤ a) (g0 : a < 4294967296) :
    Calls Try.prog 167 #[.int .i64 5, .int .u32 a] w fun e w' => e = .returned (.int .u32 (unV 5 a)) ∧ w = w' := by
  have ex := mask65535 a h0 g0
  go_enter Try.func167, Try.ntmps167
  go_wp2_with (go_at_call 196; (with_reducible refine (truth_any _ _).mono ?_); rintro e w' ⟨rfl, rfl⟩)
  go_ret
  exact ⟨rfl, rfl⟩
set_option maxRecDepth 100000 in
set_option maxHeartbeats 2000000 in
theorem un_6 (a : Int) (w : World) (h0 : 0 ≤ a) (g0 : a < 4294967296) :
    Calls Try.prog 167 #[.int .i64 6, .int .u32 a] w fun e w' => e = .returned (.int .u32 (unV 6 a)) ∧ w = w' := by
  by_cases hx : a = 0
  · have e : unV 6 a = 1 := by show (if a = 0 then 1 else 0) = _; rw [if_pos hx]
    rw [e]
    clear e
    go_enter Try.func167, Try.ntmps167
    go_wp2_with (go_at_call 196; (with_reducible refine (truth_any _ _).mono ?_); rintro e w' ⟨rfl, rfl⟩)
    go_ret
    first | exact ⟨rfl, rfl⟩ | exact ⟨ret_u32 (by simp), rfl⟩
  · have e : unV 6 a = 0 := by show (if a = 0 then 1 else 0) = _; rw [if_neg hx]
    rw [e]
    clear e
    go_enter Try.func167, Try.ntmps167
    go_wp2_with (go_at_call 196; (with_reducible refine (truth_any _ _).mono ?_); rintro e w' ⟨rfl, rfl⟩)
    go_ret
    first | exact ⟨rfl, rfl⟩ | exact ⟨ret_u32 (by simp), rfl⟩
set_option maxRecDepth 100000 in
set_option maxHeartbeats 2000000 in
theorem run_0 (a : Int) (w : World) (h0 : 0 ≤ a) (g0 : a < 4294967296) :
    Calls Try.prog 106 #[.int .i64 0, .int .u32 a] w fun e w' => e = .returned (.int .u32 (unV 0 a)) ∧ w = w' := by
  go_enter Try.func106, Try.ntmps106
  go_wp2_with (go_at_call 109; (with_reducible refine (is3_any _ _).mono ?_); rintro e w' ⟨rfl, rfl⟩)
  go_ret
  exact ⟨rfl, rfl⟩
set_option maxRecDepth 100000 in
set_option maxHeartbeats 2000000 in
theorem run_1 (a : Int) (w : World) (h0 : 0 ≤ a) (g0 : a < 4294967296) :
    Calls Try.prog 106 #[.int .i64 1, .int .u32 a] w fun e w' => e = .returned (.int .u32 (unV 1 a)) ∧ w = w' := by
  go_enter Try.func106, Try.ntmps106
  go_wp2_with (go_at_call 109; (with_reducible refine (is3_any _ _).mono ?_); rintro e w' ⟨rfl, rfl⟩)
  go_ret
  first | exact ⟨rfl, rfl⟩ | exact ⟨ret_u32 (by show _ = (-a) % 4294967296; omega), rfl⟩
set_option maxRecDepth 100000 in
set_option maxHeartbeats 2000000 in
theorem run_2 (a : Int) (w : World) (h0 : 0 ≤ a) (g0 : a < 4294967296) :
    Calls Try.prog 106 #[.int .i64 2, .int .u32 a] w fun e w' => e = .returned (.int .u32 (unV 2 a)) ∧ w = w' := by
  by_cases hx : 128 ≤ a % 256
  · have e : unV 2 a = a % 256 + 4294967040 := by show (if 128 ≤ a % 256 then a % 256 + 4294967040 else a % 256) = _; rw [if_pos hx]
    rw [e]
    clear e
    go_enter Try.func106, Try.ntmps106
    go_wp2_with (go_at_call 109; (with_reducible refine (is3_any _ _).mono ?_); rintro e w' ⟨rfl, rfl⟩)
    go_ret
    first | exact ⟨rfl, rfl⟩ | exact ⟨ret_u32 (by simp), rfl⟩
  · have e : unV 2 a = a % 256 := by show (if 128 ≤ a % 256 then a % 256 + 4294967040 else a % 256) = _; rw [if_neg hx]
    rw [e]
    clear e
    go_enter Try.func106, Try.ntmps106
    go_wp2_with (go_at_call 109; (with_reducible refine (is3_any _ _).mono ?_); rintro e w' ⟨rfl, rfl⟩)
    go_ret
    first | exact ⟨rfl, rfl⟩ | exact ⟨ret_u32 (by simp), rfl⟩
set_option maxRecDepth 100000 in
set_option maxHeartbeats 2000000 in
theorem run_3 (a : Int) (w : World) (h0 : 0 ≤ a) (g0 : a < 4294967296) :
    Calls Try.prog 106 #[.int .i64 3, .int .u32 a] w fun e w' => e = .returned (.int .u32 (unV 3 a)) ∧ w = w' := by
  by_cases hx : 32768 ≤ a % 65536
  · have e : unV 3 a = a % 65536 + 4294901760 := by show (if 32768 ≤ a % 65536 then a % 65536 + 4294901760 else a % 65536) = _; rw [if_pos hx]
    rw [e]
    clear e
    go_enter Try.func106, Try.ntmps106
    go_wp2_with (go_at_call 109; (with_reducible refine (is3_any _ _).mono ?_); rintro e w' ⟨rfl, rfl⟩)
    go_ret
    first | exact ⟨rfl, rfl⟩ | exact ⟨ret_u32 (by simp), rfl⟩
  · have e : unV 3 a = a % 65536 := by show (if 32768 ≤ a % 65536 then a % 65536 + 4294901760 else a % 65536) = _; rw [if_neg hx]
    rw [e]
    clear e
    go_enter Try.func106, Try.ntmps106
    go_wp2_with (go_at_call 109; (with_reducible refine (is3_any _ _).mono ?_); rintro e w' ⟨rfl, rfl⟩)
    go_ret
    first | exact ⟨rfl, rfl⟩ | exact ⟨ret_u32 (by simp), rfl⟩
set_option maxRecDepth 100000 in
set_option maxHeartbeats 2000000 in
theorem run_4 (a : Int) (w : World) (h0 : 0 ≤ a) (g0 : a < 4294967296) :
    Calls Try.prog 106 #[.int .i64 4, .int .u32 a] w fun e w' => e = .returned (.int .u32 (unV 4 a)) ∧ w = w' := by
  go_enter Try.func106, Try.ntmps106
  go_wp2_with (go_at_call 109; (with_reducible refine (is3_any _ _).mono ?_); rintro e w' ⟨rfl, rfl⟩)
  go_ret
  exact ⟨rfl, rfl⟩
set_option maxRecDepth 100000 in
set_option maxHeartbeats 2000000 in
theorem run_5 (a : Int) (w : World) (h0 : 0 ≤ a) (g0 : a < 4294967296) :
    Calls Try.prog 106 #[.int .i64 5, .int .u32 a] w fun e w' => e = .returned (.int .u32 (unV 5 a)) ∧ w = w' := by
  go_enter Try.func106, Try.ntmps106
  go_wp2_with (go_at_call 109; (with_reducible refine (is3_any _ _).mono ?_); rintro e w' ⟨rfl, rfl⟩)
  go_ret
  exact ⟨rfl, rfl⟩
set_option maxRecDepth 100000 in
set_option maxHeartbeats 2000000 in
theorem run_6 (a : Int) (w : World) (h0 : 0 ≤ a) (g0 : a < 4294967296) :
    Calls Try.prog 106 #[.int .i64 6, .int .u32 a] w fun e w' => e = .returned (.int .u32 (unV 6 a)) ∧ w = w' := by
  by_cases hx : a = 0
  · have e : unV 6 a = 1 := by show (if a = 0 then 1 else 0) = _; rw [if_pos hx]
    rw [e]
    clear e
    go_enter Try.func106, Try.ntmps106
    go_wp2_with (go_at_call 109; (with_reducible refine (is3_any _ _).mono ?_); rintro e w' ⟨rfl, rfl⟩)
    go_ret
    first | exact ⟨rfl, rfl⟩ | exact ⟨ret_u32 (by simp), rfl⟩
  · have e : unV 6 a = 0 := by show (if a = 0 then 1 else 0) = _; rw [if_neg hx]
    rw [e]
    clear e
    go_enter Try.func106, Try.ntmps106
    go_wp2_with (go_at_call 109; (with_reducible refine (is3_any _ _).mono ?_); rintro e w' ⟨rfl, rfl⟩)
    go_ret
    first | exact ⟨rfl, rfl⟩ | exact ⟨ret_u32 (by simp), rfl⟩
theorem un_any (k a : Int) (w : World) (k0 : 0 ≤ k) (k1 : k < 7) (h0 : 0 ≤ a) (g0 : a < 4294967296) :
    Calls Try.prog 167 #[.int .i64 k, .int .u32 a] w fun e w' => e = .returned (.int .u32 (unV k a)) ∧ w = w' := by
  rcases (show k = 0 ∨ k = 1 ∨ k = 2 ∨ k = 3 ∨ k = 4 ∨ k = 5 ∨ k = 6 by omega) with rfl | rfl | rfl | rfl | rfl | rfl | rfl
  · exact un_0 a w h0 g0
  · exact un_1 a w h0 g0
  · exact un_2 a w h0 g0
  · exact un_3 a w h0 g0
  · exact un_4 a w h0 g0
  · exact un_5 a w h0 g0
  · exact un_6 a w h0 g0
theorem run_any (k a : Int) (w : World) (k0 : 0 ≤ k) (k1 : k < 7) (h0 : 0 ≤ a) (g0 : a < 4294967296) :
    Calls Try.prog 106 #[.int .i64 k, .int .u32 a] w fun e w' => e = .returned (.int .u32 (unV k a)) ∧ w = w' := by
  rcases (show k = 0 ∨ k = 1 ∨ k = 2 ∨ k = 3 ∨ k = 4 ∨ k = 5 ∨ k = 6 by omega) with rfl | rfl | rfl | rfl | rfl | rfl | rfl
  · exact run_0 a w h0 g0
  · exact run_1 a w h0 g0
  · exact run_2 a w h0 g0
  · exact run_3 a w h0 g0
  · exact run_4 a w h0 g0
  · exact run_5 a w h0 g0
  · exact run_6 a w h0 g0
set_option maxRecDepth 100000 in
set_option maxHeartbeats 2000000 in
theorem rbin_0 (a b : Int) (w : World) (h0 : 0 ≤ a) (g0 : a < 4294967296) (h1 : 0 ≤ b) (g1 : b < 4294967296) :
    Calls Try.prog 108 #[.int .i64 0, .int .u32 a, .int .u32 b] w fun e w' => e = .returned (.int .u32 (binV 0 a b)) ∧ Below w.heap.size w w' := by
  have CK := Lib.hid (fun w => rreckon_any 0 a b 0 w h0 g0 h1 g1 (by decide) (by decide))
  go_enter Try.func108, Try.ntmps108
  go_wp2_with (first
    | (go_at_call 86; (with_reducible refine (CK.out _).mono ?_); rintro e w' ⟨rfl, rfl⟩)
    | (go_at_call 163; (with_reducible refine (signed3_any _ _ (by omega) (by omega)).mono ?_); rintro e w' ⟨rfl, rfl⟩)
    | (go_at_call 109; (with_reducible refine (is3_any _ _).mono ?_); rintro e w' ⟨rfl, rfl⟩))
  go_ret
  first | exact ⟨rfl, ((Below.refl _ _).alloc (Nat.le_refl _) _)⟩ | exact ⟨rfl, ((Below.refl _ _).alloc (Nat.le_refl _) _).drew⟩
set_option maxRecDepth 100000 in
set_option maxHeartbeats 2000000 in
theorem rbin_1 (a b : Int) (w : World) (h0 : 0 ≤ a) (g0 : a < 4294967296) (h1 : 0 ≤ b) (g1 : b < 4294967296) :
    Calls Try.prog 108 #[.int .i64 1, .int .u32 a, .int .u32 b] w fun e w' => e = .returned (.int .u32 (binV 1 a b)) ∧ Below w.heap.size w w' := by
  have CK := Lib.hid (fun w => rreckon_any 2 a b 0 w h0 g0 h1 g1 (by decide) (by decide))
  go_enter Try.func108, Try.ntmps108
  go_wp2_with (first
    | (go_at_call 86; (with_reducible refine (CK.out _).mono ?_); rintro e w' ⟨rfl, rfl⟩)
    | (go_at_call 163; (with_reducible refine (signed3_any _ _ (by omega) (by omega)).mono ?_); rintro e w' ⟨rfl, rfl⟩)
    | (go_at_call 109; (with_reducible refine (is3_any _ _).mono ?_); rintro e w' ⟨rfl, rfl⟩))
  go_ret
  first | exact ⟨rfl, ((Below.refl _ _).alloc (Nat.le_refl _) _)⟩ | exact ⟨rfl, ((Below.refl _ _).alloc (Nat.le_refl _) _).drew⟩
set_option maxRecDepth 100000 in
set_option maxHeartbeats 2000000 in
theorem rbin_2 (a b : Int) (w : World) (h0 : 0 ≤ a) (g0 : a < 4294967296) (h1 : 0 ≤ b) (g1 : b < 4294967296) :
    Calls Try.prog 108 #[.int .i64 2, .int .u32 a, .int .u32 b] w fun e w' => e = .returned (.int .u32 (binV 2 a b)) ∧ Below w.heap.size w w' := by
  have CK := Lib.hid (fun w => rreckon_any 4 a b 0 w h0 g0 h1 g1 (by decide) (by decide))
  go_enter Try.func108, Try.ntmps108
  go_wp2_with (first
    | (go_at_call 86; (with_reducible refine (CK.out _).mono ?_); rintro e w' ⟨rfl, rfl⟩)
    | (go_at_call 163; (with_reducible refine (signed3_any _ _ (by omega) (by omega)).mono ?_); rintro e w' ⟨rfl, rfl⟩)
    | (go_at_call 109; (with_reducible refine (is3_any _ _).mono ?_); rintro e w' ⟨rfl, rfl⟩))
  go_ret
  first | exact ⟨rfl, ((Below.refl _ _).alloc (Nat.le_refl _) _)⟩ | exact ⟨rfl, ((Below.refl _ _).alloc (Nat.le_refl _) _).drew⟩
set_option maxRecDepth 100000 in
set_option maxHeartbeats 2000000 in
theorem rbin_3 (a b : Int) (w : World) (h0 : 0 ≤ a) (g0 : a < 4294967296) (h1 : 0 ≤ b) (g1 : b < 4294967296) :
    Calls Try.prog 108 #[.int .i64 3, .int .u32 a, .int .u32 b] w fun e w' => e = .returned (.int .u32 (binV 3 a b)) ∧ Below w.heap.size w w' := by
  have CK := Lib.hid (fun w => rreckon_any 5 a b 0 w h0 g0 h1 g1 (by decide) (by decide))
  go_enter Try.func108, Try.ntmps108
  go_wp2_with (first
    | (go_at_call 86; (with_reducible refine (CK.out _).mono ?_); rintro e w' ⟨rfl, rfl⟩)
    | (go_at_call 163; (with_reducible refine (signed3_any _ _ (by omega) (by omega)).mono ?_); rintro e w' ⟨rfl, rfl⟩)
    | (go_at_call 109; (with_reducible refine (is3_any _ _).mono ?_); rintro e w' ⟨rfl, rfl⟩))
  go_ret
  first | exact ⟨rfl, ((Below.refl _ _).alloc (Nat.le_refl _) _)⟩ | exact ⟨rfl, ((Below.refl _ _).alloc (Nat.le_refl _) _).drew⟩
set_option maxRecDepth 100000 in
set_option maxHeartbeats 2000000 in
theorem rbin_4 (a b : Int) (w : World) (h0 : 0 ≤ a) (g0 : a < 4294967296) (h1 : 0 ≤ b) (g1 : b < 4294967296) :
    Calls Try.prog 108 #[.int .i64 4, .int .u32 a, .int .u32 b] w fun e w' => e = .returned (.int .u32 (binV 4 a b)) ∧ Below w.heap.size w w' := by
  have CK := Lib.hid (fun w => rreckon_any 6 a b 0 w h0 g0 h1 g1 (by decide) (by decide))
  go_enter Try.func108, Try.ntmps108
  go_wp2_with (first
    | (go_at_call 86; (with_reducible refine (CK.out _).mono ?_); rintro e w' ⟨rfl, rfl⟩)
    | (go_at_call 163; (with_reducible refine (signed3_any _ _ (by omega) (by omega)).mono ?_); rintro e w' ⟨rfl, rfl⟩)
    | (go_at_call 109; (with_reducible refine (is3_any _ _).mono ?_); rintro e w' ⟨rfl, rfl⟩))
  go_ret
  first | exact ⟨rfl, ((Below.refl _ _).alloc (Nat.le_refl _) _)⟩ | exact ⟨rfl, ((Below.refl _ _).alloc (Nat.le_refl _) _).drew⟩
set_option maxRecDepth 100000 in
set_option maxHeartbeats 2000000 in
theorem rbin_5 (a b : Int) (w : World) (h0 : 0 ≤ a) (g0 : a < 4294967296) (h1 : 0 ≤ b) (g1 : b < 4294967296) :
    Calls Try.prog 108 #[.int .i64 5, .int .u32 a, .int .u32 b] w fun e w' => e = .returned (.int .u32 (binV 5 a b)) ∧ Below w.heap.size w w' := by
  have CK := Lib.hid (fun w => rreckon_any 9 a b 0 w h0 g0 h1 g1 (by decide) (by decide))
  go_enter Try.func108, Try.ntmps108
  go_wp2_with (first
    | (go_at_call 86; (with_reducible refine (CK.out _).mono ?_); rintro e w' ⟨rfl, rfl⟩)
    | (go_at_call 163; (with_reducible refine (signed3_any _ _ (by omega) (by omega)).mono ?_); rintro e w' ⟨rfl, rfl⟩)
    | (go_at_call 109; (with_reducible refine (is3_any _ _).mono ?_); rintro e w' ⟨rfl, rfl⟩))
  go_ret
  first | exact ⟨rfl, ((Below.refl _ _).alloc (Nat.le_refl _) _)⟩ | exact ⟨rfl, ((Below.refl _ _).alloc (Nat.le_refl _) _).drew⟩
set_option maxRecDepth 100000 in
set_option maxHeartbeats 2000000 in
theorem rbin_6 (a b : Int) (w : World) (h0 : 0 ≤ a) (g0 : a < 4294967296) (h1 : 0 ≤ b) (g1 : b < 4294967296) :
    Calls Try.prog 108 #[.int .i64 6, .int .u32 a, .int .u32 b] w fun e w' => e = .returned (.int .u32 (binV 6 a b)) ∧ Below w.heap.size w w' := by
  have CK := Lib.hid (fun w => rreckon_any 10 a b 0 w h0 g0 h1 g1 (by decide) (by decide))
  go_enter Try.func108, Try.ntmps108
  go_wp2_with (first
    | (go_at_call 86; (with_reducible refine (CK.out _).mono ?_); rintro e w' ⟨rfl, rfl⟩)
    | (go_at_call 163; (with_reducible refine (signed3_any _ _ (by omega) (by omega)).mono ?_); rintro e w' ⟨rfl, rfl⟩)
    | (go_at_call 109; (with_reducible refine (is3_any _ _).mono ?_); rintro e w' ⟨rfl, rfl⟩))
  go_ret
  first | exact ⟨rfl, ((Below.refl _ _).alloc (Nat.le_refl _) _)⟩ | exact ⟨rfl, ((Below.refl _ _).alloc (Nat.le_refl _) _).drew⟩
set_option maxRecDepth 100000 in
set_option maxHeartbeats 2000000 in
theorem rbin_7 (a b : Int) (w : World) (h0 : 0 ≤ a) (g0 : a < 4294967296) (h1 : 0 ≤ b) (g1 : b < 4294967296) :
    Calls Try.prog 108 #[.int .i64 7, .int .u32 a, .int .u32 b] w fun e w' => e = .returned (.int .u32 (binV 7 a b)) ∧ Below w.heap.size w w' := by
  have CK := Lib.hid (fun w => rreckon_any 11 a b 0 w h0 g0 h1 g1 (by decide) (by decide))
  go_enter Try.func108, Try.ntmps108
  go_wp2_with (first
    | (go_at_call 86; (with_reducible refine (CK.out _).mono ?_); rintro e w' ⟨rfl, rfl⟩)
    | (go_at_call 163; (with_reducible refine (signed3_any _ _ (by omega) (by omega)).mono ?_); rintro e w' ⟨rfl, rfl⟩)
    | (go_at_call 109; (with_reducible refine (is3_any _ _).mono ?_); rintro e w' ⟨rfl, rfl⟩))
  go_ret
  first | exact ⟨rfl, ((Below.refl _ _).alloc (Nat.le_refl _) _)⟩ | exact ⟨rfl, ((Below.refl _ _).alloc (Nat.le_refl _) _).drew⟩
set_option maxRecDepth 100000 in
set_option maxHeartbeats 2000000 in
theorem rbin_8 (a b : Int) (w : World) (h0 : 0 ≤ a) (g0 : a < 4294967296) (h1 : 0 ≤ b) (g1 : b < 4294967296) :
    Calls Try.prog 108 #[.int .i64 8, .int .u32 a, .int .u32 b] w fun e w' => e = .returned (.int .u32 (binV 8 a b)) ∧ Below w.heap.size w w' := by
  have CK := Lib.hid (fun w => rreckon_any 12 a b 0 w h0 g0 h1 g1 (by decide) (by decide))
  go_enter Try.func108, Try.ntmps108
  go_wp2_with (first
    | (go_at_call 86; (with_reducible refine (CK.out _).mono ?_); rintro e w' ⟨rfl, rfl⟩)
    | (go_at_call 163; (with_reducible refine (signed3_any _ _ (by omega) (by omega)).mono ?_); rintro e w' ⟨rfl, rfl⟩)
    | (go_at_call 109; (with_reducible refine (is3_any _ _).mono ?_); rintro e w' ⟨rfl, rfl⟩))
  go_ret
  first | exact ⟨rfl, ((Below.refl _ _).alloc (Nat.le_refl _) _)⟩ | exact ⟨rfl, ((Below.refl _ _).alloc (Nat.le_refl _) _).drew⟩
set_option maxRecDepth 100000 in
set_option maxHeartbeats 2000000 in
theorem rbin_9 (a b : Int) (w : World) (h0 : 0 ≤ a) (g0 : a < 4294967296) (h1 : 0 ≤ b) (g1 : b < 4294967296) :
    Calls Try.prog 108 #[.int .i64 9, .int .u32 a, .int .u32 b] w fun e w' => e = .returned (.int .u32 (binV 9 a b)) ∧ Below w.heap.size w w' := by
  have CK := Lib.hid (fun w => rreckon_any 13 a b 0 w h0 g0 h1 g1 (by decide) (by decide))
  go_enter Try.func108, Try.ntmps108
  go_wp2_with (first
    | (go_at_call 86; (with_reducible refine (CK.out _).mono ?_); rintro e w' ⟨rfl, rfl⟩)
    | (go_at_call 163; (with_reducible refine (signed3_any _ _ (by omega) (by omega)).mono ?_); rintro e w' ⟨rfl, rfl⟩)
    | (go_at_call 109; (with_reducible refine (is3_any _ _).mono ?_); rintro e w' ⟨rfl, rfl⟩))
  go_ret
  first | exact ⟨rfl, ((Below.refl _ _).alloc (Nat.le_refl _) _)⟩ | exact ⟨rfl, ((Below.refl _ _).alloc (Nat.le_refl _) _).drew⟩
set_option maxRecDepth 100000 in
set_option maxHeartbeats 2000000 in
theorem rbin_10 (a b : Int) (w : World) (h0 : 0 ≤ a) (g0 : a < 4294967296) (h1 : 0 ≤ b) (g1 : b < 4294967296) :
    Calls Try.prog 108 #[.int .i64 10, .int .u32 a, .int .u32 b] w fun e w' => e = .returned (.int .u32 (binV 10 a b)) ∧ Below w.heap.size w w' := by
  have CK := Lib.hid (fun w => rreckon_any 0 a b 0 w h0 g0 h1 g1 (by decide) (by decide))
  have h2 : 0 ≤ a * b := Int.mul_nonneg h0 h1
  have h3 : a * b ≤ 4294967295 * 4294967295 := Int.mul_le_mul (by omega) (by omega) h1 (by decide)
  have h4 : a * b < 18446744073709551616 := by omega
  have h5 : a * b % 18446744073709551616 = a * b := by omega
  have h6 : 0 ≤ a * b / 4294967296 := by omega
  have h7 : a * b / 4294967296 < 4294967296 := by omega
  have h8 : a * b / 4294967296 % 4294967296 = a * b / 4294967296 := by omega
  go_enter Try.func108, Try.ntmps108
  go_wp2_with (first
    | (go_at_call 86; (with_reducible refine (CK.out _).mono ?_); rintro e w' ⟨rfl, rfl⟩)
    | (go_at_call 163; (with_reducible refine (signed3_any _ _ (by omega) (by omega)).mono ?_); rintro e w' ⟨rfl, rfl⟩)
    | (go_at_call 109; (with_reducible refine (is3_any _ _).mono ?_); rintro e w' ⟨rfl, rfl⟩))
  go_ret
  exact ⟨rfl, ((Below.refl _ _).alloc (Nat.le_refl _) _)⟩
set_option maxRecDepth 100000 in
set_option maxHeartbeats 2000000 in
theorem rbin_11 (a b : Int) (w : World) (h0 : 0 ≤ a) (g0 : a < 4294967296) (h1 : 0 ≤ b) (g1 : b < 4294967296) :
    Calls Try.prog 108 #[.int .i64 11, .int .u32 a, .int .u32 b] w fun e w' => e = .returned (.int .u32 (binV 11 a b)) ∧ Below w.heap.size w w' := by
  have CK := Lib.hid (fun w => rreckon_any 0 a b 0 w h0 g0 h1 g1 (by decide) (by decide))
  by_cases hx : b = 0
  · have e : binV 11 a b = 4294967295 := by show (if b = 0 then 4294967295 else a / b) = _; rw [if_pos hx]
    rw [e]
    clear e
    go_enter Try.func108, Try.ntmps108
    go_wp2_with (first
      | (go_at_call 86; (with_reducible refine (CK.out _).mono ?_); rintro e w' ⟨rfl, rfl⟩)
      | (go_at_call 163; (with_reducible refine (signed3_any _ _ (by omega) (by omega)).mono ?_); rintro e w' ⟨rfl, rfl⟩)
      | (go_at_call 109; (with_reducible refine (is3_any _ _).mono ?_); rintro e w' ⟨rfl, rfl⟩))
    go_ret
    first | exact ⟨rfl, ((Below.refl _ _).alloc (Nat.le_refl _) _)⟩ | exact ⟨ret_u32 (by simp), ((Below.refl _ _).alloc (Nat.le_refl _) _)⟩
  · have e : binV 11 a b = a / b := by show (if b = 0 then 4294967295 else a / b) = _; rw [if_neg hx]
    rw [e]
    clear e
    go_enter Try.func108, Try.ntmps108
    go_wp2_with (first
      | (go_at_call 86; (with_reducible refine (CK.out _).mono ?_); rintro e w' ⟨rfl, rfl⟩)
      | (go_at_call 163; (with_reducible refine (signed3_any _ _ (by omega) (by omega)).mono ?_); rintro e w' ⟨rfl, rfl⟩)
      | (go_at_call 109; (with_reducible refine (is3_any _ _).mono ?_); rintro e w' ⟨rfl, rfl⟩))
    go_ret
    first | exact ⟨rfl, ((Below.refl _ _).alloc (Nat.le_refl _) _)⟩ | exact ⟨ret_u32 (by simp), ((Below.refl _ _).alloc (Nat.le_refl _) _)⟩
set_option maxRecDepth 100000 in
set_option maxHeartbeats 2000000 in
theorem rbin_12 (a b : Int) (w : World) (h0 : 0 ≤ a) (g0 : a < 4294967296) (h1 : 0 ≤ b) (g1 : b < 4294967296) :
    Calls Try.prog 108 #[.int .i64 12, .int .u32 a, .int .u32 b] w fun e w' => e = .returned (.int .u32 (binV 12 a b)) ∧ Below w.heap.size w w' := by
  have CK := Lib.hid (fun w => rreckon_any 0 a b 0 w h0 g0 h1 g1 (by decide) (by decide))
  by_cases hx : b = 0
  · have e : binV 12 a b = a := by show (if b = 0 then a else a % b) = _; rw [if_pos hx]
    rw [e]
    clear e
    go_enter Try.func108, Try.ntmps108
    go_wp2_with (first
      | (go_at_call 86; (with_reducible refine (CK.out _).mono ?_); rintro e w' ⟨rfl, rfl⟩)
      | (go_at_call 163; (with_reducible refine (signed3_any _ _ (by omega) (by omega)).mono ?_); rintro e w' ⟨rfl, rfl⟩)
      | (go_at_call 109; (with_reducible refine (is3_any _ _).mono ?_); rintro e w' ⟨rfl, rfl⟩))
    go_ret
    first | exact ⟨rfl, ((Below.refl _ _).alloc (Nat.le_refl _) _)⟩ | exact ⟨ret_u32 (by simp), ((Below.refl _ _).alloc (Nat.le_refl _) _)⟩
  · have e : binV 12 a b = a % b := by show (if b = 0 then a else a % b) = _; rw [if_neg hx]
    rw [e]
    clear e
    go_enter Try.func108, Try.ntmps108
    go_wp2_with (first
      | (go_at_call 86; (with_reducible refine (CK.out _).mono ?_); rintro e w' ⟨rfl, rfl⟩)
      | (go_at_call 163; (with_reducible refine (signed3_any _ _ (by omega) (by omega)).mono ?_); rintro e w' ⟨rfl, rfl⟩)
      | (go_at_call 109; (with_reducible refine (is3_any _ _).mono ?_); rintro e w' ⟨rfl, rfl⟩))
    go_ret
    first | exact ⟨rfl, ((Below.refl _ _).alloc (Nat.le_refl _) _)⟩ | exact ⟨ret_u32 (by simp), ((Below.refl _ _).alloc (Nat.le_refl _) _)⟩
set_option maxRecDepth 100000 in
set_option maxHeartbeats 2000000 in
theorem rbin_13 (a b : Int) (w : World) (h0 : 0 ≤ a) (g0 : a < 4294967296) (h1 : 0 ≤ b) (g1 : b < 4294967296) :
    Calls Try.prog 108 #[.int .i64 13, .int .u32 a, .int .u32 b] w fun e w' => e = .returned (.int .u32 (binV 13 a b)) ∧ Below w.heap.size w w' := by
  have CK := Lib.hid (fun w => rreckon_any 0 a b 0 w h0 g0 h1 g1 (by decide) (by decide))
  by_cases hx : a = b
  · have e : binV 13 a b = 1 := by show (if a = b then 1 else 0) = _; rw [if_pos hx]
    rw [e]
    clear e
    go_enter Try.func108, Try.ntmps108
    go_wp2_with (first
      | (go_at_call 86; (with_reducible refine (CK.out _).mono ?_); rintro e w' ⟨rfl, rfl⟩)
      | (go_at_call 163; (with_reducible refine (signed3_any _ _ (by omega) (by omega)).mono ?_); rintro e w' ⟨rfl, rfl⟩)
      | (go_at_call 109; (with_reducible refine (is3_any _ _).mono ?_); rintro e w' ⟨rfl, rfl⟩))
    go_ret
    first | exact ⟨rfl, ((Below.refl _ _).alloc (Nat.le_refl _) _)⟩ | exact ⟨ret_u32 (by simp), ((Below.refl _ _).alloc (Nat.le_refl _) _)⟩
  · have e : binV 13 a b = 0 := by show (if a = b then 1 else 0) = _; rw [if_neg hx]
    rw [e]
    clear e
    go_enter Try.func108, Try.ntmps108
    go_wp2_with (first
      | (go_at_call 86; (with_reducible refine (CK.out _).mono ?_); rintro e w' ⟨rfl, rfl⟩)
      | (go_at_call 163; (with_reducible refine (signed3_any _ _ (by omega) (by omega)).mono ?_); rintro e w' ⟨rfl, rfl⟩)
      | (go_at_call 109; (with_reducible refine (is3_any _ _).mono ?_); rintro e w' ⟨rfl, rfl⟩))
    go_ret
    first | exact ⟨rfl, ((Below.refl _ _).alloc (Nat.le_refl _) _)⟩ | exact ⟨ret_u32 (by simp), ((Below.refl _ _).alloc (Nat.le_refl _) _)⟩
set_option maxRecDepth 100000 in
set_option maxHeartbeats 2000000 in
theorem rbin_14 (a b : Int) (w : World) (h0 : 0 ≤ a) (g0 : a < 4294967296) (h1 : 0 ≤ b) (g1 : b < 4294967296) :
    Calls Try.prog 108 #[.int .i64 14, .int .u32 a, .int .u32 b] w fun e w' => e = .returned (.int .u32 (binV 14 a b)) ∧ Below w.heap.size w w' := by
  have CK := Lib.hid (fun w => rreckon_any 0 a b 0 w h0 g0 h1 g1 (by decide) (by decide))
  by_cases hx : a < b
  · have e : binV 14 a b = 1 := by show (if a < b then 1 else 0) = _; rw [if_pos hx]
    rw [e]
    clear e
    go_enter Try.func108, Try.ntmps108
    go_wp2_with (first
      | (go_at_call 86; (with_reducible refine (CK.out _).mono ?_); rintro e w' ⟨rfl, rfl⟩)
      | (go_at_call 163; (with_reducible refine (signed3_any _ _ (by omega) (by omega)).mono ?_); rintro e w' ⟨rfl, rfl⟩)
      | (go_at_call 109; (with_reducible refine (is3_any _ _).mono ?_); rintro e w' ⟨rfl, rfl⟩))
    go_ret
    first | exact ⟨rfl, ((Below.refl _ _).alloc (Nat.le_refl _) _)⟩ | exact ⟨ret_u32 (by simp), ((Below.refl _ _).alloc (Nat.le_refl _) _)⟩
  · have e : binV 14 a b = 0 := by show (if a < b then 1 else 0) = _; rw [if_neg hx]
    rw [e]
    clear e
    go_enter Try.func108, Try.ntmps108
    go_wp2_with (first
      | (go_at_call 86; (with_reducible refine (CK.out _).mono ?_); rintro e w' ⟨rfl, rfl⟩)
      | (go_at_call 163; (with_reducible refine (signed3_any _ _ (by omega) (by omega)).mono ?_); rintro e w' ⟨rfl, rfl⟩)
      | (go_at_call 109; (with_reducible refine (is3_any _ _).mono ?_); rintro e w' ⟨rfl, rfl⟩))
    go_ret
    first | exact ⟨rfl, ((Below.refl _ _).alloc (Nat.le_refl _) _)⟩ | exact ⟨ret_u32 (by simp), ((Below.refl _ _).alloc (Nat.le_refl _) _)⟩
set_option maxRecDepth 100000 in
set_option maxHeartbeats 2000000 in
theorem rbin_15 (a b : Int) (w : World) (h0 : 0 ≤ a) (g0 : a < 4294967296) (h1 : 0 ≤ b) (g1 : b < 4294967296) :
    Calls Try.prog 108 #[.int .i64 15, .int .u32 a, .int .u32 b] w fun e w' => e = .returned (.int .u32 (binV 15 a b)) ∧ Below w.heap.size w w' := by
  have CK := Lib.hid (fun w => rreckon_any 0 a b 0 w h0 g0 h1 g1 (by decide) (by decide))
  by_cases hx : sg a < sg b
  · have e : binV 15 a b = 1 := by show (if sg a < sg b then 1 else 0) = _; rw [if_pos hx]
    rw [e]
    clear e
    go_enter Try.func108, Try.ntmps108
    go_wp2_with (first
      | (go_at_call 86; (with_reducible refine (CK.out _).mono ?_); rintro e w' ⟨rfl, rfl⟩)
      | (go_at_call 163; (with_reducible refine (signed3_any _ _ (by omega) (by omega)).mono ?_); rintro e w' ⟨rfl, rfl⟩)
      | (go_at_call 109; (with_reducible refine (is3_any _ _).mono ?_); rintro e w' ⟨rfl, rfl⟩))
    go_ret
    first | exact ⟨rfl, ((Below.refl _ _).alloc (Nat.le_refl _) _)⟩ | exact ⟨ret_u32 (by simp), ((Below.refl _ _).alloc (Nat.le_refl _) _)⟩
  · have e : binV 15 a b = 0 := by show (if sg a < sg b then 1 else 0) = _; rw [if_neg hx]
    rw [e]
    clear e
    go_enter Try.func108, Try.ntmps108
    go_wp2_with (first
      | (go_at_call 86; (with_reducible refine (CK.out _).mono ?_); rintro e w' ⟨rfl, rfl⟩)
      | (go_at_call 163; (with_reducible refine (signed3_any _ _ (by omega) (by omega)).mono ?_); rintro e w' ⟨rfl, rfl⟩)
      | (go_at_call 109; (with_reducible refine (is3_any _ _).mono ?_); rintro e w' ⟨rfl, rfl⟩))
    go_ret
    first | exact ⟨rfl, ((Below.refl _ _).alloc (Nat.le_refl _) _)⟩ | exact ⟨ret_u32 (by simp), ((Below.refl _ _).alloc (Nat.le_refl _) _)⟩
theorem bin_any (k a b : Int) (w : World) (k0 : 0 ≤ k) (k1 : k < 16) (h0 : 0 ≤ a) (g0 : a < 4294967296) (h1 : 0 ≤ b) (g1 : b < 4294967296) :
    Calls Try.prog 197 #[.int .i64 k, .int .u32 a, .int .u32 b] w fun e w' => e = .returned (.int .u32 (binV k a b)) ∧ w = w' := by
  rcases (show k = 0 ∨ k = 1 ∨ k = 2 ∨ k = 3 ∨ k = 4 ∨ k = 5 ∨ k = 6 ∨ k = 7 ∨ k = 8 ∨ k = 9 ∨ k = 10 ∨ k = 11 ∨ k = 12 ∨ k = 13 ∨ k = 14 ∨ k = 15 by omega) with rfl | rfl | rfl | rfl | rfl | rfl | rfl | rfl | rfl | rfl | rfl | rfl | rfl | rfl | rfl | rfl
  · exact bin_0 a b w h0 g0 h1 g1
  · exact bin_1 a b w h0 g0 h1 g1
  · exact bin_2 a b w h0 g0 h1 g1
  · exact bin_3 a b w h0 g0 h1 g1
  · exact bin_4 a b w h0 g0 h1 g1
  · exact bin_5 a b w h0 g0 h1 g1
  · exact bin_6 a b w h0 g0 h1 g1
  · exact bin_7 a b w h0 g0 h1 g1
  · exact bin_8 a b w h0 g0 h1 g1
  · exact bin_9 a b w h0 g0 h1 g1
  · exact bin_10 a b w h0 g0 h1 g1
  · exact bin_11 a b w h0 g0 h1 g1
  · exact bin_12 a b w h0 g0 h1 g1
  · exact bin_13 a b w h0 g0 h1 g1
  · exact bin_14 a b w h0 g0 h1 g1
  · exact bin_15 a b w h0 g0 h1 g1
theorem rbin_any (k a b : Int) (w : World) (k0 : 0 ≤ k) (k1 : k < 16) (h0 : 0 ≤ a) (g0 : a < 4294967296) (h1 : 0 ≤ b) (g1 : b < 4294967296) :
    Calls Try.prog 108 #[.int .i64 k, .int .u32 a, .int .u32 b] w fun e w' => e = .returned (.int .u32 (binV k a b)) ∧ Below w.heap.size w w' := by
  rcases (show k = 0 ∨ k = 1 ∨ k = 2 ∨ k = 3 ∨ k = 4 ∨ k = 5 ∨ k = 6 ∨ k = 7 ∨ k = 8 ∨ k = 9 ∨ k = 10 ∨ k = 11 ∨ k = 12 ∨ k = 13 ∨ k = 14 ∨ k = 15 by omega) with rfl | rfl | rfl | rfl | rfl | rfl | rfl | rfl | rfl | rfl | rfl | rfl | rfl | rfl | rfl | rfl
  · exact rbin_0 a b w h0 g0 h1 g1
  · exact rbin_1 a b w h0 g0 h1 g1
  · exact rbin_2 a b w h0 g0 h1 g1
  · exact rbin_3 a b w h0 g0 h1 g1
  · exact rbin_4 a b w h0 g0 h1 g1
  · exact rbin_5 a b w h0 g0 h1 g1
  · exact rbin_6 a b w h0 g0 h1 g1
  · exact rbin_7 a b w h0 g0 h1 g1
  · exact rbin_8 a b w h0 g0 h1 g1
  · exact rbin_9 a b w h0 g0 h1 g1
  · exact rbin_10 a b w h0 g0 h1 g1
  · exact rbin_11 a b w h0 g0 h1 g1
  · exact rbin_12 a b w h0 g0 h1 g1
  · exact rbin_13 a b w h0 g0 h1 g1
  · exact rbin_14 a b w h0 g0 h1 g1
  · exact rbin_15 a b w h0 g0 h1 g1
end Go.Proofs.Ytcjcmnnhmajocab.Ev
namespace Go.Proofs.Ytcjcmnnhmajocab.Ev
open Go.RowKit Kt Me Fl
set_option linter.unusedVariables false
set_option linter.unusedSimpArgs false
set_option maxRecDepth 100000 in
set_option maxHeartbeats 2000000 in
theorem val_4 (ow oa ob oc kn on a b c : Int) (w : World) (k0 : 0 ≤ kn) (k1 : kn < 4294967296) (a0 : 0 ≤ a) (a1 : a < 4294967296) (b0 : 0 ≤ b) (b1 : b < 4294967296) (c0 : 0 ≤ c) (c1 : c < 4294967296) (hw : 0 ≤ ow ∧ ow < 16) :
    Calls Try.prog 171 #[.agg #[.int .i64 4, .int .i64 ow, .int .i64 oa, .int .i64 ob, .int .i64 oc, .int .u32 kn, .int .i64 on], .int .u32 a, .int .u32 b, .int .u32 c] w fun e w' => e = .returned (.int .u32 (valV 4 ow kn a b c)) ∧ Below w.heap.size w w' := by
  have CB := Lib.hid (fun w => bin_any ow a b w hw.1 hw.2 a0 a1 b0 b1)
  go_enter Try.func171, Try.ntmps171
  go_wp2_with (go_at_call 197; (with_reducible refine (CB.out _).mono ?_); rintro e w1 ⟨rfl, rfl⟩)
  go_ret
  exact ⟨rfl, (Below.refl _ _).alloc (Nat.le_refl _) _⟩
set_option maxRecDepth 100000 in
set_option maxHeartbeats 2000000 in
theorem val_5 (ow oa ob oc kn on a b c : Int) (w : World) (k0 : 0 ≤ kn) (k1 : kn < 4294967296) (a0 : 0 ≤ a) (a1 : a < 4294967296) (b0 : 0 ≤ b) (b1 : b < 4294967296) (c0 : 0 ≤ c) (c1 : c < 4294967296) (hw : 0 ≤ ow ∧ ow < 7) :
    Calls Try.prog 171 #[.agg #[.int .i64 5, .int .i64 ow, .int .i64 oa, .int .i64 ob, .int .i64 oc, .int .u32 kn, .int .i64 on], .int .u32 a, .int .u32 b, .int .u32 c] w fun e w' => e = .returned (.int .u32 (valV 5 ow kn a b c)) ∧ Below w.heap.size w w' := by
  have CB := Lib.hid (fun w => un_any ow a w hw.1 hw.2 a0 a1)
  go_enter Try.func171, Try.ntmps171
  go_wp2_with (go_at_call 167; (with_reducible refine (CB.out _).mono ?_); rintro e w1 ⟨rfl, rfl⟩)
  go_ret
  exact ⟨rfl, (Below.refl _ _).alloc (Nat.le_refl _) _⟩
set_option maxRecDepth 100000 in
set_option maxHeartbeats 2000000 in
theorem val_6 (ow oa ob oc kn on a b c : Int) (w : World) (k0 : 0 ≤ kn) (k1 : kn < 4294967296) (a0 : 0 ≤ a) (a1 : a < 4294967296) (b0 : 0 ≤ b) (b1 : b < 4294967296) (c0 : 0 ≤ c) (c1 : c < 4294967296) :
    Calls Try.prog 171 #[.agg #[.int .i64 6, .int .i64 ow, .int .i64 oa, .int .i64 ob, .int .i64 oc, .int .u32 kn, .int .i64 on], .int .u32 a, .int .u32 b, .int .u32 c] w fun e w' => e = .returned (.int .u32 (valV 6 ow kn a b c)) ∧ Below w.heap.size w w' := by
  by_cases hx : a = 0
  · have e : valV 6 ow kn a b c = c := by show (if a = 0 then c else b) = _; rw [if_pos hx]
    rw [e]
    clear e
    have hb1 : (a != 0) = false := by simp [hx]
    go_enter Try.func171, Try.ntmps171
    go_wp2_with fail
    go_ret
    exact ⟨rfl, (Below.refl _ _).alloc (Nat.le_refl _) _⟩
  · have e : valV 6 ow kn a b c = b := by show (if a = 0 then c else b) = _; rw [if_neg hx]
    rw [e]
    clear e
    have hb1 : (a != 0) = true := by simp [hx]
    go_enter Try.func171, Try.ntmps171
    go_wp2_with fail
    go_ret
    exact ⟨rfl, (Below.refl _ _).alloc (Nat.le_refl _) _⟩
set_option maxRecDepth 100000 in
set_option maxHeartbeats 2000000 in
theorem val_7 (ow oa ob oc kn on a b c : Int) (w : World) (k0 : 0 ≤ kn) (k1 : kn < 4294967296) (a0 : 0 ≤ a) (a1 : a < 4294967296) (b0 : 0 ≤ b) (b1 : b < 4294967296) (c0 : 0 ≤ c) (c1 : c < 4294967296) :
    Calls Try.prog 171 #[.agg #[.int .i64 7, .int .i64 ow, .int .i64 oa, .int .i64 ob, .int .i64 oc, .int .u32 kn, .int .i64 on], .int .u32 a, .int .u32 b, .int .u32 c] w fun e w' => e = .returned (.int .u32 (valV 7 ow kn a b c)) ∧ Below w.heap.size w w' := by
  have CB := Lib.hid (fun w => flags_any ow a b c w a0 a1 b0 b1 c0 c1)
  go_enter Try.func171, Try.ntmps171
  go_wp2_with (go_at_call 125; (with_reducible refine (CB.out _).mono ?_); rintro e w1 ⟨rfl, rfl⟩)
  go_ret
  exact ⟨rfl, (Below.refl _ _).alloc (Nat.le_refl _) _⟩
set_option maxRecDepth 100000 in
set_option maxHeartbeats 2000000 in
theorem val_8 (ow oa ob oc kn on a b c : Int) (w : World) (k0 : 0 ≤ kn) (k1 : kn < 4294967296) (a0 : 0 ≤ a) (a1 : a < 4294967296) (b0 : 0 ≤ b) (b1 : b < 4294967296) (c0 : 0 ≤ c) (c1 : c < 4294967296) (hw : -9223372036854775808 ≤ ow ∧ ow < 9223372036854775808) :
    Calls Try.prog 171 #[.agg #[.int .i64 8, .int .i64 ow, .int .i64 oa, .int .i64 ob, .int .i64 oc, .int .u32 kn, .int .i64 on], .int .u32 a, .int .u32 b, .int .u32 c] w fun e w' => e = .returned (.int .u32 (valV 8 ow kn a b c)) ∧ Below w.heap.size w w' := by
  have CB := Lib.hid (fun w => holds_any ow a w a0 a1 hw.1 hw.2)
  have e : valV 8 ow kn a b c = (if Fl.hd ow a then 1 else 0) := rfl
  rw [e]
  clear e
  generalize Fl.hd ow a = t at CB
  have CT := Lib.hid (fun w => truth_any t w)
  generalize (if t = true then (1 : Int) else 0) = z at CT ⊢
  go_enter Try.func171, Try.ntmps171
  go_wp2_with (first | (go_at_call 127; (with_reducible refine (CB.out _).mono ?_); rintro e w1 ⟨rfl, hb⟩) | (go_at_call 196; (with_reducible refine (CT.out _).mono ?_); rintro e w2 ⟨rfl, rfl⟩))
  go_ret
  exact ⟨rfl, ((Below.refl _ _).alloc (Nat.le_refl _) _).trans (hb.mono (by simp))⟩
/-- which kinds hang on what they take alone; how W goes -/
theorem val_any (k : Int) (ow oa ob oc kn on a b c : Int) (w : World) (k0 : 0 ≤ kn) (k1 : kn < 4294967296) (a0 : 0 ≤ a) (a1 : a < 4294967296) (b0 : 0 ≤ b) (b1 : b < 4294967296) (c0 : 0 ≤ c) (c1 : c < 4294967296) (hk : (k = 4 ∧ 0 ≤ ow ∧ ow < 16) ∨ (k = 5 ∧ 0 ≤ ow ∧ ow < 7) ∨ k = 6 ∨ k = 7 ∨ (k = 8 ∧ 0 ≤ ow ∧ ow < 16)) :
    Calls Try.prog 171 #[.agg #[.int .i64 k, .int .i64 ow, .int .i64 oa, .int .i64 ob, .int .i64 oc, .int .u32 kn, .int .i64 on], .int .u32 a, .int .u32 b, .int .u32 c] w fun e w' => e = .returned (.int .u32 (valV k ow kn a b c)) ∧ Below w.heap.size w w' := by
  rcases hk with ⟨rfl, hw⟩ | ⟨rfl, hw⟩ | rfl | rfl | ⟨rfl, hw⟩
  · exact val_4 ow oa ob oc kn on a b c w k0 k1 a0 a1 b0 b1 c0 c1 hw
  · exact val_5 ow oa ob oc kn on a b c w k0 k1 a0 a1 b0 b1 c0 c1 hw
  · exact val_6 ow oa ob oc kn on a b c w k0 k1 a0 a1 b0 b1 c0 c1
  · exact val_7 ow oa ob oc kn on a b c w k0 k1 a0 a1 b0 b1 c0 c1
  · exact val_8 ow oa ob oc kn on a b c w k0 k1 a0 a1 b0 b1 c0 c1 ⟨by omega, by omega⟩
set_option maxRecDepth 100000 in
set_option maxHeartbeats 2000000 in
theorem rval_1 (ow oa ob oc kn on a b c : Int) (w : World) (k0 : 0 ≤ kn) (k1 : kn < 4294967296) (a0 : 0 ≤ a) (a1 : a < 4294967296) (b0 : 0 ≤ b) (b1 : b < 4294967296) (c0 : 0 ≤ c) (c1 : c < 4294967296) :
    Calls Try.prog 64 #[.agg #[.int .i64 1, .int .i64 ow, .int .i64 oa, .int .i64 ob, .int .i64 oc, .int .u32 kn, .int .i64 on], .int .u32 a, .int .u32 b, .int .u32 c] w fun e w' => e = .returned (.int .u32 (valV 1 ow kn a b c)) ∧ Below w.heap.size w w' := by
  go_enter Try.func64, Try.ntmps64
  go_wp2_with fail
  go_ret
  exact ⟨rfl, (Below.refl _ _).alloc (Nat.le_refl _) _⟩
set_option maxRecDepth 100000 in
set_option maxHeartbeats 2000000 in
theorem rval_4 (ow oa ob oc kn on a b c : Int) (w : World) (k0 : 0 ≤ kn) (k1 : kn < 4294967296) (a0 : 0 ≤ a) (a1 : a < 4294967296) (b0 : 0 ≤ b) (b1 : b < 4294967296) (c0 : 0 ≤ c) (c1 : c < 4294967296) (hw : 0 ≤ ow ∧ ow < 16) :
    Calls Try.prog 64 #[.agg #[.int .i64 4, .int .i64 ow, .int .i64 oa, .int .i64 ob, .int .i64 oc, .int .u32 kn, .int .i64 on], .int .u32 a, .int .u32 b, .int .u32 c] w fun e w' => e = .returned (.int .u32 (valV 4 ow kn a b c)) ∧ Below w.heap.size w w' := by
  have CB := Lib.hid (fun w => rbin_any ow a b w hw.1 hw.2 a0 a1 b0 b1)
  go_enter Try.func64, Try.ntmps64
  go_wp2_with (go_at_call 108; (with_reducible refine (CB.out _).mono ?_); rintro e w1 ⟨rfl, hb⟩)
  go_ret
  exact ⟨rfl, ((Below.refl _ _).alloc (Nat.le_refl _) _).trans (hb.mono (by simp))⟩
set_option maxRecDepth 100000 in
set_option maxHeartbeats 2000000 in
theorem rval_5 (ow oa ob oc kn on a b c : Int) (w : World) (k0 : 0 ≤ kn) (k1 : kn < 4294967296) (a0 : 0 ≤ a) (a1 : a < 4294967296) (b0 : 0 ≤ b) (b1 : b < 4294967296) (c0 : 0 ≤ c) (c1 : c < 4294967296) (hw : 0 ≤ ow ∧ ow < 7) :
    Calls Try.prog 64 #[.agg #[.int .i64 5, .int .i64 ow, .int .i64 oa, .int .i64 ob, .int .i64 oc, .int .u32 kn, .int .i64 on], .int .u32 a, .int .u32 b, .int .u32 c] w fun e w' => e = .returned (.int .u32 (valV 5 ow kn a b c)) ∧ Below w.heap.size w w' := by
  have CB := Lib.hid (fun w => run_any ow a w hw.1 hw.2 a0 a1)
  go_enter Try.func64, Try.ntmps64
  go_wp2_with (go_at_call 106; (with_reducible refine (CB.out _).mono ?_); rintro e w1 ⟨rfl, rfl⟩)
  go_ret
  exact ⟨rfl, (Below.refl _ _).alloc (Nat.le_refl _) _⟩
set_option maxRecDepth 100000 in
set_option maxHeartbeats 2000000 in
theorem rval_6 (ow oa ob oc kn on a b c : Int) (w : World) (k0 : 0 ≤ kn) (k1 : kn < 4294967296) (a0 : 0 ≤ a) (a1 : a < 4294967296) (b0 : 0 ≤ b) (b1 : b < 4294967296) (c0 : 0 ≤ c) (c1 : c < 4294967296) :
    Calls Try.prog 64 #[.agg #[.int .i64 6, .int .i64 ow, .int .i64 oa, .int .i64 ob, .int .i64 oc, .int .u32 kn, .int .i64 on], .int .u32 a, .int .u32 b, .int .u32 c] w fun e w' => e = .returned (.int .u32 (valV 6 ow kn a b c)) ∧ Below w.heap.size w w' := by
  by_cases hx : a = 0
  · have e : valV 6 ow kn a b c = c := by show (if a = 0 then c else b) = _; rw [if_pos hx]
    rw [e]
    clear e
    have hb1 : (a != 0) = false := by simp [hx]
    go_enter Try.func64, Try.ntmps64
    go_wp2_with fail
    go_ret
    exact ⟨rfl, (Below.refl _ _).alloc (Nat.le_refl _) _⟩
  · have e : valV 6 ow kn a b c = b := by show (if a = 0 then c else b) = _; rw [if_neg hx]
    rw [e]
    clear e
    have hb1 : (a != 0) = true := by simp [hx]
    go_enter Try.func64, Try.ntmps64
    go_wp2_with fail
    go_ret
    exact ⟨rfl, (Below.refl _ _).alloc (Nat.le_refl _) _⟩
set_option maxRecDepth 100000 in
set_option maxHeartbeats 2000000 in
theorem rval_7 (ow oa ob oc kn on a b c : Int) (w : World) (k0 : 0 ≤ kn) (k1 : kn < 4294967296) (a0 : 0 ≤ a) (a1 : a < 4294967296) (b0 : 0 ≤ b) (b1 : b < 4294967296) (c0 : 0 ≤ c) (c1 : c < 4294967296) :
    Calls Try.prog 64 #[.agg #[.int .i64 7, .int .i64 ow, .int .i64 oa, .int .i64 ob, .int .i64 oc, .int .u32 kn, .int .i64 on], .int .u32 a, .int .u32 b, .int .u32 c] w fun e w' => e = .returned (.int .u32 (valV 7 ow kn a b c)) ∧ Below w.heap.size w w' := by
  have CB := Lib.hid (fun w => rflags_any ow a b c w a0 a1 b0 b1 c0 c1)
  go_enter Try.func64, Try.ntmps64
  go_wp2_with (go_at_call 84; (with_reducible refine (CB.out _).mono ?_); rintro e w1 ⟨rfl, rfl⟩)
  go_ret
  exact ⟨rfl, (Below.refl _ _).alloc (Nat.le_refl _) _⟩
set_option maxRecDepth 100000 in
set_option maxHeartbeats 2000000 in
theorem rval_8 (ow oa ob oc kn on a b c : Int) (w : World) (k0 : 0 ≤ kn) (k1 : kn < 4294967296) (a0 : 0 ≤ a) (a1 : a < 4294967296) (b0 : 0 ≤ b) (b1 : b < 4294967296) (c0 : 0 ≤ c) (c1 : c < 4294967296) (hw : -9223372036854775808 ≤ ow ∧ ow < 9223372036854775808) :
    Calls Try.prog 64 #[.agg #[.int .i64 8, .int .i64 ow, .int .i64 oa, .int .i64 ob, .int .i64 oc, .int .u32 kn, .int .i64 on], .int .u32 a, .int .u32 b, .int .u32 c] w fun e w' => e = .returned (.int .u32 (valV 8 ow kn a b c)) ∧ Below w.heap.size w w' := by
  have CB := Lib.hid (fun w => rholds_any ow a w a0 a1)
  have e : valV 8 ow kn a b c = (if Fl.hd ow a then 1 else 0) := rfl
  rw [e]
  clear e
  generalize Fl.hd ow a = t at CB
  have CT := Lib.hid (fun w => is3_any t w)
  generalize (if t = true then (1 : Int) else 0) = z at CT ⊢
  go_enter Try.func64, Try.ntmps64
  go_wp2_with (first | (go_at_call 83; (with_reducible refine (CB.out _).mono ?_); rintro e w1 ⟨rfl, hb⟩) | (go_at_call 109; (with_reducible refine (CT.out _).mono ?_); rintro e w2 ⟨rfl, rfl⟩))
  go_ret
  exact ⟨rfl, ((Below.refl _ _).alloc (Nat.le_refl _) _).trans (hb.mono (by simp))⟩
/-- which kinds hang on what they take alone; how W goes -/
theorem rval_any (k : Int) (ow oa ob oc kn on a b c : Int) (w : World) (k0 : 0 ≤ kn) (k1 : kn < 4294967296) (a0 : 0 ≤ a) (a1 : a < 4294967296) (b0 : 0 ≤ b) (b1 : b < 4294967296) (c0 : 0 ≤ c) (c1 : c < 4294967296) (hk : k = 1 ∨ (k = 4 ∧ 0 ≤ ow ∧ ow < 16) ∨ (k = 5 ∧ 0 ≤ ow ∧ ow < 7) ∨ k = 6 ∨ k = 7 ∨ (k = 8 ∧ 0 ≤ ow ∧ ow < 16)) :
    Calls Try.prog 64 #[.agg #[.int .i64 k, .int .i64 ow, .int .i64 oa, .int .i64 ob, .int .i64 oc, .int .u32 kn, .int .i64 on], .int .u32 a, .int .u32 b, .int .u32 c] w fun e w' => e = .returned (.int .u32 (valV k ow kn a b c)) ∧ Below w.heap.size w w' := by
  rcases hk with rfl | ⟨rfl, hw⟩ | ⟨rfl, hw⟩ | rfl | rfl | ⟨rfl, hw⟩
  · exact rval_1 ow oa ob oc kn on a b c w k0 k1 a0 a1 b0 b1 c0 c1
  · exact rval_4 ow oa ob oc kn on a b c w k0 k1 a0 a1 b0 b1 c0 c1 hw
  · exact rval_5 ow oa ob oc kn on a b c w k0 k1 a0 a1 b0 b1 c0 c1 hw
  · exact rval_6 ow oa ob oc kn on a b c w k0 k1 a0 a1 b0 b1 c0 c1
  · exact rval_7 ow oa ob oc kn on a b c w k0 k1 a0 a1 b0 b1 c0 c1
  · exact rval_8 ow oa ob oc kn on a b c w k0 k1 a0 a1 b0 b1 c0 c1 ⟨by omega, by omega⟩
end Go.Proofs.Ytcjcmnnhmajocab.Ev
