/- The reference's flags (crossgrainref2.Flags) are those of the numbers. -/
import Derived.Test.YtcjcmnnhmajocaaFlagsR
namespace Go.Proofs.Ytcjcmnnhmajocaa.Fl
open Go.RowKit
set_option linter.unusedVariables false
set_option linter.unusedSimpArgs false
theorem o4 (old : Int) : old % 16 / 4 % 2 = old / 4 % 2 := by omega

set_option maxRecDepth 100000 in
set_option maxHeartbeats 1000000 in
theorem rf1_any (a b old : Int) (w : World) (h0 : 0 ≤ a) (g0 : a < 4294967296) (h1 : 0 ≤ b) (g1 : b < 4294967296) (h2 : 0 ≤ old) (g2 : old < 4294967296) :
    Calls Try.prog 47 #[.int .i64 1, .int .u32 a, .int .u32 b, .int .u32 old] w fun e w' => e = .returned (.int .u32 (fl 1 a b old)) ∧ w = w' := by
  have hm : 0 ≤ a * b := Int.mul_nonneg h0 h1
  have hm' : a * b < 18446744065119617026 := by
    have h : a * b ≤ 4294967295 * 4294967295 := Int.mul_le_mul (by omega) (by omega) h1 (by omega)
    omega
  have sa : -2147483648 ≤ sg a ∧ sg a < 2147483648 := by unfold sg; split <;> omega
  have sb : -2147483648 ≤ sg b ∧ sg b < 2147483648 := by unfold sg; split <;> omega
  have sa1 := sa.1
  have sa2 := sa.2
  have sb1 := sb.1
  have sb2 := sb.2
  clear sa sb
  go_enter Try.func47, Try.ntmps47
  go_wp2_with (first
    | (go_at_call 93; refine (word_any _ _ (by omega) (by omega)).mono ?_; rintro e w' ⟨rfl, rfl⟩)
    | (go_at_call 104; refine (value_any _ _ (by omega) (by omega)).mono ?_; rintro e w' ⟨rfl, rfl⟩)
    | (go_at_call 105; refine (is_any _ _ _).mono ?_; rintro e w' ⟨rfl, rfl⟩)
    | (go_at_call 106; refine (past_any _ _).mono ?_; rintro e w' ⟨rfl, rfl⟩)
    | (go_at_call 96; refine (half_i _ _ _ (by omega) (by omega) (by omega) (by omega)).mono ?_; rintro e w' ⟨rfl, rfl⟩)
    | (go_at_call 95; refine (double_i _ _ _ (by omega) (by omega) (by omega) (by omega)).mono ?_; rintro e w' ⟨rfl, rfl⟩)
    | (go_at_call 98; refine (turned_i _ _ _ (by omega) (by omega) (by omega) (by omega)).mono ?_; rintro e w' ⟨rfl, rfl⟩)
    | (go_at_call 97; refine (signed_any _ _ (by omega) (by omega)).mono ?_; rintro e w' ⟨rfl, rfl⟩))
  go_ret
  exact ⟨ret_int (by show _ = fAdd a b 0; unfold fAdd; have hz := zn_lt ((a + b + 0) % 4294967296); simp only [Int.add_zero, isV, decide_eq_true_eq] at *; split <;> split <;> omega), rfl⟩

set_option maxRecDepth 100000 in
set_option maxHeartbeats 1000000 in
theorem rf2_any (a b old : Int) (w : World) (h0 : 0 ≤ a) (g0 : a < 4294967296) (h1 : 0 ≤ b) (g1 : b < 4294967296) (h2 : 0 ≤ old) (g2 : old < 4294967296) :
    Calls Try.prog 47 #[.int .i64 2, .int .u32 a, .int .u32 b, .int .u32 old] w fun e w' => e = .returned (.int .u32 (fl 2 a b old)) ∧ w = w' := by
  have hm : 0 ≤ a * b := Int.mul_nonneg h0 h1
  have hm' : a * b < 18446744065119617026 := by
    have h : a * b ≤ 4294967295 * 4294967295 := Int.mul_le_mul (by omega) (by omega) h1 (by omega)
    omega
  have sa : -2147483648 ≤ sg a ∧ sg a < 2147483648 := by unfold sg; split <;> omega
  have sb : -2147483648 ≤ sg b ∧ sg b < 2147483648 := by unfold sg; split <;> omega
  have sa1 := sa.1
  have sa2 := sa.2
  have sb1 := sb.1
  have sb2 := sb.2
  clear sa sb
  go_enter Try.func47, Try.ntmps47
  go_wp2_with (first
    | (go_at_call 93; refine (word_any _ _ (by omega) (by omega)).mono ?_; rintro e w' ⟨rfl, rfl⟩)
    | (go_at_call 104; refine (value_any _ _ (by omega) (by omega)).mono ?_; rintro e w' ⟨rfl, rfl⟩)
    | (go_at_call 105; refine (is_any _ _ _).mono ?_; rintro e w' ⟨rfl, rfl⟩)
    | (go_at_call 106; refine (past_any _ _).mono ?_; rintro e w' ⟨rfl, rfl⟩)
    | (go_at_call 96; refine (half_i _ _ _ (by omega) (by omega) (by omega) (by omega)).mono ?_; rintro e w' ⟨rfl, rfl⟩)
    | (go_at_call 95; refine (double_i _ _ _ (by omega) (by omega) (by omega) (by omega)).mono ?_; rintro e w' ⟨rfl, rfl⟩)
    | (go_at_call 98; refine (turned_i _ _ _ (by omega) (by omega) (by omega) (by omega)).mono ?_; rintro e w' ⟨rfl, rfl⟩)
    | (go_at_call 97; refine (signed_any _ _ (by omega) (by omega)).mono ?_; rintro e w' ⟨rfl, rfl⟩))
  go_ret
  exact ⟨ret_int (by rw [o4]; show _ = fAdd a b (old / 4 % 2); unfold fAdd; have hz := zn_lt ((a + b + old / 4 % 2) % 4294967296); simp only [isV, decide_eq_true_eq] at *; split <;> split <;> omega), rfl⟩

set_option maxRecDepth 100000 in
set_option maxHeartbeats 1000000 in
theorem rf3_any (a b old : Int) (w : World) (h0 : 0 ≤ a) (g0 : a < 4294967296) (h1 : 0 ≤ b) (g1 : b < 4294967296) (h2 : 0 ≤ old) (g2 : old < 4294967296) :
    Calls Try.prog 47 #[.int .i64 3, .int .u32 a, .int .u32 b, .int .u32 old] w fun e w' => e = .returned (.int .u32 (fl 3 a b old)) ∧ w = w' := by
  have hm : 0 ≤ a * b := Int.mul_nonneg h0 h1
  have hm' : a * b < 18446744065119617026 := by
    have h : a * b ≤ 4294967295 * 4294967295 := Int.mul_le_mul (by omega) (by omega) h1 (by omega)
    omega
  have sa : -2147483648 ≤ sg a ∧ sg a < 2147483648 := by unfold sg; split <;> omega
  have sb : -2147483648 ≤ sg b ∧ sg b < 2147483648 := by unfold sg; split <;> omega
  have sa1 := sa.1
  have sa2 := sa.2
  have sb1 := sb.1
  have sb2 := sb.2
  clear sa sb
  go_enter Try.func47, Try.ntmps47
  go_wp2_with (first
    | (go_at_call 93; refine (word_any _ _ (by omega) (by omega)).mono ?_; rintro e w' ⟨rfl, rfl⟩)
    | (go_at_call 104; refine (value_any _ _ (by omega) (by omega)).mono ?_; rintro e w' ⟨rfl, rfl⟩)
    | (go_at_call 105; refine (is_any _ _ _).mono ?_; rintro e w' ⟨rfl, rfl⟩)
    | (go_at_call 106; refine (past_any _ _).mono ?_; rintro e w' ⟨rfl, rfl⟩)
    | (go_at_call 96; refine (half_i _ _ _ (by omega) (by omega) (by omega) (by omega)).mono ?_; rintro e w' ⟨rfl, rfl⟩)
    | (go_at_call 95; refine (double_i _ _ _ (by omega) (by omega) (by omega) (by omega)).mono ?_; rintro e w' ⟨rfl, rfl⟩)
    | (go_at_call 98; refine (turned_i _ _ _ (by omega) (by omega) (by omega) (by omega)).mono ?_; rintro e w' ⟨rfl, rfl⟩)
    | (go_at_call 97; refine (signed_any _ _ (by omega) (by omega)).mono ?_; rintro e w' ⟨rfl, rfl⟩))
  go_ret
  exact ⟨ret_int (by show _ = fSub a b 0; unfold fSub; have hz := zn_lt ((a - b - 0) % 4294967296); simp only [Int.sub_zero, Int.add_zero, isV, decide_eq_true_eq] at *; split <;> split <;> omega), rfl⟩

set_option maxRecDepth 100000 in
set_option maxHeartbeats 1000000 in
theorem rf4_any (a b old : Int) (w : World) (h0 : 0 ≤ a) (g0 : a < 4294967296) (h1 : 0 ≤ b) (g1 : b < 4294967296) (h2 : 0 ≤ old) (g2 : old < 4294967296) :
    Calls Try.prog 47 #[.int .i64 4, .int .u32 a, .int .u32 b, .int .u32 old] w fun e w' => e = .returned (.int .u32 (fl 4 a b old)) ∧ w = w' := by
  have hm : 0 ≤ a * b := Int.mul_nonneg h0 h1
  have hm' : a * b < 18446744065119617026 := by
    have h : a * b ≤ 4294967295 * 4294967295 := Int.mul_le_mul (by omega) (by omega) h1 (by omega)
    omega
  have sa : -2147483648 ≤ sg a ∧ sg a < 2147483648 := by unfold sg; split <;> omega
  have sb : -2147483648 ≤ sg b ∧ sg b < 2147483648 := by unfold sg; split <;> omega
  have sa1 := sa.1
  have sa2 := sa.2
  have sb1 := sb.1
  have sb2 := sb.2
  clear sa sb
  go_enter Try.func47, Try.ntmps47
  go_wp2_with (first
    | (go_at_call 93; refine (word_any _ _ (by omega) (by omega)).mono ?_; rintro e w' ⟨rfl, rfl⟩)
    | (go_at_call 104; refine (value_any _ _ (by omega) (by omega)).mono ?_; rintro e w' ⟨rfl, rfl⟩)
    | (go_at_call 105; refine (is_any _ _ _).mono ?_; rintro e w' ⟨rfl, rfl⟩)
    | (go_at_call 106; refine (past_any _ _).mono ?_; rintro e w' ⟨rfl, rfl⟩)
    | (go_at_call 96; refine (half_i _ _ _ (by omega) (by omega) (by omega) (by omega)).mono ?_; rintro e w' ⟨rfl, rfl⟩)
    | (go_at_call 95; refine (double_i _ _ _ (by omega) (by omega) (by omega) (by omega)).mono ?_; rintro e w' ⟨rfl, rfl⟩)
    | (go_at_call 98; refine (turned_i _ _ _ (by omega) (by omega) (by omega) (by omega)).mono ?_; rintro e w' ⟨rfl, rfl⟩)
    | (go_at_call 97; refine (signed_any _ _ (by omega) (by omega)).mono ?_; rintro e w' ⟨rfl, rfl⟩))
  go_ret
  exact ⟨ret_int (by rw [o4]; show _ = fSub a b (old / 4 % 2); unfold fSub; have hz := zn_lt ((a - b - old / 4 % 2) % 4294967296); simp only [isV, decide_eq_true_eq] at *; split <;> split <;> omega), rfl⟩

set_option maxRecDepth 100000 in
set_option maxHeartbeats 1000000 in
theorem rf5_any (a b old : Int) (w : World) (h0 : 0 ≤ a) (g0 : a < 4294967296) (h1 : 0 ≤ b) (g1 : b < 4294967296) (h2 : 0 ≤ old) (g2 : old < 4294967296) :
    Calls Try.prog 47 #[.int .i64 5, .int .u32 a, .int .u32 b, .int .u32 old] w fun e w' => e = .returned (.int .u32 (fl 5 a b old)) ∧ w = w' := by
  have hm : 0 ≤ a * b := Int.mul_nonneg h0 h1
  have hm' : a * b < 18446744065119617026 := by
    have h : a * b ≤ 4294967295 * 4294967295 := Int.mul_le_mul (by omega) (by omega) h1 (by omega)
    omega
  have sa : -2147483648 ≤ sg a ∧ sg a < 2147483648 := by unfold sg; split <;> omega
  have sb : -2147483648 ≤ sg b ∧ sg b < 2147483648 := by unfold sg; split <;> omega
  have sa1 := sa.1
  have sa2 := sa.2
  have sb1 := sb.1
  have sb2 := sb.2
  clear sa sb
  go_enter Try.func47, Try.ntmps47
  go_wp2_with (first
    | (go_at_call 93; refine (word_any _ _ (by omega) (by omega)).mono ?_; rintro e w' ⟨rfl, rfl⟩)
    | (go_at_call 104; refine (value_any _ _ (by omega) (by omega)).mono ?_; rintro e w' ⟨rfl, rfl⟩)
    | (go_at_call 105; refine (is_any _ _ _).mono ?_; rintro e w' ⟨rfl, rfl⟩)
    | (go_at_call 106; refine (past_any _ _).mono ?_; rintro e w' ⟨rfl, rfl⟩)
    | (go_at_call 96; refine (half_i _ _ _ (by omega) (by omega) (by omega) (by omega)).mono ?_; rintro e w' ⟨rfl, rfl⟩)
    | (go_at_call 95; refine (double_i _ _ _ (by omega) (by omega) (by omega) (by omega)).mono ?_; rintro e w' ⟨rfl, rfl⟩)
    | (go_at_call 98; refine (turned_i _ _ _ (by omega) (by omega) (by omega) (by omega)).mono ?_; rintro e w' ⟨rfl, rfl⟩)
    | (go_at_call 97; refine (signed_any _ _ (by omega) (by omega)).mono ?_; rintro e w' ⟨rfl, rfl⟩))
  go_ret
  exact ⟨ret_int (by rfl), rfl⟩

set_option maxRecDepth 100000 in
set_option maxHeartbeats 1000000 in
theorem rf10_any (a b old : Int) (w : World) (h0 : 0 ≤ a) (g0 : a < 4294967296) (h1 : 0 ≤ b) (g1 : b < 4294967296) (h2 : 0 ≤ old) (g2 : old < 4294967296) :
    Calls Try.prog 47 #[.int .i64 10, .int .u32 a, .int .u32 b, .int .u32 old] w fun e w' => e = .returned (.int .u32 (fl 10 a b old)) ∧ w = w' := by
  have hm : 0 ≤ a * b := Int.mul_nonneg h0 h1
  have hm' : a * b < 18446744065119617026 := by
    have h : a * b ≤ 4294967295 * 4294967295 := Int.mul_le_mul (by omega) (by omega) h1 (by omega)
    omega
  have sa : -2147483648 ≤ sg a ∧ sg a < 2147483648 := by unfold sg; split <;> omega
  have sb : -2147483648 ≤ sg b ∧ sg b < 2147483648 := by unfold sg; split <;> omega
  have sa1 := sa.1
  have sa2 := sa.2
  have sb1 := sb.1
  have sb2 := sb.2
  clear sa sb
  go_enter Try.func47, Try.ntmps47
  go_wp2_with (first
    | (go_at_call 93; refine (word_any _ _ (by omega) (by omega)).mono ?_; rintro e w' ⟨rfl, rfl⟩)
    | (go_at_call 104; refine (value_any _ _ (by omega) (by omega)).mono ?_; rintro e w' ⟨rfl, rfl⟩)
    | (go_at_call 105; refine (is_any _ _ _).mono ?_; rintro e w' ⟨rfl, rfl⟩)
    | (go_at_call 106; refine (past_any _ _).mono ?_; rintro e w' ⟨rfl, rfl⟩)
    | (go_at_call 96; refine (half_i _ _ _ (by omega) (by omega) (by omega) (by omega)).mono ?_; rintro e w' ⟨rfl, rfl⟩)
    | (go_at_call 95; refine (double_i _ _ _ (by omega) (by omega) (by omega) (by omega)).mono ?_; rintro e w' ⟨rfl, rfl⟩)
    | (go_at_call 98; refine (turned_i _ _ _ (by omega) (by omega) (by omega) (by omega)).mono ?_; rintro e w' ⟨rfl, rfl⟩)
    | (go_at_call 97; refine (signed_any _ _ (by omega) (by omega)).mono ?_; rintro e w' ⟨rfl, rfl⟩))
  go_ret
  exact ⟨ret_int (by show _ = zn (a * b % 4294967296) + (if 4294967296 ≤ a * b then 12 else 0); have hz := zn_lt (a * b % 4294967296); simp only [isV, decide_eq_true_eq] at *; split <;> omega), rfl⟩

set_option maxRecDepth 100000 in
set_option maxHeartbeats 1000000 in
theorem rf11_any (a b old : Int) (w : World) (h0 : 0 ≤ a) (g0 : a < 4294967296) (h1 : 0 ≤ b) (g1 : b < 4294967296) (h2 : 0 ≤ old) (g2 : old < 4294967296) :
    Calls Try.prog 47 #[.int .i64 11, .int .u32 a, .int .u32 b, .int .u32 old] w fun e w' => e = .returned (.int .u32 (fl 11 a b old)) ∧ w = w' := by
  have hm : 0 ≤ a * b := Int.mul_nonneg h0 h1
  have hm' : a * b < 18446744065119617026 := by
    have h : a * b ≤ 4294967295 * 4294967295 := Int.mul_le_mul (by omega) (by omega) h1 (by omega)
    omega
  have sa : -2147483648 ≤ sg a ∧ sg a < 2147483648 := by unfold sg; split <;> omega
  have sb : -2147483648 ≤ sg b ∧ sg b < 2147483648 := by unfold sg; split <;> omega
  have sa1 := sa.1
  have sa2 := sa.2
  have sb1 := sb.1
  have sb2 := sb.2
  clear sa sb
  go_enter Try.func47, Try.ntmps47
  go_wp2_with (first
    | (go_at_call 93; refine (word_any _ _ (by omega) (by omega)).mono ?_; rintro e w' ⟨rfl, rfl⟩)
    | (go_at_call 104; refine (value_any _ _ (by omega) (by omega)).mono ?_; rintro e w' ⟨rfl, rfl⟩)
    | (go_at_call 105; refine (is_any _ _ _).mono ?_; rintro e w' ⟨rfl, rfl⟩)
    | (go_at_call 106; refine (past_any _ _).mono ?_; rintro e w' ⟨rfl, rfl⟩)
    | (go_at_call 96; refine (half_i _ _ _ (by omega) (by omega) (by omega) (by omega)).mono ?_; rintro e w' ⟨rfl, rfl⟩)
    | (go_at_call 95; refine (double_i _ _ _ (by omega) (by omega) (by omega) (by omega)).mono ?_; rintro e w' ⟨rfl, rfl⟩)
    | (go_at_call 98; refine (turned_i _ _ _ (by omega) (by omega) (by omega) (by omega)).mono ?_; rintro e w' ⟨rfl, rfl⟩)
    | (go_at_call 97; refine (signed_any _ _ (by omega) (by omega)).mono ?_; rintro e w' ⟨rfl, rfl⟩))
  go_ret
  exact ⟨ret_int (by rw [o4]; show _ = zn ((a + 1) % 4294967296) + old / 4 % 2 * 4 + (if past (sg a + 1) then 8 else 0); have hz := zn_lt ((a + 1) % 4294967296); simp only [isV] at *; split <;> omega), rfl⟩

set_option maxRecDepth 100000 in
set_option maxHeartbeats 1000000 in
theorem rf12_any (a b old : Int) (w : World) (h0 : 0 ≤ a) (g0 : a < 4294967296) (h1 : 0 ≤ b) (g1 : b < 4294967296) (h2 : 0 ≤ old) (g2 : old < 4294967296) :
    Calls Try.prog 47 #[.int .i64 12, .int .u32 a, .int .u32 b, .int .u32 old] w fun e w' => e = .returned (.int .u32 (fl 12 a b old)) ∧ w = w' := by
  have hm : 0 ≤ a * b := Int.mul_nonneg h0 h1
  have hm' : a * b < 18446744065119617026 := by
    have h : a * b ≤ 4294967295 * 4294967295 := Int.mul_le_mul (by omega) (by omega) h1 (by omega)
    omega
  have sa : -2147483648 ≤ sg a ∧ sg a < 2147483648 := by unfold sg; split <;> omega
  have sb : -2147483648 ≤ sg b ∧ sg b < 2147483648 := by unfold sg; split <;> omega
  have sa1 := sa.1
  have sa2 := sa.2
  have sb1 := sb.1
  have sb2 := sb.2
  clear sa sb
  go_enter Try.func47, Try.ntmps47
  go_wp2_with (first
    | (go_at_call 93; refine (word_any _ _ (by omega) (by omega)).mono ?_; rintro e w' ⟨rfl, rfl⟩)
    | (go_at_call 104; refine (value_any _ _ (by omega) (by omega)).mono ?_; rintro e w' ⟨rfl, rfl⟩)
    | (go_at_call 105; refine (is_any _ _ _).mono ?_; rintro e w' ⟨rfl, rfl⟩)
    | (go_at_call 106; refine (past_any _ _).mono ?_; rintro e w' ⟨rfl, rfl⟩)
    | (go_at_call 96; refine (half_i _ _ _ (by omega) (by omega) (by omega) (by omega)).mono ?_; rintro e w' ⟨rfl, rfl⟩)
    | (go_at_call 95; refine (double_i _ _ _ (by omega) (by omega) (by omega) (by omega)).mono ?_; rintro e w' ⟨rfl, rfl⟩)
    | (go_at_call 98; refine (turned_i _ _ _ (by omega) (by omega) (by omega) (by omega)).mono ?_; rintro e w' ⟨rfl, rfl⟩)
    | (go_at_call 97; refine (signed_any _ _ (by omega) (by omega)).mono ?_; rintro e w' ⟨rfl, rfl⟩))
  go_ret
  exact ⟨ret_int (by rw [o4]; show _ = zn ((a - 1) % 4294967296) + old / 4 % 2 * 4 + (if past (sg a - 1) then 8 else 0); have hz := zn_lt ((a - 1) % 4294967296); simp only [isV] at *; split <;> omega), rfl⟩
end Go.Proofs.Ytcjcmnnhmajocaa.Fl
