/- The program's flags (interp.Flags) are those of the numbers: contracts of Mul32, RotateLeft32, Flags. -/
import Derived.Test.YtcjcmnnhmajocaaFlagsA
namespace Go.Proofs.Ytcjcmnnhmajocaa.Fl
open Go.RowKit
set_option linter.unusedVariables false

set_option maxHeartbeats 1000000 in
theorem mul32_any (a b : Int) (w : World) (h0 : 0 ≤ a) (g0 : a < 4294967296) (h1 : 0 ≤ b) (g1 : b < 4294967296) :
    Calls Try.prog 102 #[.int .u32 a, .int .u32 b] w fun e w' => e = .returned (.tuple #[.int .u32 (a * b / 4294967296), .int .u32 (a * b % 4294967296)]) ∧ w = w' := by
  have hm : 0 ≤ a * b := Int.mul_nonneg h0 h1
  have hm' : a * b < 18446744065119617026 := by
    have h : a * b ≤ 4294967295 * 4294967295 := Int.mul_le_mul (by omega) (by omega) h1 (by omega)
    omega
  have hw : IntKind.u64.wrap (a * b) = a * b := by rw [IntKind.wrap_u64]; omega
  go_enter Try.func102, Try.ntmps102
  go_wp2
  go_ret2
  exact ⟨ret_int2 rfl rfl, rfl⟩

theorem and31_u64 (b : Int) (h0 : 0 ≤ b) (h1 : b < 32) : bits .and .u64 b 31 = b := by
  have h : bits .and .u64 b 31 = b % 32 := bits_mask .u64 64 (by decide) (fun n h₀ h₁ => by rw [IntKind.wrap_u64]; omega) 5 (by decide) b h0 (by omega)
  rw [h]; omega
theorem wrap32_sg (a : Int) (h0 : 0 ≤ a) (g0 : a < 4294967296) : wrap32 a = sg a := by
  unfold wrap32 sg
  have := IntKind.wrap_i32 a
  first | (rw [this]; split <;> omega) | (split <;> omega)
set_option maxHeartbeats 1000000 in
theorem rol_any (a b : Int) (w : World) (h0 : 0 ≤ a) (g0 : a < 4294967296) (h1 : 0 ≤ b) (g1 : b < 32) :
    Calls Try.prog 91 #[.int .u32 a, .int .i64 b] w fun e w' => e = .returned (.int .u32 (rol a b.toNat)) ∧ w = w' := by
  have e1 := and31_u64 b h1 g1
  have H := Lib.hid (rol_or a b.toNat (by omega) h0 g0)
  go_enter Try.func91, Try.ntmps91
  go_wp2
  go_ret
  exact ⟨ret_int (by rw [← H.out, show 32 - b.toNat = (32 - b).toNat by omega]), rfl⟩

set_option maxHeartbeats 1000000 in
theorem fl1_any (a b old : Int) (w : World) (h0 : 0 ≤ a) (g0 : a < 4294967296) (h1 : 0 ≤ b) (g1 : b < 4294967296) (h2 : 0 ≤ old) (g2 : old < 4294967296) :
    Calls Try.prog 46 #[.int .i64 1, .int .u32 a, .int .u32 b, .int .u32 old] w fun e w' => e = .returned (.int .u32 (fl 1 a b old)) ∧ w = w' := by
  have e1 := mask15 old h2 g2
  have e2 := mask4 old
  have e3 := mask31 b h1 g1
  skip
  go_enter Try.func46, Try.ntmps46
  go_wp2_with (first
    | (go_at_call 99; refine (sum_any _ _ _ _ (by omega) (by omega) (by omega) (by omega) (by omega) (by omega)).mono ?_; rintro e w' ⟨rfl, rfl⟩)
    | (go_at_call 100; refine (rest_any _ _ _ _ (by omega) (by omega) (by omega) (by omega) (by omega) (by omega)).mono ?_; rintro e w' ⟨rfl, rfl⟩)
    | (go_at_call 101; refine (zn_any _ _ (by omega) (by omega)).mono ?_; rintro e w' ⟨rfl, rfl⟩)
    | (go_at_call 102; refine (mul32_any _ _ _ (by omega) (by omega) (by omega) (by omega)).mono ?_; rintro e w' ⟨rfl, rfl⟩)
    | (go_at_call 91; refine (rol_any _ _ _ (by omega) (by omega) (by omega) (by omega)).mono ?_; rintro e w' ⟨rfl, rfl⟩)
    | (go_at_call 103; refine (when_any _ _ _).mono ?_; rintro e w' ⟨rfl, rfl⟩))
  go_ret
  exact ⟨ret_int (rfl), rfl⟩

set_option maxHeartbeats 1000000 in
theorem fl2_any (a b old : Int) (w : World) (h0 : 0 ≤ a) (g0 : a < 4294967296) (h1 : 0 ≤ b) (g1 : b < 4294967296) (h2 : 0 ≤ old) (g2 : old < 4294967296) :
    Calls Try.prog 46 #[.int .i64 2, .int .u32 a, .int .u32 b, .int .u32 old] w fun e w' => e = .returned (.int .u32 (fl 2 a b old)) ∧ w = w' := by
  have e1 := mask15 old h2 g2
  have e2 := mask4 old
  have e3 := mask31 b h1 g1
  skip
  go_enter Try.func46, Try.ntmps46
  go_wp2_with (first
    | (go_at_call 99; refine (sum_any _ _ _ _ (by omega) (by omega) (by omega) (by omega) (by omega) (by omega)).mono ?_; rintro e w' ⟨rfl, rfl⟩)
    | (go_at_call 100; refine (rest_any _ _ _ _ (by omega) (by omega) (by omega) (by omega) (by omega) (by omega)).mono ?_; rintro e w' ⟨rfl, rfl⟩)
    | (go_at_call 101; refine (zn_any _ _ (by omega) (by omega)).mono ?_; rintro e w' ⟨rfl, rfl⟩)
    | (go_at_call 102; refine (mul32_any _ _ _ (by omega) (by omega) (by omega) (by omega)).mono ?_; rintro e w' ⟨rfl, rfl⟩)
    | (go_at_call 91; refine (rol_any _ _ _ (by omega) (by omega) (by omega) (by omega)).mono ?_; rintro e w' ⟨rfl, rfl⟩)
    | (go_at_call 103; refine (when_any _ _ _).mono ?_; rintro e w' ⟨rfl, rfl⟩))
  go_ret
  exact ⟨ret_int (rfl), rfl⟩

set_option maxHeartbeats 1000000 in
theorem fl3_any (a b old : Int) (w : World) (h0 : 0 ≤ a) (g0 : a < 4294967296) (h1 : 0 ≤ b) (g1 : b < 4294967296) (h2 : 0 ≤ old) (g2 : old < 4294967296) :
    Calls Try.prog 46 #[.int .i64 3, .int .u32 a, .int .u32 b, .int .u32 old] w fun e w' => e = .returned (.int .u32 (fl 3 a b old)) ∧ w = w' := by
  have e1 := mask15 old h2 g2
  have e2 := mask4 old
  have e3 := mask31 b h1 g1
  skip
  go_enter Try.func46, Try.ntmps46
  go_wp2_with (first
    | (go_at_call 99; refine (sum_any _ _ _ _ (by omega) (by omega) (by omega) (by omega) (by omega) (by omega)).mono ?_; rintro e w' ⟨rfl, rfl⟩)
    | (go_at_call 100; refine (rest_any _ _ _ _ (by omega) (by omega) (by omega) (by omega) (by omega) (by omega)).mono ?_; rintro e w' ⟨rfl, rfl⟩)
    | (go_at_call 101; refine (zn_any _ _ (by omega) (by omega)).mono ?_; rintro e w' ⟨rfl, rfl⟩)
    | (go_at_call 102; refine (mul32_any _ _ _ (by omega) (by omega) (by omega) (by omega)).mono ?_; rintro e w' ⟨rfl, rfl⟩)
    | (go_at_call 91; refine (rol_any _ _ _ (by omega) (by omega) (by omega) (by omega)).mono ?_; rintro e w' ⟨rfl, rfl⟩)
    | (go_at_call 103; refine (when_any _ _ _).mono ?_; rintro e w' ⟨rfl, rfl⟩))
  go_ret
  exact ⟨ret_int (rfl), rfl⟩

set_option maxHeartbeats 1000000 in
theorem fl4_any (a b old : Int) (w : World) (h0 : 0 ≤ a) (g0 : a < 4294967296) (h1 : 0 ≤ b) (g1 : b < 4294967296) (h2 : 0 ≤ old) (g2 : old < 4294967296) :
    Calls Try.prog 46 #[.int .i64 4, .int .u32 a, .int .u32 b, .int .u32 old] w fun e w' => e = .returned (.int .u32 (fl 4 a b old)) ∧ w = w' := by
  have e1 := mask15 old h2 g2
  have e2 := mask4 old
  have e3 := mask31 b h1 g1
  skip
  go_enter Try.func46, Try.ntmps46
  go_wp2_with (first
    | (go_at_call 99; refine (sum_any _ _ _ _ (by omega) (by omega) (by omega) (by omega) (by omega) (by omega)).mono ?_; rintro e w' ⟨rfl, rfl⟩)
    | (go_at_call 100; refine (rest_any _ _ _ _ (by omega) (by omega) (by omega) (by omega) (by omega) (by omega)).mono ?_; rintro e w' ⟨rfl, rfl⟩)
    | (go_at_call 101; refine (zn_any _ _ (by omega) (by omega)).mono ?_; rintro e w' ⟨rfl, rfl⟩)
    | (go_at_call 102; refine (mul32_any _ _ _ (by omega) (by omega) (by omega) (by omega)).mono ?_; rintro e w' ⟨rfl, rfl⟩)
    | (go_at_call 91; refine (rol_any _ _ _ (by omega) (by omega) (by omega) (by omega)).mono ?_; rintro e w' ⟨rfl, rfl⟩)
    | (go_at_call 103; refine (when_any _ _ _).mono ?_; rintro e w' ⟨rfl, rfl⟩))
  go_ret
  exact ⟨ret_int (rfl), rfl⟩

set_option maxHeartbeats 1000000 in
theorem fl5_any (a b old : Int) (w : World) (h0 : 0 ≤ a) (g0 : a < 4294967296) (h1 : 0 ≤ b) (g1 : b < 4294967296) (h2 : 0 ≤ old) (g2 : old < 4294967296) :
    Calls Try.prog 46 #[.int .i64 5, .int .u32 a, .int .u32 b, .int .u32 old] w fun e w' => e = .returned (.int .u32 (fl 5 a b old)) ∧ w = w' := by
  have e1 := mask15 old h2 g2
  have e2 := mask4 old
  have e3 := mask31 b h1 g1
  skip
  go_enter Try.func46, Try.ntmps46
  go_wp2_with (first
    | (go_at_call 99; refine (sum_any _ _ _ _ (by omega) (by omega) (by omega) (by omega) (by omega) (by omega)).mono ?_; rintro e w' ⟨rfl, rfl⟩)
    | (go_at_call 100; refine (rest_any _ _ _ _ (by omega) (by omega) (by omega) (by omega) (by omega) (by omega)).mono ?_; rintro e w' ⟨rfl, rfl⟩)
    | (go_at_call 101; refine (zn_any _ _ (by omega) (by omega)).mono ?_; rintro e w' ⟨rfl, rfl⟩)
    | (go_at_call 102; refine (mul32_any _ _ _ (by omega) (by omega) (by omega) (by omega)).mono ?_; rintro e w' ⟨rfl, rfl⟩)
    | (go_at_call 91; refine (rol_any _ _ _ (by omega) (by omega) (by omega) (by omega)).mono ?_; rintro e w' ⟨rfl, rfl⟩)
    | (go_at_call 103; refine (when_any _ _ _).mono ?_; rintro e w' ⟨rfl, rfl⟩))
  go_ret
  exact ⟨ret_int (rfl), rfl⟩

set_option maxHeartbeats 1000000 in
theorem fl6_any (a b old : Int) (w : World) (h0 : 0 ≤ a) (g0 : a < 4294967296) (h1 : 0 ≤ b) (g1 : b < 4294967296) (h2 : 0 ≤ old) (g2 : old < 4294967296) (hn : 1 ≤ b % 32) (hn2 : b % 32 < 32) :
    Calls Try.prog 46 #[.int .i64 6, .int .u32 a, .int .u32 b, .int .u32 old] w fun e w' => e = .returned (.int .u32 (fl 6 a b old)) ∧ w = w' := by
  have e1 := mask15 old h2 g2
  have e2 := mask4 old
  have e3 := mask31 b h1 g1
  have d1 := div_pow_le a (b % 32).toNat h0
  have d2 := div_pow_le a ((b % 32).toNat - 1) h0
  have d3 := div_pow_le a (32 - b % 32).toNat h0
  have H := Lib.hid (fl6 a b old h0 g0 hn)
  go_enter Try.func46, Try.ntmps46
  go_wp2_with (first
    | (go_at_call 99; refine (sum_any _ _ _ _ (by omega) (by omega) (by omega) (by omega) (by omega) (by omega)).mono ?_; rintro e w' ⟨rfl, rfl⟩)
    | (go_at_call 100; refine (rest_any _ _ _ _ (by omega) (by omega) (by omega) (by omega) (by omega) (by omega)).mono ?_; rintro e w' ⟨rfl, rfl⟩)
    | (go_at_call 101; refine (zn_any _ _ (by omega) (by omega)).mono ?_; rintro e w' ⟨rfl, rfl⟩)
    | (go_at_call 102; refine (mul32_any _ _ _ (by omega) (by omega) (by omega) (by omega)).mono ?_; rintro e w' ⟨rfl, rfl⟩)
    | (go_at_call 91; refine (rol_any _ _ _ (by omega) (by omega) (by omega) (by omega)).mono ?_; rintro e w' ⟨rfl, rfl⟩)
    | (go_at_call 103; refine (when_any _ _ _).mono ?_; rintro e w' ⟨rfl, rfl⟩))
  go_ret
  exact ⟨ret_int (H.out), rfl⟩

set_option maxHeartbeats 1000000 in
theorem fl7_any (a b old : Int) (w : World) (h0 : 0 ≤ a) (g0 : a < 4294967296) (h1 : 0 ≤ b) (g1 : b < 4294967296) (h2 : 0 ≤ old) (g2 : old < 4294967296) (hn : 1 ≤ b % 32) (hn2 : b % 32 < 32) :
    Calls Try.prog 46 #[.int .i64 7, .int .u32 a, .int .u32 b, .int .u32 old] w fun e w' => e = .returned (.int .u32 (fl 7 a b old)) ∧ w = w' := by
  have e1 := mask15 old h2 g2
  have e2 := mask4 old
  have e3 := mask31 b h1 g1
  have d1 := div_pow_le a (b % 32).toNat h0
  have d2 := div_pow_le a ((b % 32).toNat - 1) h0
  have d3 := div_pow_le a (32 - b % 32).toNat h0
  have H := Lib.hid (fl7 a b old h0 g0 hn)
  go_enter Try.func46, Try.ntmps46
  go_wp2_with (first
    | (go_at_call 99; refine (sum_any _ _ _ _ (by omega) (by omega) (by omega) (by omega) (by omega) (by omega)).mono ?_; rintro e w' ⟨rfl, rfl⟩)
    | (go_at_call 100; refine (rest_any _ _ _ _ (by omega) (by omega) (by omega) (by omega) (by omega) (by omega)).mono ?_; rintro e w' ⟨rfl, rfl⟩)
    | (go_at_call 101; refine (zn_any _ _ (by omega) (by omega)).mono ?_; rintro e w' ⟨rfl, rfl⟩)
    | (go_at_call 102; refine (mul32_any _ _ _ (by omega) (by omega) (by omega) (by omega)).mono ?_; rintro e w' ⟨rfl, rfl⟩)
    | (go_at_call 91; refine (rol_any _ _ _ (by omega) (by omega) (by omega) (by omega)).mono ?_; rintro e w' ⟨rfl, rfl⟩)
    | (go_at_call 103; refine (when_any _ _ _).mono ?_; rintro e w' ⟨rfl, rfl⟩))
  go_ret
  exact ⟨ret_int (H.out), rfl⟩

set_option maxHeartbeats 1000000 in
theorem fl8_any (a b old : Int) (w : World) (h0 : 0 ≤ a) (g0 : a < 4294967296) (h1 : 0 ≤ b) (g1 : b < 4294967296) (h2 : 0 ≤ old) (g2 : old < 4294967296) (hn : 1 ≤ b % 32) (hn2 : b % 32 < 32) :
    Calls Try.prog 46 #[.int .i64 8, .int .u32 a, .int .u32 b, .int .u32 old] w fun e w' => e = .returned (.int .u32 (fl 8 a b old)) ∧ w = w' := by
  have e1 := mask15 old h2 g2
  have e2 := mask4 old
  have e3 := mask31 b h1 g1
  have d1 := div_pow_le a (b % 32).toNat h0
  have d2 := div_pow_le a ((b % 32).toNat - 1) h0
  have d3 := div_pow_le a (32 - b % 32).toNat h0
  have H := Lib.hid (fl8 a b old h0 g0 hn)
  go_enter Try.func46, Try.ntmps46
  go_wp2_with (first
    | (go_at_call 99; refine (sum_any _ _ _ _ (by omega) (by omega) (by omega) (by omega) (by omega) (by omega)).mono ?_; rintro e w' ⟨rfl, rfl⟩)
    | (go_at_call 100; refine (rest_any _ _ _ _ (by omega) (by omega) (by omega) (by omega) (by omega) (by omega)).mono ?_; rintro e w' ⟨rfl, rfl⟩)
    | (go_at_call 101; refine (zn_any _ _ (by omega) (by omega)).mono ?_; rintro e w' ⟨rfl, rfl⟩)
    | (go_at_call 102; refine (mul32_any _ _ _ (by omega) (by omega) (by omega) (by omega)).mono ?_; rintro e w' ⟨rfl, rfl⟩)
    | (go_at_call 91; refine (rol_any _ _ _ (by omega) (by omega) (by omega) (by omega)).mono ?_; rintro e w' ⟨rfl, rfl⟩)
    | (go_at_call 103; refine (when_any _ _ _).mono ?_; rintro e w' ⟨rfl, rfl⟩))
  go_ret
  exact ⟨ret_int (by rw [← H.out, wrap32_sg a h0 g0]), rfl⟩

set_option maxHeartbeats 1000000 in
theorem fl9_any (a b old : Int) (w : World) (h0 : 0 ≤ a) (g0 : a < 4294967296) (h1 : 0 ≤ b) (g1 : b < 4294967296) (h2 : 0 ≤ old) (g2 : old < 4294967296) (hn : 1 ≤ b % 32) (hn2 : b % 32 < 32) :
    Calls Try.prog 46 #[.int .i64 9, .int .u32 a, .int .u32 b, .int .u32 old] w fun e w' => e = .returned (.int .u32 (fl 9 a b old)) ∧ w = w' := by
  have e1 := mask15 old h2 g2
  have e2 := mask4 old
  have e3 := mask31 b h1 g1
  have d1 := div_pow_le a (b % 32).toNat h0
  have d2 := div_pow_le a ((b % 32).toNat - 1) h0
  have d3 := div_pow_le a (32 - b % 32).toNat h0
  have H := Lib.hid (fl9 a b old h0 g0 hn)
  have d4 := rol_lt a (b % 32).toNat (by omega) h0 g0
  go_enter Try.func46, Try.ntmps46
  go_wp2_with (first
    | (go_at_call 99; refine (sum_any _ _ _ _ (by omega) (by omega) (by omega) (by omega) (by omega) (by omega)).mono ?_; rintro e w' ⟨rfl, rfl⟩)
    | (go_at_call 100; refine (rest_any _ _ _ _ (by omega) (by omega) (by omega) (by omega) (by omega) (by omega)).mono ?_; rintro e w' ⟨rfl, rfl⟩)
    | (go_at_call 101; refine (zn_any _ _ (by omega) (by omega)).mono ?_; rintro e w' ⟨rfl, rfl⟩)
    | (go_at_call 102; refine (mul32_any _ _ _ (by omega) (by omega) (by omega) (by omega)).mono ?_; rintro e w' ⟨rfl, rfl⟩)
    | (go_at_call 91; refine (rol_any _ _ _ (by omega) (by omega) (by omega) (by omega)).mono ?_; rintro e w' ⟨rfl, rfl⟩)
    | (go_at_call 103; refine (when_any _ _ _).mono ?_; rintro e w' ⟨rfl, rfl⟩))
  go_ret
  exact ⟨ret_int (H.out), rfl⟩

set_option maxHeartbeats 1000000 in
theorem fl69_any (k : Int) (hk : 6 ≤ k) (hk' : k ≤ 9) (a b old : Int) (w : World) (h0 : 0 ≤ a) (g0 : a < 4294967296) (h1 : 0 ≤ b) (g1 : b < 4294967296) (h2 : 0 ≤ old) (g2 : old < 4294967296) (hn : b % 32 = 0) :
    Calls Try.prog 46 #[.int .i64 k, .int .u32 a, .int .u32 b, .int .u32 old] w fun e w' => e = .returned (.int .u32 (fl k a b old)) ∧ w = w' := by
  have e1 := mask15 old h2 g2
  have e3 := mask31 b h1 g1
  rw [hn] at e3
  have H := Lib.hid (fl_0 k a b old hk hk' hn)
  clear hn
  go_enter Try.func46, Try.ntmps46
  go_wp2_with fail
  go_ret
  exact ⟨ret_int H.out.symm, rfl⟩

set_option maxHeartbeats 1000000 in
theorem fl11_any (a b old : Int) (w : World) (h0 : 0 ≤ a) (g0 : a < 4294967296) (h1 : 0 ≤ b) (g1 : b < 4294967296) (h2 : 0 ≤ old) (g2 : old < 4294967296) :
    Calls Try.prog 46 #[.int .i64 11, .int .u32 a, .int .u32 b, .int .u32 old] w fun e w' => e = .returned (.int .u32 (fl 11 a b old)) ∧ w = w' := by
  have e1 := mask15 old h2 g2
  have e2 := mask4 old
  have e3 := mask31 b h1 g1
  have H := Lib.hid (fl11 a b old)
  go_enter Try.func46, Try.ntmps46
  go_wp2_with (first
    | (go_at_call 99; refine (sum_any _ _ _ _ (by omega) (by omega) (by omega) (by omega) (by omega) (by omega)).mono ?_; rintro e w' ⟨rfl, rfl⟩)
    | (go_at_call 100; refine (rest_any _ _ _ _ (by omega) (by omega) (by omega) (by omega) (by omega) (by omega)).mono ?_; rintro e w' ⟨rfl, rfl⟩)
    | (go_at_call 101; refine (zn_any _ _ (by omega) (by omega)).mono ?_; rintro e w' ⟨rfl, rfl⟩)
    | (go_at_call 102; refine (mul32_any _ _ _ (by omega) (by omega) (by omega) (by omega)).mono ?_; rintro e w' ⟨rfl, rfl⟩)
    | (go_at_call 91; refine (rol_any _ _ _ (by omega) (by omega) (by omega) (by omega)).mono ?_; rintro e w' ⟨rfl, rfl⟩)
    | (go_at_call 103; refine (when_any _ _ _).mono ?_; rintro e w' ⟨rfl, rfl⟩))
  go_ret
  exact ⟨ret_int (H.out), rfl⟩

set_option maxHeartbeats 1000000 in
theorem fl12_any (a b old : Int) (w : World) (h0 : 0 ≤ a) (g0 : a < 4294967296) (h1 : 0 ≤ b) (g1 : b < 4294967296) (h2 : 0 ≤ old) (g2 : old < 4294967296) :
    Calls Try.prog 46 #[.int .i64 12, .int .u32 a, .int .u32 b, .int .u32 old] w fun e w' => e = .returned (.int .u32 (fl 12 a b old)) ∧ w = w' := by
  have e1 := mask15 old h2 g2
  have e2 := mask4 old
  have e3 := mask31 b h1 g1
  have H := Lib.hid (fl12 a b old)
  go_enter Try.func46, Try.ntmps46
  go_wp2_with (first
    | (go_at_call 99; refine (sum_any _ _ _ _ (by omega) (by omega) (by omega) (by omega) (by omega) (by omega)).mono ?_; rintro e w' ⟨rfl, rfl⟩)
    | (go_at_call 100; refine (rest_any _ _ _ _ (by omega) (by omega) (by omega) (by omega) (by omega) (by omega)).mono ?_; rintro e w' ⟨rfl, rfl⟩)
    | (go_at_call 101; refine (zn_any _ _ (by omega) (by omega)).mono ?_; rintro e w' ⟨rfl, rfl⟩)
    | (go_at_call 102; refine (mul32_any _ _ _ (by omega) (by omega) (by omega) (by omega)).mono ?_; rintro e w' ⟨rfl, rfl⟩)
    | (go_at_call 91; refine (rol_any _ _ _ (by omega) (by omega) (by omega) (by omega)).mono ?_; rintro e w' ⟨rfl, rfl⟩)
    | (go_at_call 103; refine (when_any _ _ _).mono ?_; rintro e w' ⟨rfl, rfl⟩))
  go_ret
  exact ⟨ret_int (H.out), rfl⟩

set_option maxHeartbeats 2000000 in
theorem flx_any (k : Int) (hk : k < 1 ∨ 12 < k) (a b old : Int) (w : World) (h0 : 0 ≤ a) (g0 : a < 4294967296) (h1 : 0 ≤ b) (g1 : b < 4294967296) (h2 : 0 ≤ old) (g2 : old < 4294967296) :
    Calls Try.prog 46 #[.int .i64 k, .int .u32 a, .int .u32 b, .int .u32 old] w fun e w' => e = .returned (.int .u32 (fl k a b old)) ∧ w = w' := by
  have e1 := mask15 old h2 g2
  have e2 := mask4 old
  have e3 := mask31 b h1 g1
  have H := Lib.hid (fl_else k a b old hk)
  rcases hk with hk | hk
  all_goals
    go_enter Try.func46, Try.ntmps46
    go_wp2_with fail
    go_ret
    exact ⟨ret_int H.out.symm, rfl⟩

set_option maxHeartbeats 1000000 in
theorem fl10_any (a b old : Int) (w : World) (h0 : 0 ≤ a) (g0 : a < 4294967296) (h1 : 0 ≤ b) (g1 : b < 4294967296) (h2 : 0 ≤ old) (g2 : old < 4294967296) :
    Calls Try.prog 46 #[.int .i64 10, .int .u32 a, .int .u32 b, .int .u32 old] w fun e w' => e = .returned (.int .u32 (fl 10 a b old)) ∧ w = w' := by
  have e1 := mask15 old h2 g2
  have e2 := mask4 old
  have e3 := mask31 b h1 g1
  have hm : 0 ≤ a * b := Int.mul_nonneg h0 h1
  have hm' : a * b < 18446744065119617026 := by
    have h : a * b ≤ 4294967295 * 4294967295 := Int.mul_le_mul (by omega) (by omega) h1 (by omega)
    omega
  have H := Lib.hid (fl10 a b old)
  by_cases hc : 4294967296 ≤ a * b
  · have hd : 1 ≤ a * b / 4294967296 := by omega
    go_enter Try.func46, Try.ntmps46
    go_wp2_with (first
      | (go_at_call 99; refine (sum_any _ _ _ _ (by omega) (by omega) (by omega) (by omega) (by omega) (by omega)).mono ?_; rintro e w' ⟨rfl, rfl⟩)
      | (go_at_call 100; refine (rest_any _ _ _ _ (by omega) (by omega) (by omega) (by omega) (by omega) (by omega)).mono ?_; rintro e w' ⟨rfl, rfl⟩)
      | (go_at_call 101; refine (zn_any _ _ (by omega) (by omega)).mono ?_; rintro e w' ⟨rfl, rfl⟩)
      | (go_at_call 102; refine (mul32_any _ _ _ (by omega) (by omega) (by omega) (by omega)).mono ?_; rintro e w' ⟨rfl, rfl⟩)
      | (go_at_call 91; refine (rol_any _ _ _ (by omega) (by omega) (by omega) (by omega)).mono ?_; rintro e w' ⟨rfl, rfl⟩)
      | (go_at_call 103; refine (when_any _ _ _).mono ?_; rintro e w' ⟨rfl, rfl⟩))
    all_goals go_ret
    all_goals exact ⟨ret_int (H.out.1 hc), rfl⟩
  · have hd : a * b / 4294967296 = 0 := by omega
    go_enter Try.func46, Try.ntmps46
    go_wp2_with (first
      | (go_at_call 99; refine (sum_any _ _ _ _ (by omega) (by omega) (by omega) (by omega) (by omega) (by omega)).mono ?_; rintro e w' ⟨rfl, rfl⟩)
      | (go_at_call 100; refine (rest_any _ _ _ _ (by omega) (by omega) (by omega) (by omega) (by omega) (by omega)).mono ?_; rintro e w' ⟨rfl, rfl⟩)
      | (go_at_call 101; refine (zn_any _ _ (by omega) (by omega)).mono ?_; rintro e w' ⟨rfl, rfl⟩)
      | (go_at_call 102; refine (mul32_any _ _ _ (by omega) (by omega) (by omega) (by omega)).mono ?_; rintro e w' ⟨rfl, rfl⟩)
      | (go_at_call 91; refine (rol_any _ _ _ (by omega) (by omega) (by omega) (by omega)).mono ?_; rintro e w' ⟨rfl, rfl⟩)
      | (go_at_call 103; refine (when_any _ _ _).mono ?_; rintro e w' ⟨rfl, rfl⟩))
    all_goals go_ret
    all_goals exact ⟨ret_int (H.out.2 hc), rfl⟩

set_option maxHeartbeats 1000000 in
theorem flags_any (k a b old : Int) (w : World) (h0 : 0 ≤ a) (g0 : a < 4294967296) (h1 : 0 ≤ b) (g1 : b < 4294967296) (h2 : 0 ≤ old) (g2 : old < 4294967296) :
    Calls Try.prog 46 #[.int .i64 k, .int .u32 a, .int .u32 b, .int .u32 old] w fun e w' => e = .returned (.int .u32 (fl k a b old)) ∧ w = w' := by
  by_cases hx : k < 1 ∨ 12 < k
  · exact flx_any k hx a b old w h0 g0 h1 g1 h2 g2
  by_cases hn : b % 32 = 0
  · by_cases hk : 6 ≤ k ∧ k ≤ 9
    · exact fl69_any k hk.1 hk.2 a b old w h0 g0 h1 g1 h2 g2 hn
    · rcases (show k = 1 ∨ k = 2 ∨ k = 3 ∨ k = 4 ∨ k = 5 ∨ k = 10 ∨ k = 11 ∨ k = 12 by omega) with rfl | rfl | rfl | rfl | rfl | rfl | rfl | rfl
      · exact fl1_any a b old w h0 g0 h1 g1 h2 g2
      · exact fl2_any a b old w h0 g0 h1 g1 h2 g2
      · exact fl3_any a b old w h0 g0 h1 g1 h2 g2
      · exact fl4_any a b old w h0 g0 h1 g1 h2 g2
      · exact fl5_any a b old w h0 g0 h1 g1 h2 g2
      · exact fl10_any a b old w h0 g0 h1 g1 h2 g2
      · exact fl11_any a b old w h0 g0 h1 g1 h2 g2
      · exact fl12_any a b old w h0 g0 h1 g1 h2 g2
  · rcases (show k = 1 ∨ k = 2 ∨ k = 3 ∨ k = 4 ∨ k = 5 ∨ k = 6 ∨ k = 7 ∨ k = 8 ∨ k = 9 ∨ k = 10 ∨ k = 11 ∨ k = 12 by omega) with rfl | rfl | rfl | rfl | rfl | rfl | rfl | rfl | rfl | rfl | rfl | rfl
    · exact fl1_any a b old w h0 g0 h1 g1 h2 g2
    · exact fl2_any a b old w h0 g0 h1 g1 h2 g2
    · exact fl3_any a b old w h0 g0 h1 g1 h2 g2
    · exact fl4_any a b old w h0 g0 h1 g1 h2 g2
    · exact fl5_any a b old w h0 g0 h1 g1 h2 g2
    · exact fl6_any a b old w h0 g0 h1 g1 h2 g2 (by omega) (by omega)
    · exact fl7_any a b old w h0 g0 h1 g1 h2 g2 (by omega) (by omega)
    · exact fl8_any a b old w h0 g0 h1 g1 h2 g2 (by omega) (by omega)
    · exact fl9_any a b old w h0 g0 h1 g1 h2 g2 (by omega) (by omega)
    · exact fl10_any a b old w h0 g0 h1 g1 h2 g2
    · exact fl11_any a b old w h0 g0 h1 g1 h2 g2
    · exact fl12_any a b old w h0 g0 h1 g1 h2 g2
end Go.Proofs.Ytcjcmnnhmajocaa.Fl
