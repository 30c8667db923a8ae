/- The reference's flags of shifts. -/
import Derived.Test.YtcjcmnnhmajocabGreatPlaa
set_option linter.unusedVariables false
set_option linter.unusedSimpArgs false
set_option maxRecDepth 100000
set_option maxHeartbeats 16000000
namespace Go.Proofs.YtcjcmnnhmajocabGreat.Fl
open Go.RowKit
theorem sg_par (a : Int) (j : Nat) (hj : j ≤ 30) : sg a / 2 ^ j % 4294967296 % 2 = a / 2 ^ j % 2 := by
 have e : (4294967296 : Int) = 2 ^ j * (2 * 2 ^ (31 - j)) := by
  rw [show (2 : Int) * 2 ^ (31 - j) = 2 ^ (32 - j) by rw [show 32 - j = (31 - j) + 1 by omega, Int.pow_succ, Int.mul_comm], pow_split j (by omega)]
 unfold sg
 split
 ·have : (a - 4294967296) / 2 ^ j = a / 2 ^ j - 2 * 2 ^ (31 - j) := by
   have h := Int.add_mul_ediv_left a (-(2 * 2 ^ (31 - j))) (show (2 : Int) ^ j ≠ 0 by have := two_pow_pos j; omega)
   rw [Int.mul_neg, ← e] at h
   rw [Int.sub_eq_add_neg, h]; omega
  rw [this]; omega
 ·omega
theorem rf6_any (a b old : Int) (w : World) (h0 : 0 ≤ a) (g0 : a < 4294967296) (h1 : 0 ≤ b) (g1 : b < 4294967296) (h2 : 0 ≤ old) (g2 : old < 4294967296) (hn : 1 ≤ b % 32) (hn2 : b % 32 < 32) :
  Calls Tryz.prog 91 #[.int .i64 6, .int .u32 a, .int .u32 b, .int .u32 old] w fun e w' => e = .returned (.int .u32 (fl 6 a b old)) ∧ w = w' := by
 have hm : 0 ≤ a * b := Int.mul_nonneg h0 h1
 have hm' : a * b < 18446744065119617026 := by
  have h : a * b ≤ 4294967295 * 4294967295 := Int.mul_le_mul (by omega) (by omega) h1 (by omega)
  omega
 have sa : -2147483648 ≤ sg a ∧ sg a < 2147483648 := by unfold sg; split <;> omega
 have sb : -2147483648 ≤ sg b ∧ sg b < 2147483648 := by unfold sg; split <;> omega
 have sa1 := sa.1
 have sa2 := sa.2
 have sb1 := sb.1
 have sb2 := sb.2
 clear sa sb
 have d1 := div_pow_le a (b % 32).toNat h0
 have d2 := div_pow_le a ((b % 32).toNat - 1) h0
 have d4 := rol_lt a (b % 32).toNat (by omega) h0 g0
 have d5 := mul_pow_bd a (b % 32).toNat h0 g0 (by omega)
 have d6 := div_pow_bd (sg a) ((b % 32).toNat - 1) (by omega) (by omega)
 have d7 := div_pow_bd (sg a / 2 ^ ((b % 32).toNat - 1)) 1 d6.1 d6.2
 have e1 : (1 : Int).toNat = 1 := rfl
 go_enter Tryz.func91, Tryz.ntmps91
 go_wp2_with (first
  | (go_at_call 140; refine (word_any _ _ (by omega) (by omega)).mono ?_; rintro e w' ⟨rfl, rfl⟩)
  | (go_at_call 139; refine (value_any _ _ (by omega) (by omega)).mono ?_; rintro e w' ⟨rfl, rfl⟩)
  | (go_at_call 93; refine (is_any _ _ _).mono ?_; rintro e w' ⟨rfl, rfl⟩)
  | (go_at_call 141; refine (past_any _ _).mono ?_; rintro e w' ⟨rfl, rfl⟩)
  | (go_at_call 144; refine (half_i _ _ _ (by omega) (by omega) (by omega) (by omega)).mono ?_; rintro e w' ⟨rfl, rfl⟩)
  | (go_at_call 143; refine (double_i _ _ _ (by omega) (by omega) (by omega) (by omega)).mono ?_; rintro e w' ⟨rfl, rfl⟩)
  | (go_at_call 145; refine (turned_i _ _ _ (by omega) (by omega) (by omega) (by omega)).mono ?_; rintro e w' ⟨rfl, rfl⟩)
  | (go_at_call 142; refine (signed_any _ _ (by omega) (by omega)).mono ?_; rintro e w' ⟨rfl, rfl⟩))
 go_ret
 exact ⟨ret_int (by rw [fl_6 a b old hn]; show _ = zn (a * 2 ^ (b % 32).toNat % 4294967296) + (if a * 2 ^ (b % 32).toNat / 4294967296 % 2 = 1 then 4 else 0); have hz := zn_lt (a * 2 ^ (b % 32).toNat % 4294967296); simp only [isV, beq_iff_eq]; split <;> omega), rfl⟩
theorem rf7_any (a b old : Int) (w : World) (h0 : 0 ≤ a) (g0 : a < 4294967296) (h1 : 0 ≤ b) (g1 : b < 4294967296) (h2 : 0 ≤ old) (g2 : old < 4294967296) (hn : 1 ≤ b % 32) (hn2 : b % 32 < 32) :
  Calls Tryz.prog 91 #[.int .i64 7, .int .u32 a, .int .u32 b, .int .u32 old] w fun e w' => e = .returned (.int .u32 (fl 7 a b old)) ∧ w = w' := by
 have hm : 0 ≤ a * b := Int.mul_nonneg h0 h1
 have hm' : a * b < 18446744065119617026 := by
  have h : a * b ≤ 4294967295 * 4294967295 := Int.mul_le_mul (by omega) (by omega) h1 (by omega)
  omega
 have sa : -2147483648 ≤ sg a ∧ sg a < 2147483648 := by unfold sg; split <;> omega
 have sb : -2147483648 ≤ sg b ∧ sg b < 2147483648 := by unfold sg; split <;> omega
 have sa1 := sa.1
 have sa2 := sa.2
 have sb1 := sb.1
 have sb2 := sb.2
 clear sa sb
 have d1 := div_pow_le a (b % 32).toNat h0
 have d2 := div_pow_le a ((b % 32).toNat - 1) h0
 have d4 := rol_lt a (b % 32).toNat (by omega) h0 g0
 have d5 := mul_pow_bd a (b % 32).toNat h0 g0 (by omega)
 have d6 := div_pow_bd (sg a) ((b % 32).toNat - 1) (by omega) (by omega)
 have d7 := div_pow_bd (sg a / 2 ^ ((b % 32).toNat - 1)) 1 d6.1 d6.2
 have e1 : (1 : Int).toNat = 1 := rfl
 go_enter Tryz.func91, Tryz.ntmps91
 go_wp2_with (first
  | (go_at_call 140; refine (word_any _ _ (by omega) (by omega)).mono ?_; rintro e w' ⟨rfl, rfl⟩)
  | (go_at_call 139; refine (value_any _ _ (by omega) (by omega)).mono ?_; rintro e w' ⟨rfl, rfl⟩)
  | (go_at_call 93; refine (is_any _ _ _).mono ?_; rintro e w' ⟨rfl, rfl⟩)
  | (go_at_call 141; refine (past_any _ _).mono ?_; rintro e w' ⟨rfl, rfl⟩)
  | (go_at_call 144; refine (half_i _ _ _ (by omega) (by omega) (by omega) (by omega)).mono ?_; rintro e w' ⟨rfl, rfl⟩)
  | (go_at_call 143; refine (double_i _ _ _ (by omega) (by omega) (by omega) (by omega)).mono ?_; rintro e w' ⟨rfl, rfl⟩)
  | (go_at_call 145; refine (turned_i _ _ _ (by omega) (by omega) (by omega) (by omega)).mono ?_; rintro e w' ⟨rfl, rfl⟩)
  | (go_at_call 142; refine (signed_any _ _ (by omega) (by omega)).mono ?_; rintro e w' ⟨rfl, rfl⟩))
 go_ret
 exact ⟨ret_int (by rw [fl_7 a b old hn]; show _ = zn (a / 2 ^ (b % 32).toNat) + (if a / 2 ^ ((b % 32).toNat - 1) % 2 = 1 then 4 else 0); have hz := zn_lt (a / 2 ^ (b % 32).toNat); simp only [isV, beq_iff_eq]; split <;> omega), rfl⟩
theorem rf8_any (a b old : Int) (w : World) (h0 : 0 ≤ a) (g0 : a < 4294967296) (h1 : 0 ≤ b) (g1 : b < 4294967296) (h2 : 0 ≤ old) (g2 : old < 4294967296) (hn : 1 ≤ b % 32) (hn2 : b % 32 < 32) :
  Calls Tryz.prog 91 #[.int .i64 8, .int .u32 a, .int .u32 b, .int .u32 old] w fun e w' => e = .returned (.int .u32 (fl 8 a b old)) ∧ w = w' := by
 have hm : 0 ≤ a * b := Int.mul_nonneg h0 h1
 have hm' : a * b < 18446744065119617026 := by
  have h : a * b ≤ 4294967295 * 4294967295 := Int.mul_le_mul (by omega) (by omega) h1 (by omega)
  omega
 have sa : -2147483648 ≤ sg a ∧ sg a < 2147483648 := by unfold sg; split <;> omega
 have sb : -2147483648 ≤ sg b ∧ sg b < 2147483648 := by unfold sg; split <;> omega
 have sa1 := sa.1
 have sa2 := sa.2
 have sb1 := sb.1
 have sb2 := sb.2
 clear sa sb
 have d1 := div_pow_le a (b % 32).toNat h0
 have d2 := div_pow_le a ((b % 32).toNat - 1) h0
 have d4 := rol_lt a (b % 32).toNat (by omega) h0 g0
 have d5 := mul_pow_bd a (b % 32).toNat h0 g0 (by omega)
 have d6 := div_pow_bd (sg a) ((b % 32).toNat - 1) (by omega) (by omega)
 have d7 := div_pow_bd (sg a / 2 ^ ((b % 32).toNat - 1)) 1 d6.1 d6.2
 have e1 : (1 : Int).toNat = 1 := rfl
 go_enter Tryz.func91, Tryz.ntmps91
 go_wp2_with (first
  | (go_at_call 140; refine (word_any _ _ (by omega) (by omega)).mono ?_; rintro e w' ⟨rfl, rfl⟩)
  | (go_at_call 139; refine (value_any _ _ (by omega) (by omega)).mono ?_; rintro e w' ⟨rfl, rfl⟩)
  | (go_at_call 93; refine (is_any _ _ _).mono ?_; rintro e w' ⟨rfl, rfl⟩)
  | (go_at_call 141; refine (past_any _ _).mono ?_; rintro e w' ⟨rfl, rfl⟩)
  | (go_at_call 144; refine (half_i _ _ _ (by omega) (by omega) (by omega) (by omega)).mono ?_; rintro e w' ⟨rfl, rfl⟩)
  | (go_at_call 143; refine (double_i _ _ _ (by omega) (by omega) (by omega) (by omega)).mono ?_; rintro e w' ⟨rfl, rfl⟩)
  | (go_at_call 145; refine (turned_i _ _ _ (by omega) (by omega) (by omega) (by omega)).mono ?_; rintro e w' ⟨rfl, rfl⟩)
  | (go_at_call 142; refine (signed_any _ _ (by omega) (by omega)).mono ?_; rintro e w' ⟨rfl, rfl⟩))
 go_ret
 exact ⟨ret_int (by rw [fl_8 a b old hn]; show _ = zn (sg a / 2 ^ (b % 32).toNat % 4294967296) + (if a / 2 ^ ((b % 32).toNat - 1) % 2 = 1 then 4 else 0); rw [div_div_pow, show (b % 32).toNat - 1 + 1 = (b % 32).toNat by omega]; have hp := sg_par a ((b % 32).toNat - 1) (by omega); have hz := zn_lt (sg a / 2 ^ (b % 32).toNat % 4294967296); simp only [isV, beq_iff_eq]; split <;> split <;> omega), rfl⟩
theorem rf9_any (a b old : Int) (w : World) (h0 : 0 ≤ a) (g0 : a < 4294967296) (h1 : 0 ≤ b) (g1 : b < 4294967296) (h2 : 0 ≤ old) (g2 : old < 4294967296) (hn : 1 ≤ b % 32) (hn2 : b % 32 < 32) :
  Calls Tryz.prog 91 #[.int .i64 9, .int .u32 a, .int .u32 b, .int .u32 old] w fun e w' => e = .returned (.int .u32 (fl 9 a b old)) ∧ w = w' := by
 have hm : 0 ≤ a * b := Int.mul_nonneg h0 h1
 have hm' : a * b < 18446744065119617026 := by
  have h : a * b ≤ 4294967295 * 4294967295 := Int.mul_le_mul (by omega) (by omega) h1 (by omega)
  omega
 have sa : -2147483648 ≤ sg a ∧ sg a < 2147483648 := by unfold sg; split <;> omega
 have sb : -2147483648 ≤ sg b ∧ sg b < 2147483648 := by unfold sg; split <;> omega
 have sa1 := sa.1
 have sa2 := sa.2
 have sb1 := sb.1
 have sb2 := sb.2
 clear sa sb
 have d1 := div_pow_le a (b % 32).toNat h0
 have d2 := div_pow_le a ((b % 32).toNat - 1) h0
 have d4 := rol_lt a (b % 32).toNat (by omega) h0 g0
 have d5 := mul_pow_bd a (b % 32).toNat h0 g0 (by omega)
 have d6 := div_pow_bd (sg a) ((b % 32).toNat - 1) (by omega) (by omega)
 have d7 := div_pow_bd (sg a / 2 ^ ((b % 32).toNat - 1)) 1 d6.1 d6.2
 have e1 : (1 : Int).toNat = 1 := rfl
 go_enter Tryz.func91, Tryz.ntmps91
 go_wp2_with (first
  | (go_at_call 140; refine (word_any _ _ (by omega) (by omega)).mono ?_; rintro e w' ⟨rfl, rfl⟩)
  | (go_at_call 139; refine (value_any _ _ (by omega) (by omega)).mono ?_; rintro e w' ⟨rfl, rfl⟩)
  | (go_at_call 93; refine (is_any _ _ _).mono ?_; rintro e w' ⟨rfl, rfl⟩)
  | (go_at_call 141; refine (past_any _ _).mono ?_; rintro e w' ⟨rfl, rfl⟩)
  | (go_at_call 144; refine (half_i _ _ _ (by omega) (by omega) (by omega) (by omega)).mono ?_; rintro e w' ⟨rfl, rfl⟩)
  | (go_at_call 143; refine (double_i _ _ _ (by omega) (by omega) (by omega) (by omega)).mono ?_; rintro e w' ⟨rfl, rfl⟩)
  | (go_at_call 145; refine (turned_i _ _ _ (by omega) (by omega) (by omega) (by omega)).mono ?_; rintro e w' ⟨rfl, rfl⟩)
  | (go_at_call 142; refine (signed_any _ _ (by omega) (by omega)).mono ?_; rintro e w' ⟨rfl, rfl⟩))
 go_ret
 exact ⟨ret_int (by rw [o4, fl_9 a b old hn]; show _ = old % 16 - old / 4 % 2 * 4 + (if rol a (b % 32).toNat % 2 = 1 then 4 else 0); simp only [isV, beq_iff_eq]; split <;> omega), rfl⟩
theorem rf69_any (k : Int) (hk : 6 ≤ k) (hk' : k ≤ 9) (a b old : Int) (w : World) (h0 : 0 ≤ a) (g0 : a < 4294967296) (h1 : 0 ≤ b) (g1 : b < 4294967296) (h2 : 0 ≤ old) (g2 : old < 4294967296) (hn : b % 32 = 0) :
  Calls Tryz.prog 91 #[.int .i64 k, .int .u32 a, .int .u32 b, .int .u32 old] w fun e w' => e = .returned (.int .u32 (fl k a b old)) ∧ w = w' := by
 have H := κ (fl_0 k a b old hk hk' hn)
 rcases (show k = 6 ∨ k = 7 ∨ k = 8 ∨ k = 9 by omega) with rfl | rfl | rfl | rfl
 all_goals
  go_enter Tryz.func91, Tryz.ntmps91
  go_wp2_with fail
  go_ret
  exact ⟨ret_int H.out.symm, rfl⟩
theorem rfx_any (k : Int) (hk : k < 1 ∨ 12 < k) (a b old : Int) (w : World) (h0 : 0 ≤ a) (g0 : a < 4294967296) (h1 : 0 ≤ b) (g1 : b < 4294967296) (h2 : 0 ≤ old) (g2 : old < 4294967296) :
  Calls Tryz.prog 91 #[.int .i64 k, .int .u32 a, .int .u32 b, .int .u32 old] w fun e w' => e = .returned (.int .u32 (fl k a b old)) ∧ w = w' := by
 have H := κ (fl_else k a b old hk)
 rcases hk with hk | hk
 all_goals
  go_enter Tryz.func91, Tryz.ntmps91
  go_wp2_with fail
  all_goals go_ret
  all_goals exact ⟨ret_int H.out.symm, rfl⟩
theorem rflags_any (k a b old : Int) (w : World) (h0 : 0 ≤ a) (g0 : a < 4294967296) (h1 : 0 ≤ b) (g1 : b < 4294967296) (h2 : 0 ≤ old) (g2 : old < 4294967296) :
  Calls Tryz.prog 91 #[.int .i64 k, .int .u32 a, .int .u32 b, .int .u32 old] w fun e w' => e = .returned (.int .u32 (fl k a b old)) ∧ w = w' := by
 by_cases hx : k < 1 ∨ 12 < k
 ·exact rfx_any k hx a b old w h0 g0 h1 g1 h2 g2
 by_cases hk : 6 ≤ k ∧ k ≤ 9
 ·by_cases hn : b % 32 = 0
  ·exact rf69_any k hk.1 hk.2 a b old w h0 g0 h1 g1 h2 g2 hn
  ·rcases (show k = 6 ∨ k = 7 ∨ k = 8 ∨ k = 9 by omega) with rfl | rfl | rfl | rfl
   ·exact rf6_any a b old w h0 g0 h1 g1 h2 g2 (by omega) (by omega)
   ·exact rf7_any a b old w h0 g0 h1 g1 h2 g2 (by omega) (by omega)
   ·exact rf8_any a b old w h0 g0 h1 g1 h2 g2 (by omega) (by omega)
   ·exact rf9_any a b old w h0 g0 h1 g1 h2 g2 (by omega) (by omega)
 ·rcases (show k = 1 ∨ k = 2 ∨ k = 3 ∨ k = 4 ∨ k = 5 ∨ k = 10 ∨ k = 11 ∨ k = 12 by omega) with rfl | rfl | rfl | rfl | rfl | rfl | rfl | rfl
  ·exact rf1_any a b old w h0 g0 h1 g1 h2 g2
  ·exact rf2_any a b old w h0 g0 h1 g1 h2 g2
  ·exact rf3_any a b old w h0 g0 h1 g1 h2 g2
  ·exact rf4_any a b old w h0 g0 h1 g1 h2 g2
  ·exact rf5_any a b old w h0 g0 h1 g1 h2 g2
  ·exact rf10_any a b old w h0 g0 h1 g1 h2 g2
  ·exact rf11_any a b old w h0 g0 h1 g1 h2 g2
  ·exact rf12_any a b old w h0 g0 h1 g1 h2 g2
end Go.Proofs.YtcjcmnnhmajocabGreat.Fl
