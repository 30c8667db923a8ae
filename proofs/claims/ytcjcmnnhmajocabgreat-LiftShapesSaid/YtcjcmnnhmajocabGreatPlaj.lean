/- What OpBin and OpUn do: ir's and the reference's. -/
import Derived.Test.YtcjcmnnhmajocabGreatPlai
set_option linter.unusedVariables false
set_option linter.unusedSimpArgs false
set_option maxRecDepth 100000
set_option maxHeartbeats 16000000
namespace Go.Proofs.YtcjcmnnhmajocabGreat.Fl
open Go.RowKit Kt
theorem rbits_and (o : Int) (ho : o < 5 ∨ 6 < o) (A B : Nat) (w : World) (g0 : A < 4294967296) (g1 : B < 4294967296) :
  Calls Tryz.prog 146 #[.int .i64 o, .int .u32 (A : Int), .int .u32 (B : Int)] w fun e w' => e = .returned (.int .u32 ((A &&& B : Nat) : Int)) ∧ w = w' := by
 have hV : A &&& B < 4294967296 := and_lt g1
 have h5 : (o == 5) = false := by simp; omega
 have h6 : (o == 6) = false := by simp; omega
 clear ho
 have HS := κ (and_step A B)
 obtain ⟨V, hVV⟩ : ∃ V, V = A &&& B := ⟨_, rfl⟩
 rw [← hVV] at hV HS ⊢
 clear hVV
 have h32 : V / 2 ^ 32 = 0 := Nat.div_eq_of_lt hV
 go_enter Tryz.func146, Tryz.ntmps146
 go_wp2
 go_loop [7, 8] (fun x k => ∃ j : Int, -1 ≤ j ∧ j ≤ 31 ∧ k = .int .i64 j ∧ x = .int .u32 ((V / 2 ^ (j + 1).toNat : Nat) : Int)) (fun _ k => (intOf k + 1).toNat)
 case atStart => exact ⟨31, by omega, by omega, rfl, by rw [show ((31 : Int) + 1).toNat = 32 from rfl, h32]; rfl⟩
 case round =>
  obtain ⟨j, hj0, hj1, rfl, rfl⟩ := hrel
  clear h32
  by_cases hz : j < 0
  ·have e0 : V / 2 ^ (j + 1).toNat = V := by rw [show (j + 1).toNat = 0 by omega]; simp
   rw [e0]
   clear e0
   go_wp2
   go_ret
   exact ⟨rfl, rfl⟩
  ·have hz0 : 0 ≤ j := by omega
   clear hz
   have hst := HS.out j.toNat
   rw [show j.toNat + 1 = (j + 1).toNat by omega] at hst
   have hp2 := Nat.mod_lt (A / 2 ^ j.toNat) (show 2 > 0 by omega)
   have hq2 := Nat.mod_lt (B / 2 ^ j.toNat) (show 2 > 0 by omega)
   have cp : (A : Int) / 2 ^ j.toNat % 2 = ((A / 2 ^ j.toNat % 2 : Nat) : Int) := by rw [Int.natCast_emod, Int.natCast_ediv, Int.natCast_pow]; rfl
   have cq : (B : Int) / 2 ^ j.toNat % 2 = ((B / 2 ^ j.toNat % 2 : Nat) : Int) := by rw [Int.natCast_emod, Int.natCast_ediv, Int.natCast_pow]; rfl
   have ha0 : 0 ≤ (A : Int) / 2 ^ j.toNat := (div_pow_le (A : Int) j.toNat (by omega)).1
   have hb0 : 0 ≤ (B : Int) / 2 ^ j.toNat := (div_pow_le (B : Int) j.toNat (by omega)).1
   obtain ⟨p, hp⟩ : ∃ p, p = A / 2 ^ j.toNat % 2 := ⟨_, rfl⟩
   obtain ⟨q, hq⟩ : ∃ q, q = B / 2 ^ j.toNat % 2 := ⟨_, rfl⟩
   rw [← hp] at cp hp2 hst
   rw [← hq] at cq hq2 hst
   clear hp hq
   have hle := Nat.div_le_self V (2 ^ j.toNat)
   obtain ⟨X, hX⟩ : ∃ X, X = V / 2 ^ (j + 1).toNat := ⟨_, rfl⟩
   obtain ⟨Y, hY⟩ : ∃ Y, Y = V / 2 ^ j.toNat := ⟨_, rfl⟩
   rw [← hX, ← hY] at hst
   rw [← hY] at hle
   rw [← hX]
   have HX := κ hX
   have HY := κ hY
   clear hX hY
   rcases (show (p = 0 ∨ p = 1) by omega) with rfl | rfl <;> rcases (show (q = 0 ∨ q = 1) by omega) with rfl | rfl
   all_goals
    have hXb : 2 * X ≤ Y := by omega
    have HST := κ hst
    clear hst
    go_wp2
    go_round
    case rel => exact ⟨j - 1, by omega, by omega, rfl, by rw [show (j - 1 + 1).toNat = j.toNat by omega, ← HY.out]; have := HST.out; go_num⟩
    case measure => simp [intOf]; omega
theorem rbits_or (o : Int) (ho : o = 5) (A B : Nat) (w : World) (g0 : A < 4294967296) (g1 : B < 4294967296) :
  Calls Tryz.prog 146 #[.int .i64 o, .int .u32 (A : Int), .int .u32 (B : Int)] w fun e w' => e = .returned (.int .u32 ((A ||| B : Nat) : Int)) ∧ w = w' := by
 have hV : A ||| B < 4294967296 := or_lt g0 g1
 have h5 : (o == 5) = true := by simp [ho]
 have h6 : (o == 6) = false := by simp [ho]
 clear ho
 have HS := κ (or_step A B)
 obtain ⟨V, hVV⟩ : ∃ V, V = A ||| B := ⟨_, rfl⟩
 rw [← hVV] at hV HS ⊢
 clear hVV
 have h32 : V / 2 ^ 32 = 0 := Nat.div_eq_of_lt hV
 go_enter Tryz.func146, Tryz.ntmps146
 go_wp2
 go_loop [7, 8] (fun x k => ∃ j : Int, -1 ≤ j ∧ j ≤ 31 ∧ k = .int .i64 j ∧ x = .int .u32 ((V / 2 ^ (j + 1).toNat : Nat) : Int)) (fun _ k => (intOf k + 1).toNat)
 case atStart => exact ⟨31, by omega, by omega, rfl, by rw [show ((31 : Int) + 1).toNat = 32 from rfl, h32]; rfl⟩
 case round =>
  obtain ⟨j, hj0, hj1, rfl, rfl⟩ := hrel
  clear h32
  by_cases hz : j < 0
  ·have e0 : V / 2 ^ (j + 1).toNat = V := by rw [show (j + 1).toNat = 0 by omega]; simp
   rw [e0]
   clear e0
   go_wp2
   go_ret
   exact ⟨rfl, rfl⟩
  ·have hz0 : 0 ≤ j := by omega
   clear hz
   have hst := HS.out j.toNat
   rw [show j.toNat + 1 = (j + 1).toNat by omega] at hst
   have hp2 := Nat.mod_lt (A / 2 ^ j.toNat) (show 2 > 0 by omega)
   have hq2 := Nat.mod_lt (B / 2 ^ j.toNat) (show 2 > 0 by omega)
   have cp : (A : Int) / 2 ^ j.toNat % 2 = ((A / 2 ^ j.toNat % 2 : Nat) : Int) := by rw [Int.natCast_emod, Int.natCast_ediv, Int.natCast_pow]; rfl
   have cq : (B : Int) / 2 ^ j.toNat % 2 = ((B / 2 ^ j.toNat % 2 : Nat) : Int) := by rw [Int.natCast_emod, Int.natCast_ediv, Int.natCast_pow]; rfl
   have ha0 : 0 ≤ (A : Int) / 2 ^ j.toNat := (div_pow_le (A : Int) j.toNat (by omega)).1
   have hb0 : 0 ≤ (B : Int) / 2 ^ j.toNat := (div_pow_le (B : Int) j.toNat (by omega)).1
   obtain ⟨p, hp⟩ : ∃ p, p = A / 2 ^ j.toNat % 2 := ⟨_, rfl⟩
   obtain ⟨q, hq⟩ : ∃ q, q = B / 2 ^ j.toNat % 2 := ⟨_, rfl⟩
   rw [← hp] at cp hp2 hst
   rw [← hq] at cq hq2 hst
   clear hp hq
   have hle := Nat.div_le_self V (2 ^ j.toNat)
   obtain ⟨X, hX⟩ : ∃ X, X = V / 2 ^ (j + 1).toNat := ⟨_, rfl⟩
   obtain ⟨Y, hY⟩ : ∃ Y, Y = V / 2 ^ j.toNat := ⟨_, rfl⟩
   rw [← hX, ← hY] at hst
   rw [← hY] at hle
   rw [← hX]
   have HX := κ hX
   have HY := κ hY
   clear hX hY
   rcases (show (p = 0 ∨ p = 1) by omega) with rfl | rfl <;> rcases (show (q = 0 ∨ q = 1) by omega) with rfl | rfl
   all_goals
    have hXb : 2 * X ≤ Y := by omega
    have HST := κ hst
    clear hst
    go_wp2
    go_round
    case rel => exact ⟨j - 1, by omega, by omega, rfl, by rw [show (j - 1 + 1).toNat = j.toNat by omega, ← HY.out]; have := HST.out; go_num⟩
    case measure => simp [intOf]; omega
theorem rbits_xor (o : Int) (ho : o = 6) (A B : Nat) (w : World) (g0 : A < 4294967296) (g1 : B < 4294967296) :
  Calls Tryz.prog 146 #[.int .i64 o, .int .u32 (A : Int), .int .u32 (B : Int)] w fun e w' => e = .returned (.int .u32 ((A ^^^ B : Nat) : Int)) ∧ w = w' := by
 have hV : A ^^^ B < 4294967296 := xor_lt g0 g1
 have h5 : (o == 5) = false := by simp [ho]
 have h6 : (o == 6) = true := by simp [ho]
 clear ho
 have HS := κ (xor_step A B)
 obtain ⟨V, hVV⟩ : ∃ V, V = A ^^^ B := ⟨_, rfl⟩
 rw [← hVV] at hV HS ⊢
 clear hVV
 have h32 : V / 2 ^ 32 = 0 := Nat.div_eq_of_lt hV
 go_enter Tryz.func146, Tryz.ntmps146
 go_wp2
 go_loop [7, 8] (fun x k => ∃ j : Int, -1 ≤ j ∧ j ≤ 31 ∧ k = .int .i64 j ∧ x = .int .u32 ((V / 2 ^ (j + 1).toNat : Nat) : Int)) (fun _ k => (intOf k + 1).toNat)
 case atStart => exact ⟨31, by omega, by omega, rfl, by rw [show ((31 : Int) + 1).toNat = 32 from rfl, h32]; rfl⟩
 case round =>
  obtain ⟨j, hj0, hj1, rfl, rfl⟩ := hrel
  clear h32
  by_cases hz : j < 0
  ·have e0 : V / 2 ^ (j + 1).toNat = V := by rw [show (j + 1).toNat = 0 by omega]; simp
   rw [e0]
   clear e0
   go_wp2
   go_ret
   exact ⟨rfl, rfl⟩
  ·have hz0 : 0 ≤ j := by omega
   clear hz
   have hst := HS.out j.toNat
   rw [show j.toNat + 1 = (j + 1).toNat by omega] at hst
   have hp2 := Nat.mod_lt (A / 2 ^ j.toNat) (show 2 > 0 by omega)
   have hq2 := Nat.mod_lt (B / 2 ^ j.toNat) (show 2 > 0 by omega)
   have cp : (A : Int) / 2 ^ j.toNat % 2 = ((A / 2 ^ j.toNat % 2 : Nat) : Int) := by rw [Int.natCast_emod, Int.natCast_ediv, Int.natCast_pow]; rfl
   have cq : (B : Int) / 2 ^ j.toNat % 2 = ((B / 2 ^ j.toNat % 2 : Nat) : Int) := by rw [Int.natCast_emod, Int.natCast_ediv, Int.natCast_pow]; rfl
   have ha0 : 0 ≤ (A : Int) / 2 ^ j.toNat := (div_pow_le (A : Int) j.toNat (by omega)).1
   have hb0 : 0 ≤ (B : Int) / 2 ^ j.toNat := (div_pow_le (B : Int) j.toNat (by omega)).1
   obtain ⟨p, hp⟩ : ∃ p, p = A / 2 ^ j.toNat % 2 := ⟨_, rfl⟩
   obtain ⟨q, hq⟩ : ∃ q, q = B / 2 ^ j.toNat % 2 := ⟨_, rfl⟩
   rw [← hp] at cp hp2 hst
   rw [← hq] at cq hq2 hst
   clear hp hq
   have hle := Nat.div_le_self V (2 ^ j.toNat)
   obtain ⟨X, hX⟩ : ∃ X, X = V / 2 ^ (j + 1).toNat := ⟨_, rfl⟩
   obtain ⟨Y, hY⟩ : ∃ Y, Y = V / 2 ^ j.toNat := ⟨_, rfl⟩
   rw [← hX, ← hY] at hst
   rw [← hY] at hle
   rw [← hX]
   have HX := κ hX
   have HY := κ hY
   clear hX hY
   rcases (show (p = 0 ∨ p = 1) by omega) with rfl | rfl <;> rcases (show (q = 0 ∨ q = 1) by omega) with rfl | rfl
   all_goals
    have hXb : 2 * X ≤ Y := by omega
    have HST := κ hst
    clear hst
    go_wp2
    go_round
    case rel => exact ⟨j - 1, by omega, by omega, rfl, by rw [show (j - 1 + 1).toNat = j.toNat by omega, ← HY.out]; have := HST.out; go_num⟩
    case measure => simp [intOf]; omega
theorem rb_and (a b : Int) (w : World) (h0 : 0 ≤ a) (g0 : a < 4294967296) (h1 : 0 ≤ b) (g1 : b < 4294967296) :
  Calls Tryz.prog 146 #[.int .i64 4, .int .u32 a, .int .u32 b] w fun e w' => e = .returned (.int .u32 (bits .and .u32 a b)) ∧ w = w' := by
 obtain ⟨A, rfl⟩ := Int.eq_ofNat_of_zero_le h0
 obtain ⟨B, rfl⟩ := Int.eq_ofNat_of_zero_le h1
 rw [u32_and_nat _ _ (by omega) (by omega)]
 exact rbits_and 4 (by omega) A B w (by omega) (by omega)
theorem rb_or (a b : Int) (w : World) (h0 : 0 ≤ a) (g0 : a < 4294967296) (h1 : 0 ≤ b) (g1 : b < 4294967296) :
  Calls Tryz.prog 146 #[.int .i64 5, .int .u32 a, .int .u32 b] w fun e w' => e = .returned (.int .u32 (bits .or .u32 a b)) ∧ w = w' := by
 obtain ⟨A, rfl⟩ := Int.eq_ofNat_of_zero_le h0
 obtain ⟨B, rfl⟩ := Int.eq_ofNat_of_zero_le h1
 rw [u32_or_nat _ _ (by omega) (by omega)]
 exact rbits_or 5 (by omega) A B w (by omega) (by omega)
theorem rb_xor (a b : Int) (w : World) (h0 : 0 ≤ a) (g0 : a < 4294967296) (h1 : 0 ≤ b) (g1 : b < 4294967296) :
  Calls Tryz.prog 146 #[.int .i64 6, .int .u32 a, .int .u32 b] w fun e w' => e = .returned (.int .u32 (bits .xor .u32 a b)) ∧ w = w' := by
 obtain ⟨A, rfl⟩ := Int.eq_ofNat_of_zero_le h0
 obtain ⟨B, rfl⟩ := Int.eq_ofNat_of_zero_le h1
 rw [u32_xor_nat _ _ (by omega) (by omega)]
 exact rbits_xor 6 (by omega) A B w (by omega) (by omega)
theorem rrk0_any (a b f : Int) (w : World) (h0 : 0 ≤ a) (g0 : a < 4294967296) (h1 : 0 ≤ b) (g1 : b < 4294967296) (h2 : 0 ≤ f) (g2 : f < 4294967296) :
  Calls Tryz.prog 94 #[.int .i64 0, .int .u32 a, .int .u32 b, .int .u32 f] w fun e w' => e = .returned (.tuple #[.int .u32 (rkv 0 a b f), .int .u32 (rkf 0 a b f), .bool (rko 0 b)]) ∧ w = w' := by
 go_enter Tryz.func94, Tryz.ntmps94
 go_wp2_with (first
  | (go_at_call 91; refine (rflags_any _ _ _ _ _ (by omega) (by omega) (by omega) (by omega) (by omega) (by omega)).mono ?_; rintro e w' ⟨rfl, rfl⟩)
  | (go_at_call 140; refine (word_any _ _ (by omega) (by omega)).mono ?_; rintro e w' ⟨rfl, rfl⟩)
  | (go_at_call 146; refine (rb_and _ _ _ (by omega) (by omega) (by omega) (by omega)).mono ?_; rintro e w' ⟨rfl, rfl⟩)
  | (go_at_call 144; refine (half_i _ _ _ (by omega) (by omega) (by omega) (by omega)).mono ?_; rintro e w' ⟨rfl, rfl⟩)
  | (go_at_call 143; refine (double_i _ _ _ (by omega) (by omega) (by omega) (by omega)).mono ?_; rintro e w' ⟨rfl, rfl⟩)
  | (go_at_call 145; refine (turned_i _ _ _ (by omega) (by omega) (by omega) (by omega)).mono ?_; rintro e w' ⟨rfl, rfl⟩)
  | (go_at_call 142; refine (signed_any _ _ (by omega) (by omega)).mono ?_; rintro e w' ⟨rfl, rfl⟩))
 go_ret3
 refine ⟨ret_rk ?_ ?_ ?_, rfl⟩
 all_goals (try rfl)
theorem rrk1_any (a b f : Int) (w : World) (h0 : 0 ≤ a) (g0 : a < 4294967296) (h1 : 0 ≤ b) (g1 : b < 4294967296) (h2 : 0 ≤ f) (g2 : f < 4294967296) :
  Calls Tryz.prog 94 #[.int .i64 1, .int .u32 a, .int .u32 b, .int .u32 f] w fun e w' => e = .returned (.tuple #[.int .u32 (rkv 1 a b f), .int .u32 (rkf 1 a b f), .bool (rko 1 b)]) ∧ w = w' := by
 go_enter Tryz.func94, Tryz.ntmps94
 go_wp2_with (first
  | (go_at_call 91; refine (rflags_any _ _ _ _ _ (by omega) (by omega) (by omega) (by omega) (by omega) (by omega)).mono ?_; rintro e w' ⟨rfl, rfl⟩)
  | (go_at_call 140; refine (word_any _ _ (by omega) (by omega)).mono ?_; rintro e w' ⟨rfl, rfl⟩)
  | (go_at_call 146; refine (rb_and _ _ _ (by omega) (by omega) (by omega) (by omega)).mono ?_; rintro e w' ⟨rfl, rfl⟩)
  | (go_at_call 144; refine (half_i _ _ _ (by omega) (by omega) (by omega) (by omega)).mono ?_; rintro e w' ⟨rfl, rfl⟩)
  | (go_at_call 143; refine (double_i _ _ _ (by omega) (by omega) (by omega) (by omega)).mono ?_; rintro e w' ⟨rfl, rfl⟩)
  | (go_at_call 145; refine (turned_i _ _ _ (by omega) (by omega) (by omega) (by omega)).mono ?_; rintro e w' ⟨rfl, rfl⟩)
  | (go_at_call 142; refine (signed_any _ _ (by omega) (by omega)).mono ?_; rintro e w' ⟨rfl, rfl⟩))
 go_ret3
 refine ⟨ret_rk ?_ ?_ ?_, rfl⟩
 all_goals (try rfl)
theorem rrk2_any (a b f : Int) (w : World) (h0 : 0 ≤ a) (g0 : a < 4294967296) (h1 : 0 ≤ b) (g1 : b < 4294967296) (h2 : 0 ≤ f) (g2 : f < 4294967296) :
  Calls Tryz.prog 94 #[.int .i64 2, .int .u32 a, .int .u32 b, .int .u32 f] w fun e w' => e = .returned (.tuple #[.int .u32 (rkv 2 a b f), .int .u32 (rkf 2 a b f), .bool (rko 2 b)]) ∧ w = w' := by
 go_enter Tryz.func94, Tryz.ntmps94
 go_wp2_with (first
  | (go_at_call 91; refine (rflags_any _ _ _ _ _ (by omega) (by omega) (by omega) (by omega) (by omega) (by omega)).mono ?_; rintro e w' ⟨rfl, rfl⟩)
  | (go_at_call 140; refine (word_any _ _ (by omega) (by omega)).mono ?_; rintro e w' ⟨rfl, rfl⟩)
  | (go_at_call 146; refine (rb_and _ _ _ (by omega) (by omega) (by omega) (by omega)).mono ?_; rintro e w' ⟨rfl, rfl⟩)
  | (go_at_call 144; refine (half_i _ _ _ (by omega) (by omega) (by omega) (by omega)).mono ?_; rintro e w' ⟨rfl, rfl⟩)
  | (go_at_call 143; refine (double_i _ _ _ (by omega) (by omega) (by omega) (by omega)).mono ?_; rintro e w' ⟨rfl, rfl⟩)
  | (go_at_call 145; refine (turned_i _ _ _ (by omega) (by omega) (by omega) (by omega)).mono ?_; rintro e w' ⟨rfl, rfl⟩)
  | (go_at_call 142; refine (signed_any _ _ (by omega) (by omega)).mono ?_; rintro e w' ⟨rfl, rfl⟩))
 go_ret3
 refine ⟨ret_rk ?_ ?_ ?_, rfl⟩
 all_goals (try rfl)
theorem rrk3_any (a b f : Int) (w : World) (h0 : 0 ≤ a) (g0 : a < 4294967296) (h1 : 0 ≤ b) (g1 : b < 4294967296) (h2 : 0 ≤ f) (g2 : f < 4294967296) :
  Calls Tryz.prog 94 #[.int .i64 3, .int .u32 a, .int .u32 b, .int .u32 f] w fun e w' => e = .returned (.tuple #[.int .u32 (rkv 3 a b f), .int .u32 (rkf 3 a b f), .bool (rko 3 b)]) ∧ w = w' := by
 go_enter Tryz.func94, Tryz.ntmps94
 go_wp2_with (first
  | (go_at_call 91; refine (rflags_any _ _ _ _ _ (by omega) (by omega) (by omega) (by omega) (by omega) (by omega)).mono ?_; rintro e w' ⟨rfl, rfl⟩)
  | (go_at_call 140; refine (word_any _ _ (by omega) (by omega)).mono ?_; rintro e w' ⟨rfl, rfl⟩)
  | (go_at_call 146; refine (rb_and _ _ _ (by omega) (by omega) (by omega) (by omega)).mono ?_; rintro e w' ⟨rfl, rfl⟩)
  | (go_at_call 144; refine (half_i _ _ _ (by omega) (by omega) (by omega) (by omega)).mono ?_; rintro e w' ⟨rfl, rfl⟩)
  | (go_at_call 143; refine (double_i _ _ _ (by omega) (by omega) (by omega) (by omega)).mono ?_; rintro e w' ⟨rfl, rfl⟩)
  | (go_at_call 145; refine (turned_i _ _ _ (by omega) (by omega) (by omega) (by omega)).mono ?_; rintro e w' ⟨rfl, rfl⟩)
  | (go_at_call 142; refine (signed_any _ _ (by omega) (by omega)).mono ?_; rintro e w' ⟨rfl, rfl⟩))
 go_ret3
 refine ⟨ret_rk ?_ ?_ ?_, rfl⟩
 all_goals (try rfl)
theorem rrk4_any (a b f : Int) (w : World) (h0 : 0 ≤ a) (g0 : a < 4294967296) (h1 : 0 ≤ b) (g1 : b < 4294967296) (h2 : 0 ≤ f) (g2 : f < 4294967296) :
  Calls Tryz.prog 94 #[.int .i64 4, .int .u32 a, .int .u32 b, .int .u32 f] w fun e w' => e = .returned (.tuple #[.int .u32 (rkv 4 a b f), .int .u32 (rkf 4 a b f), .bool (rko 4 b)]) ∧ w = w' := by
 have bb := bits_lt .and a b h0 g0 h1 g1
 go_enter Tryz.func94, Tryz.ntmps94
 go_wp2_with (first
  | (go_at_call 91; refine (rflags_any _ _ _ _ _ (by omega) (by omega) (by omega) (by omega) (by omega) (by omega)).mono ?_; rintro e w' ⟨rfl, rfl⟩)
  | (go_at_call 140; refine (word_any _ _ (by omega) (by omega)).mono ?_; rintro e w' ⟨rfl, rfl⟩)
  | (go_at_call 146; refine (rb_and _ _ _ (by omega) (by omega) (by omega) (by omega)).mono ?_; rintro e w' ⟨rfl, rfl⟩)
  | (go_at_call 144; refine (half_i _ _ _ (by omega) (by omega) (by omega) (by omega)).mono ?_; rintro e w' ⟨rfl, rfl⟩)
  | (go_at_call 143; refine (double_i _ _ _ (by omega) (by omega) (by omega) (by omega)).mono ?_; rintro e w' ⟨rfl, rfl⟩)
  | (go_at_call 145; refine (turned_i _ _ _ (by omega) (by omega) (by omega) (by omega)).mono ?_; rintro e w' ⟨rfl, rfl⟩)
  | (go_at_call 142; refine (signed_any _ _ (by omega) (by omega)).mono ?_; rintro e w' ⟨rfl, rfl⟩))
 go_ret3
 refine ⟨ret_rk ?_ ?_ ?_, rfl⟩
 all_goals (try rfl)
theorem rrk5_any (a b f : Int) (w : World) (h0 : 0 ≤ a) (g0 : a < 4294967296) (h1 : 0 ≤ b) (g1 : b < 4294967296) (h2 : 0 ≤ f) (g2 : f < 4294967296) :
  Calls Tryz.prog 94 #[.int .i64 5, .int .u32 a, .int .u32 b, .int .u32 f] w fun e w' => e = .returned (.tuple #[.int .u32 (rkv 5 a b f), .int .u32 (rkf 5 a b f), .bool (rko 5 b)]) ∧ w = w' := by
 have bb := bits_lt .or a b h0 g0 h1 g1
 go_enter Tryz.func94, Tryz.ntmps94
 go_wp2_with (first
  | (go_at_call 91; refine (rflags_any _ _ _ _ _ (by omega) (by omega) (by omega) (by omega) (by omega) (by omega)).mono ?_; rintro e w' ⟨rfl, rfl⟩)
  | (go_at_call 140; refine (word_any _ _ (by omega) (by omega)).mono ?_; rintro e w' ⟨rfl, rfl⟩)
  | (go_at_call 146; refine (rb_or _ _ _ (by omega) (by omega) (by omega) (by omega)).mono ?_; rintro e w' ⟨rfl, rfl⟩)
  | (go_at_call 144; refine (half_i _ _ _ (by omega) (by omega) (by omega) (by omega)).mono ?_; rintro e w' ⟨rfl, rfl⟩)
  | (go_at_call 143; refine (double_i _ _ _ (by omega) (by omega) (by omega) (by omega)).mono ?_; rintro e w' ⟨rfl, rfl⟩)
  | (go_at_call 145; refine (turned_i _ _ _ (by omega) (by omega) (by omega) (by omega)).mono ?_; rintro e w' ⟨rfl, rfl⟩)
  | (go_at_call 142; refine (signed_any _ _ (by omega) (by omega)).mono ?_; rintro e w' ⟨rfl, rfl⟩))
 go_ret3
 refine ⟨ret_rk ?_ ?_ ?_, rfl⟩
 all_goals (try rfl)
theorem rrk6_any (a b f : Int) (w : World) (h0 : 0 ≤ a) (g0 : a < 4294967296) (h1 : 0 ≤ b) (g1 : b < 4294967296) (h2 : 0 ≤ f) (g2 : f < 4294967296) :
  Calls Tryz.prog 94 #[.int .i64 6, .int .u32 a, .int .u32 b, .int .u32 f] w fun e w' => e = .returned (.tuple #[.int .u32 (rkv 6 a b f), .int .u32 (rkf 6 a b f), .bool (rko 6 b)]) ∧ w = w' := by
 have bb := bits_lt .xor a b h0 g0 h1 g1
 go_enter Tryz.func94, Tryz.ntmps94
 go_wp2_with (first
  | (go_at_call 91; refine (rflags_any _ _ _ _ _ (by omega) (by omega) (by omega) (by omega) (by omega) (by omega)).mono ?_; rintro e w' ⟨rfl, rfl⟩)
  | (go_at_call 140; refine (word_any _ _ (by omega) (by omega)).mono ?_; rintro e w' ⟨rfl, rfl⟩)
  | (go_at_call 146; refine (rb_xor _ _ _ (by omega) (by omega) (by omega) (by omega)).mono ?_; rintro e w' ⟨rfl, rfl⟩)
  | (go_at_call 144; refine (half_i _ _ _ (by omega) (by omega) (by omega) (by omega)).mono ?_; rintro e w' ⟨rfl, rfl⟩)
  | (go_at_call 143; refine (double_i _ _ _ (by omega) (by omega) (by omega) (by omega)).mono ?_; rintro e w' ⟨rfl, rfl⟩)
  | (go_at_call 145; refine (turned_i _ _ _ (by omega) (by omega) (by omega) (by omega)).mono ?_; rintro e w' ⟨rfl, rfl⟩)
  | (go_at_call 142; refine (signed_any _ _ (by omega) (by omega)).mono ?_; rintro e w' ⟨rfl, rfl⟩))
 go_ret3
 refine ⟨ret_rk ?_ ?_ ?_, rfl⟩
 all_goals (try rfl)
theorem rrk7_any (a b f : Int) (w : World) (h0 : 0 ≤ a) (g0 : a < 4294967296) (h1 : 0 ≤ b) (g1 : b < 4294967296) (h2 : 0 ≤ f) (g2 : f < 4294967296) :
  Calls Tryz.prog 94 #[.int .i64 7, .int .u32 a, .int .u32 b, .int .u32 f] w fun e w' => e = .returned (.tuple #[.int .u32 (rkv 7 a b f), .int .u32 (rkf 7 a b f), .bool (rko 7 b)]) ∧ w = w' := by
 go_enter Tryz.func94, Tryz.ntmps94
 go_wp2_with (first
  | (go_at_call 91; refine (rflags_any _ _ _ _ _ (by omega) (by omega) (by omega) (by omega) (by omega) (by omega)).mono ?_; rintro e w' ⟨rfl, rfl⟩)
  | (go_at_call 140; refine (word_any _ _ (by omega) (by omega)).mono ?_; rintro e w' ⟨rfl, rfl⟩)
  | (go_at_call 146; refine (rb_and _ _ _ (by omega) (by omega) (by omega) (by omega)).mono ?_; rintro e w' ⟨rfl, rfl⟩)
  | (go_at_call 144; refine (half_i _ _ _ (by omega) (by omega) (by omega) (by omega)).mono ?_; rintro e w' ⟨rfl, rfl⟩)
  | (go_at_call 143; refine (double_i _ _ _ (by omega) (by omega) (by omega) (by omega)).mono ?_; rintro e w' ⟨rfl, rfl⟩)
  | (go_at_call 145; refine (turned_i _ _ _ (by omega) (by omega) (by omega) (by omega)).mono ?_; rintro e w' ⟨rfl, rfl⟩)
  | (go_at_call 142; refine (signed_any _ _ (by omega) (by omega)).mono ?_; rintro e w' ⟨rfl, rfl⟩))
 go_ret3
 refine ⟨ret_rk ?_ ?_ ?_, rfl⟩
 all_goals (try rfl)
theorem rrk8_any (a b f : Int) (w : World) (h0 : 0 ≤ a) (g0 : a < 4294967296) (h1 : 0 ≤ b) (g1 : b < 4294967296) (h2 : 0 ≤ f) (g2 : f < 4294967296) :
  Calls Tryz.prog 94 #[.int .i64 8, .int .u32 a, .int .u32 b, .int .u32 f] w fun e w' => e = .returned (.tuple #[.int .u32 (rkv 8 a b f), .int .u32 (rkf 8 a b f), .bool (rko 8 b)]) ∧ w = w' := by
 have bb := bits_lt .and a b h0 g0 h1 g1
 go_enter Tryz.func94, Tryz.ntmps94
 go_wp2_with (first
  | (go_at_call 91; refine (rflags_any _ _ _ _ _ (by omega) (by omega) (by omega) (by omega) (by omega) (by omega)).mono ?_; rintro e w' ⟨rfl, rfl⟩)
  | (go_at_call 140; refine (word_any _ _ (by omega) (by omega)).mono ?_; rintro e w' ⟨rfl, rfl⟩)
  | (go_at_call 146; refine (rb_and _ _ _ (by omega) (by omega) (by omega) (by omega)).mono ?_; rintro e w' ⟨rfl, rfl⟩)
  | (go_at_call 144; refine (half_i _ _ _ (by omega) (by omega) (by omega) (by omega)).mono ?_; rintro e w' ⟨rfl, rfl⟩)
  | (go_at_call 143; refine (double_i _ _ _ (by omega) (by omega) (by omega) (by omega)).mono ?_; rintro e w' ⟨rfl, rfl⟩)
  | (go_at_call 145; refine (turned_i _ _ _ (by omega) (by omega) (by omega) (by omega)).mono ?_; rintro e w' ⟨rfl, rfl⟩)
  | (go_at_call 142; refine (signed_any _ _ (by omega) (by omega)).mono ?_; rintro e w' ⟨rfl, rfl⟩))
 go_ret3
 refine ⟨ret_rk ?_ ?_ ?_, rfl⟩
 all_goals (try rfl)
theorem rrk9_any (a b f : Int) (w : World) (h0 : 0 ≤ a) (g0 : a < 4294967296) (h1 : 0 ≤ b) (g1 : b < 4294967296) (h2 : 0 ≤ f) (g2 : f < 4294967296) :
  Calls Tryz.prog 94 #[.int .i64 9, .int .u32 a, .int .u32 b, .int .u32 f] w fun e w' => e = .returned (.tuple #[.int .u32 (rkv 9 a b f), .int .u32 (rkf 9 a b f), .bool (rko 9 b)]) ∧ w = w' := by
 have d5 := mul_pow_bd a (b % 32).toNat h0 g0 (by omega)
 go_enter Tryz.func94, Tryz.ntmps94
 go_wp2_with (first
  | (go_at_call 91; refine (rflags_any _ _ _ _ _ (by omega) (by omega) (by omega) (by omega) (by omega) (by omega)).mono ?_; rintro e w' ⟨rfl, rfl⟩)
  | (go_at_call 140; refine (word_any _ _ (by omega) (by omega)).mono ?_; rintro e w' ⟨rfl, rfl⟩)
  | (go_at_call 146; refine (rb_and _ _ _ (by omega) (by omega) (by omega) (by omega)).mono ?_; rintro e w' ⟨rfl, rfl⟩)
  | (go_at_call 144; refine (half_i _ _ _ (by omega) (by omega) (by omega) (by omega)).mono ?_; rintro e w' ⟨rfl, rfl⟩)
  | (go_at_call 143; refine (double_i _ _ _ (by omega) (by omega) (by omega) (by omega)).mono ?_; rintro e w' ⟨rfl, rfl⟩)
  | (go_at_call 145; refine (turned_i _ _ _ (by omega) (by omega) (by omega) (by omega)).mono ?_; rintro e w' ⟨rfl, rfl⟩)
  | (go_at_call 142; refine (signed_any _ _ (by omega) (by omega)).mono ?_; rintro e w' ⟨rfl, rfl⟩))
 go_ret3
 refine ⟨ret_rk ?_ ?_ ?_, rfl⟩
 all_goals (try rfl)
theorem rrk10_any (a b f : Int) (w : World) (h0 : 0 ≤ a) (g0 : a < 4294967296) (h1 : 0 ≤ b) (g1 : b < 4294967296) (h2 : 0 ≤ f) (g2 : f < 4294967296) :
  Calls Tryz.prog 94 #[.int .i64 10, .int .u32 a, .int .u32 b, .int .u32 f] w fun e w' => e = .returned (.tuple #[.int .u32 (rkv 10 a b f), .int .u32 (rkf 10 a b f), .bool (rko 10 b)]) ∧ w = w' := by
 have d1 := div_pow_le a (b % 32).toNat h0
 go_enter Tryz.func94, Tryz.ntmps94
 go_wp2_with (first
  | (go_at_call 91; refine (rflags_any _ _ _ _ _ (by omega) (by omega) (by omega) (by omega) (by omega) (by omega)).mono ?_; rintro e w' ⟨rfl, rfl⟩)
  | (go_at_call 140; refine (word_any _ _ (by omega) (by omega)).mono ?_; rintro e w' ⟨rfl, rfl⟩)
  | (go_at_call 146; refine (rb_and _ _ _ (by omega) (by omega) (by omega) (by omega)).mono ?_; rintro e w' ⟨rfl, rfl⟩)
  | (go_at_call 144; refine (half_i _ _ _ (by omega) (by omega) (by omega) (by omega)).mono ?_; rintro e w' ⟨rfl, rfl⟩)
  | (go_at_call 143; refine (double_i _ _ _ (by omega) (by omega) (by omega) (by omega)).mono ?_; rintro e w' ⟨rfl, rfl⟩)
  | (go_at_call 145; refine (turned_i _ _ _ (by omega) (by omega) (by omega) (by omega)).mono ?_; rintro e w' ⟨rfl, rfl⟩)
  | (go_at_call 142; refine (signed_any _ _ (by omega) (by omega)).mono ?_; rintro e w' ⟨rfl, rfl⟩))
 go_ret3
 refine ⟨ret_rk ?_ ?_ ?_, rfl⟩
 all_goals (try rfl)
theorem rrk11_any (a b f : Int) (w : World) (h0 : 0 ≤ a) (g0 : a < 4294967296) (h1 : 0 ≤ b) (g1 : b < 4294967296) (h2 : 0 ≤ f) (g2 : f < 4294967296) :
  Calls Tryz.prog 94 #[.int .i64 11, .int .u32 a, .int .u32 b, .int .u32 f] w fun e w' => e = .returned (.tuple #[.int .u32 (rkv 11 a b f), .int .u32 (rkf 11 a b f), .bool (rko 11 b)]) ∧ w = w' := by
 have sa : -2147483648 ≤ sg a ∧ sg a < 2147483648 := by unfold sg; split <;> omega
 have sa1 := sa.1
 have sa2 := sa.2
 clear sa
 have d6 := div_pow_bd (sg a) (b % 32).toNat (by omega) (by omega)
 go_enter Tryz.func94, Tryz.ntmps94
 go_wp2_with (first
  | (go_at_call 91; refine (rflags_any _ _ _ _ _ (by omega) (by omega) (by omega) (by omega) (by omega) (by omega)).mono ?_; rintro e w' ⟨rfl, rfl⟩)
  | (go_at_call 140; refine (word_any _ _ (by omega) (by omega)).mono ?_; rintro e w' ⟨rfl, rfl⟩)
  | (go_at_call 146; refine (rb_and _ _ _ (by omega) (by omega) (by omega) (by omega)).mono ?_; rintro e w' ⟨rfl, rfl⟩)
  | (go_at_call 144; refine (half_i _ _ _ (by omega) (by omega) (by omega) (by omega)).mono ?_; rintro e w' ⟨rfl, rfl⟩)
  | (go_at_call 143; refine (double_i _ _ _ (by omega) (by omega) (by omega) (by omega)).mono ?_; rintro e w' ⟨rfl, rfl⟩)
  | (go_at_call 145; refine (turned_i _ _ _ (by omega) (by omega) (by omega) (by omega)).mono ?_; rintro e w' ⟨rfl, rfl⟩)
  | (go_at_call 142; refine (signed_any _ _ (by omega) (by omega)).mono ?_; rintro e w' ⟨rfl, rfl⟩))
 go_ret3
 refine ⟨ret_rk ?_ ?_ ?_, rfl⟩
 all_goals (try rfl)
theorem rrk12_any (a b f : Int) (w : World) (h0 : 0 ≤ a) (g0 : a < 4294967296) (h1 : 0 ≤ b) (g1 : b < 4294967296) (h2 : 0 ≤ f) (g2 : f < 4294967296) :
  Calls Tryz.prog 94 #[.int .i64 12, .int .u32 a, .int .u32 b, .int .u32 f] w fun e w' => e = .returned (.tuple #[.int .u32 (rkv 12 a b f), .int .u32 (rkf 12 a b f), .bool (rko 12 b)]) ∧ w = w' := by
 have d4 := rol_lt a (b % 32).toNat (by omega) h0 g0
 go_enter Tryz.func94, Tryz.ntmps94
 go_wp2_with (first
  | (go_at_call 91; refine (rflags_any _ _ _ _ _ (by omega) (by omega) (by omega) (by omega) (by omega) (by omega)).mono ?_; rintro e w' ⟨rfl, rfl⟩)
  | (go_at_call 140; refine (word_any _ _ (by omega) (by omega)).mono ?_; rintro e w' ⟨rfl, rfl⟩)
  | (go_at_call 146; refine (rb_and _ _ _ (by omega) (by omega) (by omega) (by omega)).mono ?_; rintro e w' ⟨rfl, rfl⟩)
  | (go_at_call 144; refine (half_i _ _ _ (by omega) (by omega) (by omega) (by omega)).mono ?_; rintro e w' ⟨rfl, rfl⟩)
  | (go_at_call 143; refine (double_i _ _ _ (by omega) (by omega) (by omega) (by omega)).mono ?_; rintro e w' ⟨rfl, rfl⟩)
  | (go_at_call 145; refine (turned_i _ _ _ (by omega) (by omega) (by omega) (by omega)).mono ?_; rintro e w' ⟨rfl, rfl⟩)
  | (go_at_call 142; refine (signed_any _ _ (by omega) (by omega)).mono ?_; rintro e w' ⟨rfl, rfl⟩))
 go_ret3
 refine ⟨ret_rk ?_ ?_ ?_, rfl⟩
 all_goals (try rfl)
theorem rrk13_any (a b f : Int) (w : World) (h0 : 0 ≤ a) (g0 : a < 4294967296) (h1 : 0 ≤ b) (g1 : b < 4294967296) (h2 : 0 ≤ f) (g2 : f < 4294967296) :
  Calls Tryz.prog 94 #[.int .i64 13, .int .u32 a, .int .u32 b, .int .u32 f] w fun e w' => e = .returned (.tuple #[.int .u32 (rkv 13 a b f), .int .u32 (rkf 13 a b f), .bool (rko 13 b)]) ∧ w = w' := by
 have hm : 0 ≤ a * b := Int.mul_nonneg h0 h1
 have hm' : a * b < 18446744065119617026 := by
  have h : a * b ≤ 4294967295 * 4294967295 := Int.mul_le_mul (by omega) (by omega) h1 (by omega)
  omega
 go_enter Tryz.func94, Tryz.ntmps94
 go_wp2_with (first
  | (go_at_call 91; refine (rflags_any _ _ _ _ _ (by omega) (by omega) (by omega) (by omega) (by omega) (by omega)).mono ?_; rintro e w' ⟨rfl, rfl⟩)
  | (go_at_call 140; refine (word_any _ _ (by omega) (by omega)).mono ?_; rintro e w' ⟨rfl, rfl⟩)
  | (go_at_call 146; refine (rb_and _ _ _ (by omega) (by omega) (by omega) (by omega)).mono ?_; rintro e w' ⟨rfl, rfl⟩)
  | (go_at_call 144; refine (half_i _ _ _ (by omega) (by omega) (by omega) (by omega)).mono ?_; rintro e w' ⟨rfl, rfl⟩)
  | (go_at_call 143; refine (double_i _ _ _ (by omega) (by omega) (by omega) (by omega)).mono ?_; rintro e w' ⟨rfl, rfl⟩)
  | (go_at_call 145; refine (turned_i _ _ _ (by omega) (by omega) (by omega) (by omega)).mono ?_; rintro e w' ⟨rfl, rfl⟩)
  | (go_at_call 142; refine (signed_any _ _ (by omega) (by omega)).mono ?_; rintro e w' ⟨rfl, rfl⟩))
 go_ret3
 refine ⟨ret_rk ?_ ?_ ?_, rfl⟩
 all_goals (try rfl)
theorem rrk14_any (a b f : Int) (w : World) (h0 : 0 ≤ a) (g0 : a < 4294967296) (h1 : 0 ≤ b) (g1 : b < 4294967296) (h2 : 0 ≤ f) (g2 : f < 4294967296) (hb : 1 ≤ b) :
  Calls Tryz.prog 94 #[.int .i64 14, .int .u32 a, .int .u32 b, .int .u32 f] w fun e w' => e = .returned (.tuple #[.int .u32 (rkv 14 a b f), .int .u32 (rkf 14 a b f), .bool (rko 14 b)]) ∧ w = w' := by
 have bb : 0 ≤ a / b ∧ a / b ≤ a := ⟨Int.ediv_nonneg h0 h1, Int.ediv_le_self _ h0⟩
 go_enter Tryz.func94, Tryz.ntmps94
 go_wp2_with (first
  | (go_at_call 91; refine (rflags_any _ _ _ _ _ (by omega) (by omega) (by omega) (by omega) (by omega) (by omega)).mono ?_; rintro e w' ⟨rfl, rfl⟩)
  | (go_at_call 140; refine (word_any _ _ (by omega) (by omega)).mono ?_; rintro e w' ⟨rfl, rfl⟩)
  | (go_at_call 146; refine (rb_and _ _ _ (by omega) (by omega) (by omega) (by omega)).mono ?_; rintro e w' ⟨rfl, rfl⟩)
  | (go_at_call 144; refine (half_i _ _ _ (by omega) (by omega) (by omega) (by omega)).mono ?_; rintro e w' ⟨rfl, rfl⟩)
  | (go_at_call 143; refine (double_i _ _ _ (by omega) (by omega) (by omega) (by omega)).mono ?_; rintro e w' ⟨rfl, rfl⟩)
  | (go_at_call 145; refine (turned_i _ _ _ (by omega) (by omega) (by omega) (by omega)).mono ?_; rintro e w' ⟨rfl, rfl⟩)
  | (go_at_call 142; refine (signed_any _ _ (by omega) (by omega)).mono ?_; rintro e w' ⟨rfl, rfl⟩))
 go_ret3
 refine ⟨ret_rk ?_ ?_ ?_, rfl⟩
 all_goals (try rfl)
 ·show a / b = if b = 0 then 0 else a / b
  rw [if_neg (by omega)]
 ·show zn (a / b) = if b = 0 then 0 else zn (a / b)
  rw [if_neg (by omega)]
 ·show true = !(decide (b = 0))
  rw [decide_eq_false (by omega)]; rfl
theorem rrk15_any (a b f : Int) (w : World) (h0 : 0 ≤ a) (g0 : a < 4294967296) (h1 : 0 ≤ b) (g1 : b < 4294967296) (h2 : 0 ≤ f) (g2 : f < 4294967296) (hb : 1 ≤ b) :
  Calls Tryz.prog 94 #[.int .i64 15, .int .u32 a, .int .u32 b, .int .u32 f] w fun e w' => e = .returned (.tuple #[.int .u32 (rkv 15 a b f), .int .u32 (rkf 15 a b f), .bool (rko 15 b)]) ∧ w = w' := by
 have bb : 0 ≤ a % b ∧ a % b < b := ⟨Int.emod_nonneg _ (by omega), Int.emod_lt_of_pos _ (by omega)⟩
 go_enter Tryz.func94, Tryz.ntmps94
 go_wp2_with (first
  | (go_at_call 91; refine (rflags_any _ _ _ _ _ (by omega) (by omega) (by omega) (by omega) (by omega) (by omega)).mono ?_; rintro e w' ⟨rfl, rfl⟩)
  | (go_at_call 140; refine (word_any _ _ (by omega) (by omega)).mono ?_; rintro e w' ⟨rfl, rfl⟩)
  | (go_at_call 146; refine (rb_and _ _ _ (by omega) (by omega) (by omega) (by omega)).mono ?_; rintro e w' ⟨rfl, rfl⟩)
  | (go_at_call 144; refine (half_i _ _ _ (by omega) (by omega) (by omega) (by omega)).mono ?_; rintro e w' ⟨rfl, rfl⟩)
  | (go_at_call 143; refine (double_i _ _ _ (by omega) (by omega) (by omega) (by omega)).mono ?_; rintro e w' ⟨rfl, rfl⟩)
  | (go_at_call 145; refine (turned_i _ _ _ (by omega) (by omega) (by omega) (by omega)).mono ?_; rintro e w' ⟨rfl, rfl⟩)
  | (go_at_call 142; refine (signed_any _ _ (by omega) (by omega)).mono ?_; rintro e w' ⟨rfl, rfl⟩))
 go_ret3
 refine ⟨ret_rk ?_ ?_ ?_, rfl⟩
 all_goals (try rfl)
 ·show a % b = if b = 0 then 0 else a % b
  rw [if_neg (by omega)]
 ·show zn (a % b) = if b = 0 then 0 else zn (a % b)
  rw [if_neg (by omega)]
 ·show true = !(decide (b = 0))
  rw [decide_eq_false (by omega)]; rfl
theorem rrkbad_any (o : Int) (h : o < 0 ∨ 15 < o) (a b f : Int) (w : World) (h0 : 0 ≤ a) (g0 : a < 4294967296) (h1 : 0 ≤ b) (g1 : b < 4294967296) (h2 : 0 ≤ f) (g2 : f < 4294967296) :
  Calls Tryz.prog 94 #[.int .i64 o, .int .u32 a, .int .u32 b, .int .u32 f] w fun e w' => e = .returned (.tuple #[.int .u32 (rkv o a b f), .int .u32 (rkf o a b f), .bool (rko o b)]) ∧ w = w' := by
 have H := κ (rk_bad o a b f h)
 have k14 : (o != 14) = true := by rw [bne_iff_ne]; omega
 have k15 : (o != 15) = true := by rw [bne_iff_ne]; omega
 rcases h with h | h
 all_goals
  go_enter Tryz.func94, Tryz.ntmps94
  go_wp2_with fail
  go_ret3
  exact ⟨by rw [H.out.1, H.out.2.1, H.out.2.2]; rfl, rfl⟩
theorem rrkzero_any (o : Int) (h : o = 14 ∨ o = 15) (a f : Int) (w : World) (h0 : 0 ≤ a) (g0 : a < 4294967296) (h2 : 0 ≤ f) (g2 : f < 4294967296) :
  Calls Tryz.prog 94 #[.int .i64 o, .int .u32 a, .int .u32 0, .int .u32 f] w fun e w' => e = .returned (.tuple #[.int .u32 (rkv o a 0 f), .int .u32 (rkf o a 0 f), .bool (rko o 0)]) ∧ w = w' := by
 have H := κ (rk_zero o a f h)
 rcases h with rfl | rfl
 all_goals
  go_enter Tryz.func94, Tryz.ntmps94
  go_wp2_with fail
  go_ret3
  exact ⟨by rw [H.out.1, H.out.2.1, H.out.2.2]; rfl, rfl⟩
theorem rreckon_any (o : Int) (a b f : Int) (w : World) (h0 : 0 ≤ a) (g0 : a < 4294967296) (h1 : 0 ≤ b) (g1 : b < 4294967296) (h2 : 0 ≤ f) (g2 : f < 4294967296) :
  Calls Tryz.prog 94 #[.int .i64 o, .int .u32 a, .int .u32 b, .int .u32 f] w fun e w' => e = .returned (.tuple #[.int .u32 (rkv o a b f), .int .u32 (rkf o a b f), .bool (rko o b)]) ∧ w = w' := by
 by_cases hb : o < 0 ∨ 15 < o
 ·exact rrkbad_any o hb a b f w h0 g0 h1 g1 h2 g2
 by_cases hz : b = 0
 ·by_cases ho : o = 14 ∨ o = 15
  ·subst hz; exact rrkzero_any o ho a f w h0 g0 h2 g2
  ·rcases (show o = 0 ∨ o = 1 ∨ o = 2 ∨ o = 3 ∨ o = 4 ∨ o = 5 ∨ o = 6 ∨ o = 7 ∨ o = 8 ∨ o = 9 ∨ o = 10 ∨ o = 11 ∨ o = 12 ∨ o = 13 by omega) with rfl | rfl | rfl | rfl | rfl | rfl | rfl | rfl | rfl | rfl | rfl | rfl | rfl | rfl
   ·exact rrk0_any a b f w h0 g0 h1 g1 h2 g2
   ·exact rrk1_any a b f w h0 g0 h1 g1 h2 g2
   ·exact rrk2_any a b f w h0 g0 h1 g1 h2 g2
   ·exact rrk3_any a b f w h0 g0 h1 g1 h2 g2
   ·exact rrk4_any a b f w h0 g0 h1 g1 h2 g2
   ·exact rrk5_any a b f w h0 g0 h1 g1 h2 g2
   ·exact rrk6_any a b f w h0 g0 h1 g1 h2 g2
   ·exact rrk7_any a b f w h0 g0 h1 g1 h2 g2
   ·exact rrk8_any a b f w h0 g0 h1 g1 h2 g2
   ·exact rrk9_any a b f w h0 g0 h1 g1 h2 g2
   ·exact rrk10_any a b f w h0 g0 h1 g1 h2 g2
   ·exact rrk11_any a b f w h0 g0 h1 g1 h2 g2
   ·exact rrk12_any a b f w h0 g0 h1 g1 h2 g2
   ·exact rrk13_any a b f w h0 g0 h1 g1 h2 g2
 ·rcases (show o = 0 ∨ o = 1 ∨ o = 2 ∨ o = 3 ∨ o = 4 ∨ o = 5 ∨ o = 6 ∨ o = 7 ∨ o = 8 ∨ o = 9 ∨ o = 10 ∨ o = 11 ∨ o = 12 ∨ o = 13 ∨ o = 14 ∨ o = 15 by omega) with rfl | rfl | rfl | rfl | rfl | rfl | rfl | rfl | rfl | rfl | rfl | rfl | rfl | rfl | rfl | rfl
  ·exact rrk0_any a b f w h0 g0 h1 g1 h2 g2
  ·exact rrk1_any a b f w h0 g0 h1 g1 h2 g2
  ·exact rrk2_any a b f w h0 g0 h1 g1 h2 g2
  ·exact rrk3_any a b f w h0 g0 h1 g1 h2 g2
  ·exact rrk4_any a b f w h0 g0 h1 g1 h2 g2
  ·exact rrk5_any a b f w h0 g0 h1 g1 h2 g2
  ·exact rrk6_any a b f w h0 g0 h1 g1 h2 g2
  ·exact rrk7_any a b f w h0 g0 h1 g1 h2 g2
  ·exact rrk8_any a b f w h0 g0 h1 g1 h2 g2
  ·exact rrk9_any a b f w h0 g0 h1 g1 h2 g2
  ·exact rrk10_any a b f w h0 g0 h1 g1 h2 g2
  ·exact rrk11_any a b f w h0 g0 h1 g1 h2 g2
  ·exact rrk12_any a b f w h0 g0 h1 g1 h2 g2
  ·exact rrk13_any a b f w h0 g0 h1 g1 h2 g2
  ·exact rrk14_any a b f w h0 g0 h1 g1 h2 g2 (by omega)
  ·exact rrk15_any a b f w h0 g0 h1 g1 h2 g2 (by omega)
end Go.Proofs.YtcjcmnnhmajocabGreat.Fl
namespace Go.Proofs.YtcjcmnnhmajocabGreat.Ev
open Go.RowKit Kt Me Fl
theorem ret_u32 {a b : Int} (h : a = b) : Ending.returned (.int .u32 a) = .returned (.int .u32 b) := by rw [h]
theorem is3_any (b : Bool) (w : World) : Calls Tryz.prog 152 #[.bool b] w fun e w' => e = .returned (.int .u32 (if b then 1 else 0)) ∧ w = w' := by
 cases b
 all_goals go_enter Tryz.func152, Tryz.ntmps152
 all_goals go_wp2
 all_goals go_ret
 all_goals exact ⟨rfl, rfl⟩
theorem signed3_any (x : Int) (w : World) (h : 0 ≤ x) (g : x < 4294967296) : Calls Tryz.prog 187 #[.int .u32 x] w fun e w' => e = .returned (.int .i64 (sg x)) ∧ w = w' := by
 by_cases hx : 2147483648 ≤ x
 ·have es : sg x = x - 4294967296 := by unfold sg; rw [if_pos hx]
  rw [es]
  clear es
  go_enter Tryz.func187, Tryz.ntmps187
  go_wp2
  go_ret
  exact ⟨rfl, rfl⟩
 ·have es : sg x = x := by unfold sg; rw [if_neg hx]
  rw [es]
  clear es
  go_enter Tryz.func187, Tryz.ntmps187
  go_wp2
  go_ret
  exact ⟨rfl, rfl⟩
end Go.Proofs.YtcjcmnnhmajocabGreat.Ev
