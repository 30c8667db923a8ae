/- What OpUn does, ir's and the reference's; the reference's OpBin. -/
import Derived.Test.YtcjcmnnhmajocabGreatPlaj
import Derived.Test.YtcjcmnnhmajocabGreatPlak
set_option linter.unusedVariables false
set_option linter.unusedSimpArgs false
set_option maxRecDepth 100000
set_option maxHeartbeats 16000000
namespace Go.Proofs.YtcjcmnnhmajocabGreat.Ev
open Go.RowKit Kt Me Fl
theorem run_0 (a : Int) (w : World) (h0 : 0 ≤ a) (g0 : a < 4294967296) :
  Calls Tryz.prog 150 #[.int .i64 0, .int .u32 a] w fun e w' => e = .returned (.int .u32 (unV 0 a)) ∧ w = w' := by
 go_enter Tryz.func150, Tryz.ntmps150
 go_wp2_with (go_at_call 152; (with_reducible refine (is3_any _ _).mono ?_); rintro e w' ⟨rfl, rfl⟩)
 go_ret
 exact ⟨rfl, rfl⟩
theorem run_1 (a : Int) (w : World) (h0 : 0 ≤ a) (g0 : a < 4294967296) :
  Calls Tryz.prog 150 #[.int .i64 1, .int .u32 a] w fun e w' => e = .returned (.int .u32 (unV 1 a)) ∧ w = w' := by
 go_enter Tryz.func150, Tryz.ntmps150
 go_wp2_with (go_at_call 152; (with_reducible refine (is3_any _ _).mono ?_); rintro e w' ⟨rfl, rfl⟩)
 go_ret
 first | exact ⟨rfl, rfl⟩ | exact ⟨ret_u32 (by show _ = (-a) % 4294967296; omega), rfl⟩
theorem run_2 (a : Int) (w : World) (h0 : 0 ≤ a) (g0 : a < 4294967296) :
  Calls Tryz.prog 150 #[.int .i64 2, .int .u32 a] w fun e w' => e = .returned (.int .u32 (unV 2 a)) ∧ w = w' := by
 by_cases hx : 128 ≤ a % 256
 ·have e : unV 2 a = a % 256 + 4294967040 := by show (if 128 ≤ a % 256 then a % 256 + 4294967040 else a % 256) = _; rw [if_pos hx]
  rw [e]
  clear e
  go_enter Tryz.func150, Tryz.ntmps150
  go_wp2_with (go_at_call 152; (with_reducible refine (is3_any _ _).mono ?_); rintro e w' ⟨rfl, rfl⟩)
  go_ret
  first | exact ⟨rfl, rfl⟩ | exact ⟨ret_u32 (by simp), rfl⟩
 ·have e : unV 2 a = a % 256 := by show (if 128 ≤ a % 256 then a % 256 + 4294967040 else a % 256) = _; rw [if_neg hx]
  rw [e]
  clear e
  go_enter Tryz.func150, Tryz.ntmps150
  go_wp2_with (go_at_call 152; (with_reducible refine (is3_any _ _).mono ?_); rintro e w' ⟨rfl, rfl⟩)
  go_ret
  first | exact ⟨rfl, rfl⟩ | exact ⟨ret_u32 (by simp), rfl⟩
theorem run_3 (a : Int) (w : World) (h0 : 0 ≤ a) (g0 : a < 4294967296) :
  Calls Tryz.prog 150 #[.int .i64 3, .int .u32 a] w fun e w' => e = .returned (.int .u32 (unV 3 a)) ∧ w = w' := by
 by_cases hx : 32768 ≤ a % 65536
 ·have e : unV 3 a = a % 65536 + 4294901760 := by show (if 32768 ≤ a % 65536 then a % 65536 + 4294901760 else a % 65536) = _; rw [if_pos hx]
  rw [e]
  clear e
  go_enter Tryz.func150, Tryz.ntmps150
  go_wp2_with (go_at_call 152; (with_reducible refine (is3_any _ _).mono ?_); rintro e w' ⟨rfl, rfl⟩)
  go_ret
  first | exact ⟨rfl, rfl⟩ | exact ⟨ret_u32 (by simp), rfl⟩
 ·have e : unV 3 a = a % 65536 := by show (if 32768 ≤ a % 65536 then a % 65536 + 4294901760 else a % 65536) = _; rw [if_neg hx]
  rw [e]
  clear e
  go_enter Tryz.func150, Tryz.ntmps150
  go_wp2_with (go_at_call 152; (with_reducible refine (is3_any _ _).mono ?_); rintro e w' ⟨rfl, rfl⟩)
  go_ret
  first | exact ⟨rfl, rfl⟩ | exact ⟨ret_u32 (by simp), rfl⟩
theorem run_4 (a : Int) (w : World) (h0 : 0 ≤ a) (g0 : a < 4294967296) :
  Calls Tryz.prog 150 #[.int .i64 4, .int .u32 a] w fun e w' => e = .returned (.int .u32 (unV 4 a)) ∧ w = w' := by
 go_enter Tryz.func150, Tryz.ntmps150
 go_wp2_with (go_at_call 152; (with_reducible refine (is3_any _ _).mono ?_); rintro e w' ⟨rfl, rfl⟩)
 go_ret
 exact ⟨rfl, rfl⟩
theorem run_5 (a : Int) (w : World) (h0 : 0 ≤ a) (g0 : a < 4294967296) :
  Calls Tryz.prog 150 #[.int .i64 5, .int .u32 a] w fun e w' => e = .returned (.int .u32 (unV 5 a)) ∧ w = w' := by
 go_enter Tryz.func150, Tryz.ntmps150
 go_wp2_with (go_at_call 152; (with_reducible refine (is3_any _ _).mono ?_); rintro e w' ⟨rfl, rfl⟩)
 go_ret
 exact ⟨rfl, rfl⟩
theorem run_6 (a : Int) (w : World) (h0 : 0 ≤ a) (g0 : a < 4294967296) :
  Calls Tryz.prog 150 #[.int .i64 6, .int .u32 a] w fun e w' => e = .returned (.int .u32 (unV 6 a)) ∧ w = w' := by
 by_cases hx : a = 0
 ·have e : unV 6 a = 1 := by show (if a = 0 then 1 else 0) = _; rw [if_pos hx]
  rw [e]
  clear e
  go_enter Tryz.func150, Tryz.ntmps150
  go_wp2_with (go_at_call 152; (with_reducible refine (is3_any _ _).mono ?_); rintro e w' ⟨rfl, rfl⟩)
  go_ret
  first | exact ⟨rfl, rfl⟩ | exact ⟨ret_u32 (by simp), rfl⟩
 ·have e : unV 6 a = 0 := by show (if a = 0 then 1 else 0) = _; rw [if_neg hx]
  rw [e]
  clear e
  go_enter Tryz.func150, Tryz.ntmps150
  go_wp2_with (go_at_call 152; (with_reducible refine (is3_any _ _).mono ?_); rintro e w' ⟨rfl, rfl⟩)
  go_ret
  first | exact ⟨rfl, rfl⟩ | exact ⟨ret_u32 (by simp), rfl⟩
theorem run_any (k a : Int) (w : World) (k0 : 0 ≤ k) (k1 : k < 7) (h0 : 0 ≤ a) (g0 : a < 4294967296) :
  Calls Tryz.prog 150 #[.int .i64 k, .int .u32 a] w fun e w' => e = .returned (.int .u32 (unV k a)) ∧ w = w' := by
 rcases (show k = 0 ∨ k = 1 ∨ k = 2 ∨ k = 3 ∨ k = 4 ∨ k = 5 ∨ k = 6 by omega) with rfl | rfl | rfl | rfl | rfl | rfl | rfl
 ·exact run_0 a w h0 g0
 ·exact run_1 a w h0 g0
 ·exact run_2 a w h0 g0
 ·exact run_3 a w h0 g0
 ·exact run_4 a w h0 g0
 ·exact run_5 a w h0 g0
 ·exact run_6 a w h0 g0
theorem rbin_0 (a b : Int) (w : World) (h0 : 0 ≤ a) (g0 : a < 4294967296) (h1 : 0 ≤ b) (g1 : b < 4294967296) :
  Calls Tryz.prog 151 #[.int .i64 0, .int .u32 a, .int .u32 b] w fun e w' => e = .returned (.int .u32 (binV 0 a b)) ∧ Below w.heap.size w w' := by
 have CK := κ (fun w => rreckon_any 0 a b 0 w h0 g0 h1 g1 (by decide) (by decide))
 go_enter Tryz.func151, Tryz.ntmps151
 go_wp2_with (first
  | (go_at_call 94; (with_reducible refine (CK.out _).mono ?_); rintro e w' ⟨rfl, rfl⟩)
  | (go_at_call 187; (with_reducible refine (signed3_any _ _ (by omega) (by omega)).mono ?_); rintro e w' ⟨rfl, rfl⟩)
  | (go_at_call 152; (with_reducible refine (is3_any _ _).mono ?_); rintro e w' ⟨rfl, rfl⟩))
 go_ret
 first | exact ⟨rfl, ((Below.refl _ _).alloc (Nat.le_refl _) _)⟩ | exact ⟨rfl, ((Below.refl _ _).alloc (Nat.le_refl _) _).drew⟩
theorem rbin_1 (a b : Int) (w : World) (h0 : 0 ≤ a) (g0 : a < 4294967296) (h1 : 0 ≤ b) (g1 : b < 4294967296) :
  Calls Tryz.prog 151 #[.int .i64 1, .int .u32 a, .int .u32 b] w fun e w' => e = .returned (.int .u32 (binV 1 a b)) ∧ Below w.heap.size w w' := by
 have CK := κ (fun w => rreckon_any 2 a b 0 w h0 g0 h1 g1 (by decide) (by decide))
 go_enter Tryz.func151, Tryz.ntmps151
 go_wp2_with (first
  | (go_at_call 94; (with_reducible refine (CK.out _).mono ?_); rintro e w' ⟨rfl, rfl⟩)
  | (go_at_call 187; (with_reducible refine (signed3_any _ _ (by omega) (by omega)).mono ?_); rintro e w' ⟨rfl, rfl⟩)
  | (go_at_call 152; (with_reducible refine (is3_any _ _).mono ?_); rintro e w' ⟨rfl, rfl⟩))
 go_ret
 first | exact ⟨rfl, ((Below.refl _ _).alloc (Nat.le_refl _) _)⟩ | exact ⟨rfl, ((Below.refl _ _).alloc (Nat.le_refl _) _).drew⟩
theorem rbin_2 (a b : Int) (w : World) (h0 : 0 ≤ a) (g0 : a < 4294967296) (h1 : 0 ≤ b) (g1 : b < 4294967296) :
  Calls Tryz.prog 151 #[.int .i64 2, .int .u32 a, .int .u32 b] w fun e w' => e = .returned (.int .u32 (binV 2 a b)) ∧ Below w.heap.size w w' := by
 have CK := κ (fun w => rreckon_any 4 a b 0 w h0 g0 h1 g1 (by decide) (by decide))
 go_enter Tryz.func151, Tryz.ntmps151
 go_wp2_with (first
  | (go_at_call 94; (with_reducible refine (CK.out _).mono ?_); rintro e w' ⟨rfl, rfl⟩)
  | (go_at_call 187; (with_reducible refine (signed3_any _ _ (by omega) (by omega)).mono ?_); rintro e w' ⟨rfl, rfl⟩)
  | (go_at_call 152; (with_reducible refine (is3_any _ _).mono ?_); rintro e w' ⟨rfl, rfl⟩))
 go_ret
 first | exact ⟨rfl, ((Below.refl _ _).alloc (Nat.le_refl _) _)⟩ | exact ⟨rfl, ((Below.refl _ _).alloc (Nat.le_refl _) _).drew⟩
theorem rbin_3 (a b : Int) (w : World) (h0 : 0 ≤ a) (g0 : a < 4294967296) (h1 : 0 ≤ b) (g1 : b < 4294967296) :
  Calls Tryz.prog 151 #[.int .i64 3, .int .u32 a, .int .u32 b] w fun e w' => e = .returned (.int .u32 (binV 3 a b)) ∧ Below w.heap.size w w' := by
 have CK := κ (fun w => rreckon_any 5 a b 0 w h0 g0 h1 g1 (by decide) (by decide))
 go_enter Tryz.func151, Tryz.ntmps151
 go_wp2_with (first
  | (go_at_call 94; (with_reducible refine (CK.out _).mono ?_); rintro e w' ⟨rfl, rfl⟩)
  | (go_at_call 187; (with_reducible refine (signed3_any _ _ (by omega) (by omega)).mono ?_); rintro e w' ⟨rfl, rfl⟩)
  | (go_at_call 152; (with_reducible refine (is3_any _ _).mono ?_); rintro e w' ⟨rfl, rfl⟩))
 go_ret
 first | exact ⟨rfl, ((Below.refl _ _).alloc (Nat.le_refl _) _)⟩ | exact ⟨rfl, ((Below.refl _ _).alloc (Nat.le_refl _) _).drew⟩
theorem rbin_4 (a b : Int) (w : World) (h0 : 0 ≤ a) (g0 : a < 4294967296) (h1 : 0 ≤ b) (g1 : b < 4294967296) :
  Calls Tryz.prog 151 #[.int .i64 4, .int .u32 a, .int .u32 b] w fun e w' => e = .returned (.int .u32 (binV 4 a b)) ∧ Below w.heap.size w w' := by
 have CK := κ (fun w => rreckon_any 6 a b 0 w h0 g0 h1 g1 (by decide) (by decide))
 go_enter Tryz.func151, Tryz.ntmps151
 go_wp2_with (first
  | (go_at_call 94; (with_reducible refine (CK.out _).mono ?_); rintro e w' ⟨rfl, rfl⟩)
  | (go_at_call 187; (with_reducible refine (signed3_any _ _ (by omega) (by omega)).mono ?_); rintro e w' ⟨rfl, rfl⟩)
  | (go_at_call 152; (with_reducible refine (is3_any _ _).mono ?_); rintro e w' ⟨rfl, rfl⟩))
 go_ret
 first | exact ⟨rfl, ((Below.refl _ _).alloc (Nat.le_refl _) _)⟩ | exact ⟨rfl, ((Below.refl _ _).alloc (Nat.le_refl _) _).drew⟩
theorem rbin_5 (a b : Int) (w : World) (h0 : 0 ≤ a) (g0 : a < 4294967296) (h1 : 0 ≤ b) (g1 : b < 4294967296) :
  Calls Tryz.prog 151 #[.int .i64 5, .int .u32 a, .int .u32 b] w fun e w' => e = .returned (.int .u32 (binV 5 a b)) ∧ Below w.heap.size w w' := by
 have CK := κ (fun w => rreckon_any 9 a b 0 w h0 g0 h1 g1 (by decide) (by decide))
 go_enter Tryz.func151, Tryz.ntmps151
 go_wp2_with (first
  | (go_at_call 94; (with_reducible refine (CK.out _).mono ?_); rintro e w' ⟨rfl, rfl⟩)
  | (go_at_call 187; (with_reducible refine (signed3_any _ _ (by omega) (by omega)).mono ?_); rintro e w' ⟨rfl, rfl⟩)
  | (go_at_call 152; (with_reducible refine (is3_any _ _).mono ?_); rintro e w' ⟨rfl, rfl⟩))
 go_ret
 first | exact ⟨rfl, ((Below.refl _ _).alloc (Nat.le_refl _) _)⟩ | exact ⟨rfl, ((Below.refl _ _).alloc (Nat.le_refl _) _).drew⟩
theorem rbin_6 (a b : Int) (w : World) (h0 : 0 ≤ a) (g0 : a < 4294967296) (h1 : 0 ≤ b) (g1 : b < 4294967296) :
  Calls Tryz.prog 151 #[.int .i64 6, .int .u32 a, .int .u32 b] w fun e w' => e = .returned (.int .u32 (binV 6 a b)) ∧ Below w.heap.size w w' := by
 have CK := κ (fun w => rreckon_any 10 a b 0 w h0 g0 h1 g1 (by decide) (by decide))
 go_enter Tryz.func151, Tryz.ntmps151
 go_wp2_with (first
  | (go_at_call 94; (with_reducible refine (CK.out _).mono ?_); rintro e w' ⟨rfl, rfl⟩)
  | (go_at_call 187; (with_reducible refine (signed3_any _ _ (by omega) (by omega)).mono ?_); rintro e w' ⟨rfl, rfl⟩)
  | (go_at_call 152; (with_reducible refine (is3_any _ _).mono ?_); rintro e w' ⟨rfl, rfl⟩))
 go_ret
 first | exact ⟨rfl, ((Below.refl _ _).alloc (Nat.le_refl _) _)⟩ | exact ⟨rfl, ((Below.refl _ _).alloc (Nat.le_refl _) _).drew⟩
theorem rbin_7 (a b : Int) (w : World) (h0 : 0 ≤ a) (g0 : a < 4294967296) (h1 : 0 ≤ b) (g1 : b < 4294967296) :
  Calls Tryz.prog 151 #[.int .i64 7, .int .u32 a, .int .u32 b] w fun e w' => e = .returned (.int .u32 (binV 7 a b)) ∧ Below w.heap.size w w' := by
 have CK := κ (fun w => rreckon_any 11 a b 0 w h0 g0 h1 g1 (by decide) (by decide))
 go_enter Tryz.func151, Tryz.ntmps151
 go_wp2_with (first
  | (go_at_call 94; (with_reducible refine (CK.out _).mono ?_); rintro e w' ⟨rfl, rfl⟩)
  | (go_at_call 187; (with_reducible refine (signed3_any _ _ (by omega) (by omega)).mono ?_); rintro e w' ⟨rfl, rfl⟩)
  | (go_at_call 152; (with_reducible refine (is3_any _ _).mono ?_); rintro e w' ⟨rfl, rfl⟩))
 go_ret
 first | exact ⟨rfl, ((Below.refl _ _).alloc (Nat.le_refl _) _)⟩ | exact ⟨rfl, ((Below.refl _ _).alloc (Nat.le_refl _) _).drew⟩
theorem rbin_8 (a b : Int) (w : World) (h0 : 0 ≤ a) (g0 : a < 4294967296) (h1 : 0 ≤ b) (g1 : b < 4294967296) :
  Calls Tryz.prog 151 #[.int .i64 8, .int .u32 a, .int .u32 b] w fun e w' => e = .returned (.int .u32 (binV 8 a b)) ∧ Below w.heap.size w w' := by
 have CK := κ (fun w => rreckon_any 12 a b 0 w h0 g0 h1 g1 (by decide) (by decide))
 go_enter Tryz.func151, Tryz.ntmps151
 go_wp2_with (first
  | (go_at_call 94; (with_reducible refine (CK.out _).mono ?_); rintro e w' ⟨rfl, rfl⟩)
  | (go_at_call 187; (with_reducible refine (signed3_any _ _ (by omega) (by omega)).mono ?_); rintro e w' ⟨rfl, rfl⟩)
  | (go_at_call 152; (with_reducible refine (is3_any _ _).mono ?_); rintro e w' ⟨rfl, rfl⟩))
 go_ret
 first | exact ⟨rfl, ((Below.refl _ _).alloc (Nat.le_refl _) _)⟩ | exact ⟨rfl, ((Below.refl _ _).alloc (Nat.le_refl _) _).drew⟩
theorem rbin_9 (a b : Int) (w : World) (h0 : 0 ≤ a) (g0 : a < 4294967296) (h1 : 0 ≤ b) (g1 : b < 4294967296) :
  Calls Tryz.prog 151 #[.int .i64 9, .int .u32 a, .int .u32 b] w fun e w' => e = .returned (.int .u32 (binV 9 a b)) ∧ Below w.heap.size w w' := by
 have CK := κ (fun w => rreckon_any 13 a b 0 w h0 g0 h1 g1 (by decide) (by decide))
 go_enter Tryz.func151, Tryz.ntmps151
 go_wp2_with (first
  | (go_at_call 94; (with_reducible refine (CK.out _).mono ?_); rintro e w' ⟨rfl, rfl⟩)
  | (go_at_call 187; (with_reducible refine (signed3_any _ _ (by omega) (by omega)).mono ?_); rintro e w' ⟨rfl, rfl⟩)
  | (go_at_call 152; (with_reducible refine (is3_any _ _).mono ?_); rintro e w' ⟨rfl, rfl⟩))
 go_ret
 first | exact ⟨rfl, ((Below.refl _ _).alloc (Nat.le_refl _) _)⟩ | exact ⟨rfl, ((Below.refl _ _).alloc (Nat.le_refl _) _).drew⟩
theorem rbin_10 (a b : Int) (w : World) (h0 : 0 ≤ a) (g0 : a < 4294967296) (h1 : 0 ≤ b) (g1 : b < 4294967296) :
  Calls Tryz.prog 151 #[.int .i64 10, .int .u32 a, .int .u32 b] w fun e w' => e = .returned (.int .u32 (binV 10 a b)) ∧ Below w.heap.size w w' := by
 have CK := κ (fun w => rreckon_any 0 a b 0 w h0 g0 h1 g1 (by decide) (by decide))
 have h2 : 0 ≤ a * b := Int.mul_nonneg h0 h1
 have h3 : a * b ≤ 4294967295 * 4294967295 := Int.mul_le_mul (by omega) (by omega) h1 (by decide)
 have h4 : a * b < 18446744073709551616 := by omega
 have h5 : a * b % 18446744073709551616 = a * b := by omega
 have h6 : 0 ≤ a * b / 4294967296 := by omega
 have h7 : a * b / 4294967296 < 4294967296 := by omega
 have h8 : a * b / 4294967296 % 4294967296 = a * b / 4294967296 := by omega
 go_enter Tryz.func151, Tryz.ntmps151
 go_wp2_with (first
  | (go_at_call 94; (with_reducible refine (CK.out _).mono ?_); rintro e w' ⟨rfl, rfl⟩)
  | (go_at_call 187; (with_reducible refine (signed3_any _ _ (by omega) (by omega)).mono ?_); rintro e w' ⟨rfl, rfl⟩)
  | (go_at_call 152; (with_reducible refine (is3_any _ _).mono ?_); rintro e w' ⟨rfl, rfl⟩))
 go_ret
 exact ⟨rfl, ((Below.refl _ _).alloc (Nat.le_refl _) _)⟩
theorem rbin_11 (a b : Int) (w : World) (h0 : 0 ≤ a) (g0 : a < 4294967296) (h1 : 0 ≤ b) (g1 : b < 4294967296) :
  Calls Tryz.prog 151 #[.int .i64 11, .int .u32 a, .int .u32 b] w fun e w' => e = .returned (.int .u32 (binV 11 a b)) ∧ Below w.heap.size w w' := by
 have CK := κ (fun w => rreckon_any 0 a b 0 w h0 g0 h1 g1 (by decide) (by decide))
 by_cases hx : b = 0
 ·have e : binV 11 a b = 4294967295 := by show (if b = 0 then 4294967295 else a / b) = _; rw [if_pos hx]
  rw [e]
  clear e
  go_enter Tryz.func151, Tryz.ntmps151
  go_wp2_with (first
   | (go_at_call 94; (with_reducible refine (CK.out _).mono ?_); rintro e w' ⟨rfl, rfl⟩)
   | (go_at_call 187; (with_reducible refine (signed3_any _ _ (by omega) (by omega)).mono ?_); rintro e w' ⟨rfl, rfl⟩)
   | (go_at_call 152; (with_reducible refine (is3_any _ _).mono ?_); rintro e w' ⟨rfl, rfl⟩))
  go_ret
  first | exact ⟨rfl, ((Below.refl _ _).alloc (Nat.le_refl _) _)⟩ | exact ⟨ret_u32 (by simp), ((Below.refl _ _).alloc (Nat.le_refl _) _)⟩
 ·have e : binV 11 a b = a / b := by show (if b = 0 then 4294967295 else a / b) = _; rw [if_neg hx]
  rw [e]
  clear e
  go_enter Tryz.func151, Tryz.ntmps151
  go_wp2_with (first
   | (go_at_call 94; (with_reducible refine (CK.out _).mono ?_); rintro e w' ⟨rfl, rfl⟩)
   | (go_at_call 187; (with_reducible refine (signed3_any _ _ (by omega) (by omega)).mono ?_); rintro e w' ⟨rfl, rfl⟩)
   | (go_at_call 152; (with_reducible refine (is3_any _ _).mono ?_); rintro e w' ⟨rfl, rfl⟩))
  go_ret
  first | exact ⟨rfl, ((Below.refl _ _).alloc (Nat.le_refl _) _)⟩ | exact ⟨ret_u32 (by simp), ((Below.refl _ _).alloc (Nat.le_refl _) _)⟩
theorem rbin_12 (a b : Int) (w : World) (h0 : 0 ≤ a) (g0 : a < 4294967296) (h1 : 0 ≤ b) (g1 : b < 4294967296) :
  Calls Tryz.prog 151 #[.int .i64 12, .int .u32 a, .int .u32 b] w fun e w' => e = .returned (.int .u32 (binV 12 a b)) ∧ Below w.heap.size w w' := by
 have CK := κ (fun w => rreckon_any 0 a b 0 w h0 g0 h1 g1 (by decide) (by decide))
 by_cases hx : b = 0
 ·have e : binV 12 a b = a := by show (if b = 0 then a else a % b) = _; rw [if_pos hx]
  rw [e]
  clear e
  go_enter Tryz.func151, Tryz.ntmps151
  go_wp2_with (first
   | (go_at_call 94; (with_reducible refine (CK.out _).mono ?_); rintro e w' ⟨rfl, rfl⟩)
   | (go_at_call 187; (with_reducible refine (signed3_any _ _ (by omega) (by omega)).mono ?_); rintro e w' ⟨rfl, rfl⟩)
   | (go_at_call 152; (with_reducible refine (is3_any _ _).mono ?_); rintro e w' ⟨rfl, rfl⟩))
  go_ret
  first | exact ⟨rfl, ((Below.refl _ _).alloc (Nat.le_refl _) _)⟩ | exact ⟨ret_u32 (by simp), ((Below.refl _ _).alloc (Nat.le_refl _) _)⟩
 ·have e : binV 12 a b = a % b := by show (if b = 0 then a else a % b) = _; rw [if_neg hx]
  rw [e]
  clear e
  go_enter Tryz.func151, Tryz.ntmps151
  go_wp2_with (first
   | (go_at_call 94; (with_reducible refine (CK.out _).mono ?_); rintro e w' ⟨rfl, rfl⟩)
   | (go_at_call 187; (with_reducible refine (signed3_any _ _ (by omega) (by omega)).mono ?_); rintro e w' ⟨rfl, rfl⟩)
   | (go_at_call 152; (with_reducible refine (is3_any _ _).mono ?_); rintro e w' ⟨rfl, rfl⟩))
  go_ret
  first | exact ⟨rfl, ((Below.refl _ _).alloc (Nat.le_refl _) _)⟩ | exact ⟨ret_u32 (by simp), ((Below.refl _ _).alloc (Nat.le_refl _) _)⟩
theorem rbin_13 (a b : Int) (w : World) (h0 : 0 ≤ a) (g0 : a < 4294967296) (h1 : 0 ≤ b) (g1 : b < 4294967296) :
  Calls Tryz.prog 151 #[.int .i64 13, .int .u32 a, .int .u32 b] w fun e w' => e = .returned (.int .u32 (binV 13 a b)) ∧ Below w.heap.size w w' := by
 have CK := κ (fun w => rreckon_any 0 a b 0 w h0 g0 h1 g1 (by decide) (by decide))
 by_cases hx : a = b
 ·have e : binV 13 a b = 1 := by show (if a = b then 1 else 0) = _; rw [if_pos hx]
  rw [e]
  clear e
  go_enter Tryz.func151, Tryz.ntmps151
  go_wp2_with (first
   | (go_at_call 94; (with_reducible refine (CK.out _).mono ?_); rintro e w' ⟨rfl, rfl⟩)
   | (go_at_call 187; (with_reducible refine (signed3_any _ _ (by omega) (by omega)).mono ?_); rintro e w' ⟨rfl, rfl⟩)
   | (go_at_call 152; (with_reducible refine (is3_any _ _).mono ?_); rintro e w' ⟨rfl, rfl⟩))
  go_ret
  first | exact ⟨rfl, ((Below.refl _ _).alloc (Nat.le_refl _) _)⟩ | exact ⟨ret_u32 (by simp), ((Below.refl _ _).alloc (Nat.le_refl _) _)⟩
 ·have e : binV 13 a b = 0 := by show (if a = b then 1 else 0) = _; rw [if_neg hx]
  rw [e]
  clear e
  go_enter Tryz.func151, Tryz.ntmps151
  go_wp2_with (first
   | (go_at_call 94; (with_reducible refine (CK.out _).mono ?_); rintro e w' ⟨rfl, rfl⟩)
   | (go_at_call 187; (with_reducible refine (signed3_any _ _ (by omega) (by omega)).mono ?_); rintro e w' ⟨rfl, rfl⟩)
   | (go_at_call 152; (with_reducible refine (is3_any _ _).mono ?_); rintro e w' ⟨rfl, rfl⟩))
  go_ret
  first | exact ⟨rfl, ((Below.refl _ _).alloc (Nat.le_refl _) _)⟩ | exact ⟨ret_u32 (by simp), ((Below.refl _ _).alloc (Nat.le_refl _) _)⟩
theorem rbin_14 (a b : Int) (w : World) (h0 : 0 ≤ a) (g0 : a < 4294967296) (h1 : 0 ≤ b) (g1 : b < 4294967296) :
  Calls Tryz.prog 151 #[.int .i64 14, .int .u32 a, .int .u32 b] w fun e w' => e = .returned (.int .u32 (binV 14 a b)) ∧ Below w.heap.size w w' := by
 have CK := κ (fun w => rreckon_any 0 a b 0 w h0 g0 h1 g1 (by decide) (by decide))
 by_cases hx : a < b
 ·have e : binV 14 a b = 1 := by show (if a < b then 1 else 0) = _; rw [if_pos hx]
  rw [e]
  clear e
  go_enter Tryz.func151, Tryz.ntmps151
  go_wp2_with (first
   | (go_at_call 94; (with_reducible refine (CK.out _).mono ?_); rintro e w' ⟨rfl, rfl⟩)
   | (go_at_call 187; (with_reducible refine (signed3_any _ _ (by omega) (by omega)).mono ?_); rintro e w' ⟨rfl, rfl⟩)
   | (go_at_call 152; (with_reducible refine (is3_any _ _).mono ?_); rintro e w' ⟨rfl, rfl⟩))
  go_ret
  first | exact ⟨rfl, ((Below.refl _ _).alloc (Nat.le_refl _) _)⟩ | exact ⟨ret_u32 (by simp), ((Below.refl _ _).alloc (Nat.le_refl _) _)⟩
 ·have e : binV 14 a b = 0 := by show (if a < b then 1 else 0) = _; rw [if_neg hx]
  rw [e]
  clear e
  go_enter Tryz.func151, Tryz.ntmps151
  go_wp2_with (first
   | (go_at_call 94; (with_reducible refine (CK.out _).mono ?_); rintro e w' ⟨rfl, rfl⟩)
   | (go_at_call 187; (with_reducible refine (signed3_any _ _ (by omega) (by omega)).mono ?_); rintro e w' ⟨rfl, rfl⟩)
   | (go_at_call 152; (with_reducible refine (is3_any _ _).mono ?_); rintro e w' ⟨rfl, rfl⟩))
  go_ret
  first | exact ⟨rfl, ((Below.refl _ _).alloc (Nat.le_refl _) _)⟩ | exact ⟨ret_u32 (by simp), ((Below.refl _ _).alloc (Nat.le_refl _) _)⟩
theorem rbin_15 (a b : Int) (w : World) (h0 : 0 ≤ a) (g0 : a < 4294967296) (h1 : 0 ≤ b) (g1 : b < 4294967296) :
  Calls Tryz.prog 151 #[.int .i64 15, .int .u32 a, .int .u32 b] w fun e w' => e = .returned (.int .u32 (binV 15 a b)) ∧ Below w.heap.size w w' := by
 have CK := κ (fun w => rreckon_any 0 a b 0 w h0 g0 h1 g1 (by decide) (by decide))
 by_cases hx : sg a < sg b
 ·have e : binV 15 a b = 1 := by show (if sg a < sg b then 1 else 0) = _; rw [if_pos hx]
  rw [e]
  clear e
  go_enter Tryz.func151, Tryz.ntmps151
  go_wp2_with (first
   | (go_at_call 94; (with_reducible refine (CK.out _).mono ?_); rintro e w' ⟨rfl, rfl⟩)
   | (go_at_call 187; (with_reducible refine (signed3_any _ _ (by omega) (by omega)).mono ?_); rintro e w' ⟨rfl, rfl⟩)
   | (go_at_call 152; (with_reducible refine (is3_any _ _).mono ?_); rintro e w' ⟨rfl, rfl⟩))
  go_ret
  first | exact ⟨rfl, ((Below.refl _ _).alloc (Nat.le_refl _) _)⟩ | exact ⟨ret_u32 (by simp), ((Below.refl _ _).alloc (Nat.le_refl _) _)⟩
 ·have e : binV 15 a b = 0 := by show (if sg a < sg b then 1 else 0) = _; rw [if_neg hx]
  rw [e]
  clear e
  go_enter Tryz.func151, Tryz.ntmps151
  go_wp2_with (first
   | (go_at_call 94; (with_reducible refine (CK.out _).mono ?_); rintro e w' ⟨rfl, rfl⟩)
   | (go_at_call 187; (with_reducible refine (signed3_any _ _ (by omega) (by omega)).mono ?_); rintro e w' ⟨rfl, rfl⟩)
   | (go_at_call 152; (with_reducible refine (is3_any _ _).mono ?_); rintro e w' ⟨rfl, rfl⟩))
  go_ret
  first | exact ⟨rfl, ((Below.refl _ _).alloc (Nat.le_refl _) _)⟩ | exact ⟨ret_u32 (by simp), ((Below.refl _ _).alloc (Nat.le_refl _) _)⟩
theorem rbin_any (k a b : Int) (w : World) (k0 : 0 ≤ k) (k1 : k < 16) (h0 : 0 ≤ a) (g0 : a < 4294967296) (h1 : 0 ≤ b) (g1 : b < 4294967296) :
  Calls Tryz.prog 151 #[.int .i64 k, .int .u32 a, .int .u32 b] w fun e w' => e = .returned (.int .u32 (binV k a b)) ∧ Below w.heap.size w w' := by
 rcases (show k = 0 ∨ k = 1 ∨ k = 2 ∨ k = 3 ∨ k = 4 ∨ k = 5 ∨ k = 6 ∨ k = 7 ∨ k = 8 ∨ k = 9 ∨ k = 10 ∨ k = 11 ∨ k = 12 ∨ k = 13 ∨ k = 14 ∨ k = 15 by omega) with rfl | rfl | rfl | rfl | rfl | rfl | rfl | rfl | rfl | rfl | rfl | rfl | rfl | rfl | rfl | rfl
 ·exact rbin_0 a b w h0 g0 h1 g1
 ·exact rbin_1 a b w h0 g0 h1 g1
 ·exact rbin_2 a b w h0 g0 h1 g1
 ·exact rbin_3 a b w h0 g0 h1 g1
 ·exact rbin_4 a b w h0 g0 h1 g1
 ·exact rbin_5 a b w h0 g0 h1 g1
 ·exact rbin_6 a b w h0 g0 h1 g1
 ·exact rbin_7 a b w h0 g0 h1 g1
 ·exact rbin_8 a b w h0 g0 h1 g1
 ·exact rbin_9 a b w h0 g0 h1 g1
 ·exact rbin_10 a b w h0 g0 h1 g1
 ·exact rbin_11 a b w h0 g0 h1 g1
 ·exact rbin_12 a b w h0 g0 h1 g1
 ·exact rbin_13 a b w h0 g0 h1 g1
 ·exact rbin_14 a b w h0 g0 h1 g1
 ·exact rbin_15 a b w h0 g0 h1 g1
end Go.Proofs.YtcjcmnnhmajocabGreat.Ev
