/- What OpBin and OpUn do: ir's and the reference's. -/
import Derived.RegionTactic
import Derived.BigRegion
import Derived.Test.YtcjcmnnhmajocabPhae
import Derived.Test.YtcjcmnnhmajocabPhai
import Derived.Test.YtcjcmnnhmajocabPhaj
import Derived.Test.YtcjcmnnhmajocabPhak
set_option linter.unusedVariables false
set_option linter.unusedSimpArgs false
set_option maxRecDepth 100000
set_option maxHeartbeats 16000000
namespace Go.Proofs.Ytcjcmnnhmajocab.Ev
open Go.RowKit Kt Me Fl
/-- which of the guest's arithmetic a kind of OpBin is -/
def alu (w : Int) : Int := if w = 0 then 0 else if w = 1 then 2 else if w = 2 then 4 else if w = 3 then 5 else if w = 4 then 6 else if w = 5 then 9 else if w = 6 then 10 else if w = 7 then 11 else if w = 8 then 12 else 13
def binV (w a b : Int) : Int :=
 if w < 10 then rkv (alu w) a b 0
 else if w = 10 then a * b / 4294967296
 else if w = 11 then (if b = 0 then 4294967295 else a / b)
 else if w = 12 then (if b = 0 then a else a % b)
 else if w = 13 then (if a = b then 1 else 0)
 else if w = 14 then (if a < b then 1 else 0)
 else (if sg a < sg b then 1 else 0)
def s8 (a : Int) : Int := if 128 ≤ a % 256 then a % 256 + 4294967040 else a % 256
def s16 (a : Int) : Int := if 32768 ≤ a % 65536 then a % 65536 + 4294901760 else a % 65536
def unV (w a : Int) : Int :=
 if w = 0 then 4294967295 - a
 else if w = 1 then (-a) % 4294967296
 else if w = 2 then s8 a
 else if w = 3 then s16 a
 else if w = 4 then a % 256
 else if w = 5 then a % 65536
 else (if a = 0 then 1 else 0)
/-- what an operation that hangs on what it takes alone gives -/
def valV (k w kn a b c : Int) : Int :=
 if k = 1 then kn
 else if k = 4 then binV w a b
 else if k = 5 then unV w a
 else if k = 6 then (if a = 0 then c else b)
 else if k = 7 then fl w a b c
 else (if hd w a then 1 else 0)
/-- with its sign, if the kind has one -/
def wid (w v : Int) : Int := if w = 1 then s8 v else if w = 3 then s16 v else v
def ldn (w : Int) : Int := if w = 0 then 1 else if w = 1 then 1 else if w = 2 then 2 else if w = 3 then 2 else 4
def stn (w : Int) : Int := if w = 0 then 1 else if w = 1 then 2 else 4
theorem s8_bd (a : Int) : 0 ≤ s8 a ∧ s8 a < 4294967296 := by unfold s8; split <;> omega
theorem s16_bd (a : Int) : 0 ≤ s16 a ∧ s16 a < 4294967296 := by unfold s16; split <;> omega
theorem rkv_bd' (o a b f : Int) (a0 : 0 ≤ a) (a1 : a < 4294967296) (b0 : 0 ≤ b) (b1 : b < 4294967296) (ho : o = 0 ∨ o = 2 ∨ o = 4 ∨ o = 5 ∨ o = 6 ∨ o = 9 ∨ o = 10 ∨ o = 11 ∨ o = 12 ∨ o = 13) : 0 ≤ rkv o a b f ∧ rkv o a b f < 4294967296 := by
 have h1 := bits_lt .and a b a0 a1 b0 b1
 have h2 := bits_lt .or a b a0 a1 b0 b1
 have h3 := bits_lt .xor a b a0 a1 b0 b1
 have h4 := rol_lt a (n5 b) (n5_lt b) a0 a1
 have h5 : 0 ≤ a / 2 ^ n5 b ∧ a / 2 ^ n5 b ≤ a := ⟨Int.ediv_nonneg a0 (Int.le_of_lt (two_pow_pos _)), Int.ediv_le_self _ a0⟩
 have e1 : 0 ≤ a * 2 ^ n5 b % 4294967296 ∧ a * 2 ^ n5 b % 4294967296 < 4294967296 := ⟨Int.emod_nonneg _ (by decide), Int.emod_lt_of_pos _ (by decide)⟩
 have e2 : 0 ≤ sg a / 2 ^ n5 b % 4294967296 ∧ sg a / 2 ^ n5 b % 4294967296 < 4294967296 := ⟨Int.emod_nonneg _ (by decide), Int.emod_lt_of_pos _ (by decide)⟩
 have e3 : 0 ≤ a * b % 4294967296 ∧ a * b % 4294967296 < 4294967296 := ⟨Int.emod_nonneg _ (by decide), Int.emod_lt_of_pos _ (by decide)⟩
 rcases ho with rfl | rfl | rfl | rfl | rfl | rfl | rfl | rfl | rfl | rfl
 ·show 0 ≤ (a + b) % 4294967296 ∧ (a + b) % 4294967296 < 4294967296; omega
 ·show 0 ≤ (a - b) % 4294967296 ∧ (a - b) % 4294967296 < 4294967296; omega
 ·exact h1
 ·exact h2
 ·exact h3
 ·exact e1
 ·exact ⟨h5.1, Int.lt_of_le_of_lt h5.2 a1⟩
 ·exact e2
 ·exact h4
 ·exact e3
theorem binV_bd (w a b : Int) (a0 : 0 ≤ a) (a1 : a < 4294967296) (b0 : 0 ≤ b) (b1 : b < 4294967296) : 0 ≤ binV w a b ∧ binV w a b < 4294967296 := by
 unfold binV
 split
 ·refine rkv_bd' _ _ _ _ a0 a1 b0 b1 ?_
  unfold alu
  repeat' split
  all_goals omega
 ·split
  ·have h0 : 0 ≤ a * b := Int.mul_nonneg a0 b0
   have h1 : a * b ≤ 4294967295 * 4294967295 := Int.mul_le_mul (by omega) (by omega) b0 (by decide)
   omega
  ·split
   ·split
    ·omega
    ·have := Int.ediv_le_self b a0
     exact ⟨Int.ediv_nonneg a0 b0, Int.lt_of_le_of_lt this a1⟩
   ·split
    ·split
     ·omega
     ·next hb => exact ⟨Int.emod_nonneg _ hb, Int.lt_trans (Int.emod_lt_of_pos _ (by omega)) b1⟩
    ·repeat' split
     all_goals omega
theorem unV_bd (w a : Int) (a0 : 0 ≤ a) (a1 : a < 4294967296) : 0 ≤ unV w a ∧ unV w a < 4294967296 := by
 have h1 := s8_bd a
 have h2 := s16_bd a
 unfold unV
 repeat' split
 all_goals omega
theorem valV_bd (k w kn a b c : Int) (k0 : 0 ≤ kn) (k1 : kn < 4294967296) (a0 : 0 ≤ a) (a1 : a < 4294967296) (b0 : 0 ≤ b) (b1 : b < 4294967296) (c0 : 0 ≤ c) (c1 : c < 4294967296) : 0 ≤ valV k w kn a b c ∧ valV k w kn a b c < 4294967296 := by
 have h1 := binV_bd w a b a0 a1 b0 b1
 have h2 := unV_bd w a a0 a1
 have h3 := St.fl_bd w a b c
 unfold valV
 by_cases e : k = 1
 ·rw [if_pos e]; exact ⟨k0, k1⟩
 rw [if_neg e]; clear e
 by_cases e : k = 4
 ·rw [if_pos e]; exact h1
 rw [if_neg e]; clear e
 by_cases e : k = 5
 ·rw [if_pos e]; exact h2
 rw [if_neg e]; clear e
 by_cases e : k = 6
 ·rw [if_pos e]; split <;> omega
 rw [if_neg e]; clear e
 by_cases e : k = 7
 ·rw [if_pos e]; omega
 rw [if_neg e]; clear e
 split <;> omega
theorem wid_bd (w v : Int) (v0 : 0 ≤ v) (v1 : v < 4294967296) : 0 ≤ wid w v ∧ wid w v < 4294967296 := by
 have h1 := s8_bd v
 have h2 := s16_bd v
 unfold wid
 repeat' split
 all_goals omega
end Go.Proofs.Ytcjcmnnhmajocab.Ev
namespace Go.Proofs.Ytcjcmnnhmajocab.Ev
open Go.RowKit Kt Me Fl
theorem ret_u32 {a b : Int} (h : a = b) : Ending.returned (.int .u32 a) = .returned (.int .u32 b) := by rw [h]
theorem truth_any (b : Bool) (w : World) : Calls Try.prog 196 #[.bool b] w fun e w' => e = .returned (.int .u32 (if b then 1 else 0)) ∧ w = w' := by
 cases b
 all_goals go_enter Try.func196, Try.ntmps196
 all_goals go_wp2
 all_goals go_ret
 all_goals exact ⟨rfl, rfl⟩
theorem is3_any (b : Bool) (w : World) : Calls Try.prog 109 #[.bool b] w fun e w' => e = .returned (.int .u32 (if b then 1 else 0)) ∧ w = w' := by
 cases b
 all_goals go_enter Try.func109, Try.ntmps109
 all_goals go_wp2
 all_goals go_ret
 all_goals exact ⟨rfl, rfl⟩
theorem signed3_any (x : Int) (w : World) (h : 0 ≤ x) (g : x < 4294967296) : Calls Try.prog 163 #[.int .u32 x] w fun e w' => e = .returned (.int .i64 (sg x)) ∧ w = w' := by
 by_cases hx : 2147483648 ≤ x
 ·have es : sg x = x - 4294967296 := by unfold sg; rw [if_pos hx]
  rw [es]
  clear es
  go_enter Try.func163, Try.ntmps163
  go_wp2
  go_ret
  exact ⟨rfl, rfl⟩
 ·have es : sg x = x := by unfold sg; rw [if_neg hx]
  rw [es]
  clear es
  go_enter Try.func163, Try.ntmps163
  go_wp2
  go_ret
  exact ⟨rfl, rfl⟩
theorem mul32_any (a b : Int) (w : World) (h0 : 0 ≤ a) (g0 : a < 4294967296) (h1 : 0 ≤ b) (g1 : b < 4294967296) :
  Calls Try.prog 186 #[.int .u32 a, .int .u32 b] w fun e w' => e = .returned (.tuple #[.int .u32 (a * b / 4294967296), .int .u32 (a * b % 4294967296)]) ∧ w = w' := by
 have h2 : 0 ≤ a * b := Int.mul_nonneg h0 h1
 have h3 : a * b ≤ 4294967295 * 4294967295 := Int.mul_le_mul (by omega) (by omega) h1 (by decide)
 have h4 : a * b < 18446744073709551616 := by omega
 have h5 : a * b % 18446744073709551616 = a * b := by omega
 have h6 : 0 ≤ a * b / 4294967296 := by omega
 have h7 : a * b / 4294967296 < 4294967296 := by omega
 have h8 : a * b / 4294967296 % 4294967296 = a * b / 4294967296 := by omega
 go_enter Try.func186, Try.ntmps186
 go_wp2
 go_ret2
 exact ⟨rfl, rfl⟩
theorem bin_0 (a b : Int) (w : World) (h0 : 0 ≤ a) (g0 : a < 4294967296) (h1 : 0 ≤ b) (g1 : b < 4294967296) :
  Calls Try.prog 197 #[.int .i64 0, .int .u32 a, .int .u32 b] w fun e w' => e = .returned (.int .u32 (binV 0 a b)) ∧ w = w' := by
 have e3 := mask31 b h1 g1
 go_enter Try.func197, Try.ntmps197
 go_wp2_with (first
  | (go_at_call 185; (with_reducible refine (rol_any _ _ _ (by omega) (by omega) (by omega) (by omega)).mono ?_); rintro e w' ⟨rfl, rfl⟩)
  | (go_at_call 186; (with_reducible refine (mul32_any _ _ _ (by omega) (by omega) (by omega) (by omega)).mono ?_); rintro e w' ⟨rfl, rfl⟩)
  | (go_at_call 196; (with_reducible refine (truth_any _ _).mono ?_); rintro e w' ⟨rfl, rfl⟩))
 go_ret
 refine ⟨ret_u32 ?_, rfl⟩
 all_goals (try rfl)
theorem bin_1 (a b : Int) (w : World) (h0 : 0 ≤ a) (g0 : a < 4294967296) (h1 : 0 ≤ b) (g1 : b < 4294967296) :
  Calls Try.prog 197 #[.int .i64 1, .int .u32 a, .int .u32 b] w fun e w' => e = .returned (.int .u32 (binV 1 a b)) ∧ w = w' := by
 have e3 := mask31 b h1 g1
 go_enter Try.func197, Try.ntmps197
 go_wp2_with (first
  | (go_at_call 185; (with_reducible refine (rol_any _ _ _ (by omega) (by omega) (by omega) (by omega)).mono ?_); rintro e w' ⟨rfl, rfl⟩)
  | (go_at_call 186; (with_reducible refine (mul32_any _ _ _ (by omega) (by omega) (by omega) (by omega)).mono ?_); rintro e w' ⟨rfl, rfl⟩)
  | (go_at_call 196; (with_reducible refine (truth_any _ _).mono ?_); rintro e w' ⟨rfl, rfl⟩))
 go_ret
 refine ⟨ret_u32 ?_, rfl⟩
 all_goals (try rfl)
theorem bin_2 (a b : Int) (w : World) (h0 : 0 ≤ a) (g0 : a < 4294967296) (h1 : 0 ≤ b) (g1 : b < 4294967296) :
  Calls Try.prog 197 #[.int .i64 2, .int .u32 a, .int .u32 b] w fun e w' => e = .returned (.int .u32 (binV 2 a b)) ∧ w = w' := by
 have e3 := mask31 b h1 g1
 go_enter Try.func197, Try.ntmps197
 go_wp2_with (first
  | (go_at_call 185; (with_reducible refine (rol_any _ _ _ (by omega) (by omega) (by omega) (by omega)).mono ?_); rintro e w' ⟨rfl, rfl⟩)
  | (go_at_call 186; (with_reducible refine (mul32_any _ _ _ (by omega) (by omega) (by omega) (by omega)).mono ?_); rintro e w' ⟨rfl, rfl⟩)
  | (go_at_call 196; (with_reducible refine (truth_any _ _).mono ?_); rintro e w' ⟨rfl, rfl⟩))
 go_ret
 refine ⟨ret_u32 ?_, rfl⟩
 all_goals (try rfl)
theorem bin_3 (a b : Int) (w : World) (h0 : 0 ≤ a) (g0 : a < 4294967296) (h1 : 0 ≤ b) (g1 : b < 4294967296) :
  Calls Try.prog 197 #[.int .i64 3, .int .u32 a, .int .u32 b] w fun e w' => e = .returned (.int .u32 (binV 3 a b)) ∧ w = w' := by
 have e3 := mask31 b h1 g1
 go_enter Try.func197, Try.ntmps197
 go_wp2_with (first
  | (go_at_call 185; (with_reducible refine (rol_any _ _ _ (by omega) (by omega) (by omega) (by omega)).mono ?_); rintro e w' ⟨rfl, rfl⟩)
  | (go_at_call 186; (with_reducible refine (mul32_any _ _ _ (by omega) (by omega) (by omega) (by omega)).mono ?_); rintro e w' ⟨rfl, rfl⟩)
  | (go_at_call 196; (with_reducible refine (truth_any _ _).mono ?_); rintro e w' ⟨rfl, rfl⟩))
 go_ret
 refine ⟨ret_u32 ?_, rfl⟩
 all_goals (try rfl)
theorem bin_4 (a b : Int) (w : World) (h0 : 0 ≤ a) (g0 : a < 4294967296) (h1 : 0 ≤ b) (g1 : b < 4294967296) :
  Calls Try.prog 197 #[.int .i64 4, .int .u32 a, .int .u32 b] w fun e w' => e = .returned (.int .u32 (binV 4 a b)) ∧ w = w' := by
 have e3 := mask31 b h1 g1
 go_enter Try.func197, Try.ntmps197
 go_wp2_with (first
  | (go_at_call 185; (with_reducible refine (rol_any _ _ _ (by omega) (by omega) (by omega) (by omega)).mono ?_); rintro e w' ⟨rfl, rfl⟩)
  | (go_at_call 186; (with_reducible refine (mul32_any _ _ _ (by omega) (by omega) (by omega) (by omega)).mono ?_); rintro e w' ⟨rfl, rfl⟩)
  | (go_at_call 196; (with_reducible refine (truth_any _ _).mono ?_); rintro e w' ⟨rfl, rfl⟩))
 go_ret
 refine ⟨ret_u32 ?_, rfl⟩
 all_goals (try rfl)
theorem bin_5 (a b : Int) (w : World) (h0 : 0 ≤ a) (g0 : a < 4294967296) (h1 : 0 ≤ b) (g1 : b < 4294967296) :
  Calls Try.prog 197 #[.int .i64 5, .int .u32 a, .int .u32 b] w fun e w' => e = .returned (.int .u32 (binV 5 a b)) ∧ w = w' := by
 have e3 := mask31 b h1 g1
 go_enter Try.func197, Try.ntmps197
 go_wp2_with (first
  | (go_at_call 185; (with_reducible refine (rol_any _ _ _ (by omega) (by omega) (by omega) (by omega)).mono ?_); rintro e w' ⟨rfl, rfl⟩)
  | (go_at_call 186; (with_reducible refine (mul32_any _ _ _ (by omega) (by omega) (by omega) (by omega)).mono ?_); rintro e w' ⟨rfl, rfl⟩)
  | (go_at_call 196; (with_reducible refine (truth_any _ _).mono ?_); rintro e w' ⟨rfl, rfl⟩))
 go_ret
 refine ⟨ret_u32 ?_, rfl⟩
 all_goals (try rfl)
theorem bin_6 (a b : Int) (w : World) (h0 : 0 ≤ a) (g0 : a < 4294967296) (h1 : 0 ≤ b) (g1 : b < 4294967296) :
  Calls Try.prog 197 #[.int .i64 6, .int .u32 a, .int .u32 b] w fun e w' => e = .returned (.int .u32 (binV 6 a b)) ∧ w = w' := by
 have e3 := mask31 b h1 g1
 go_enter Try.func197, Try.ntmps197
 go_wp2_with (first
  | (go_at_call 185; (with_reducible refine (rol_any _ _ _ (by omega) (by omega) (by omega) (by omega)).mono ?_); rintro e w' ⟨rfl, rfl⟩)
  | (go_at_call 186; (with_reducible refine (mul32_any _ _ _ (by omega) (by omega) (by omega) (by omega)).mono ?_); rintro e w' ⟨rfl, rfl⟩)
  | (go_at_call 196; (with_reducible refine (truth_any _ _).mono ?_); rintro e w' ⟨rfl, rfl⟩))
 go_ret
 refine ⟨ret_u32 ?_, rfl⟩
 all_goals (try rfl)
theorem bin_7 (a b : Int) (w : World) (h0 : 0 ≤ a) (g0 : a < 4294967296) (h1 : 0 ≤ b) (g1 : b < 4294967296) :
  Calls Try.prog 197 #[.int .i64 7, .int .u32 a, .int .u32 b] w fun e w' => e = .returned (.int .u32 (binV 7 a b)) ∧ w = w' := by
 have e3 := mask31 b h1 g1
 go_enter Try.func197, Try.ntmps197
 go_wp2_with (first
  | (go_at_call 185; (with_reducible refine (rol_any _ _ _ (by omega) (by omega) (by omega) (by omega)).mono ?_); rintro e w' ⟨rfl, rfl⟩)
  | (go_at_call 186; (with_reducible refine (mul32_any _ _ _ (by omega) (by omega) (by omega) (by omega)).mono ?_); rintro e w' ⟨rfl, rfl⟩)
  | (go_at_call 196; (with_reducible refine (truth_any _ _).mono ?_); rintro e w' ⟨rfl, rfl⟩))
 go_ret
 refine ⟨ret_u32 ?_, rfl⟩
 all_goals (rw [wrap32_sg a h0 g0]; rfl)
theorem bin_8 (a b : Int) (w : World) (h0 : 0 ≤ a) (g0 : a < 4294967296) (h1 : 0 ≤ b) (g1 : b < 4294967296) :
  Calls Try.prog 197 #[.int .i64 8, .int .u32 a, .int .u32 b] w fun e w' => e = .returned (.int .u32 (binV 8 a b)) ∧ w = w' := by
 have e3 := mask31 b h1 g1
 go_enter Try.func197, Try.ntmps197
 go_wp2_with (first
  | (go_at_call 185; (with_reducible refine (rol_any _ _ _ (by omega) (by omega) (by omega) (by omega)).mono ?_); rintro e w' ⟨rfl, rfl⟩)
  | (go_at_call 186; (with_reducible refine (mul32_any _ _ _ (by omega) (by omega) (by omega) (by omega)).mono ?_); rintro e w' ⟨rfl, rfl⟩)
  | (go_at_call 196; (with_reducible refine (truth_any _ _).mono ?_); rintro e w' ⟨rfl, rfl⟩))
 go_ret
 refine ⟨ret_u32 ?_, rfl⟩
 all_goals (try rfl)
theorem bin_9 (a b : Int) (w : World) (h0 : 0 ≤ a) (g0 : a < 4294967296) (h1 : 0 ≤ b) (g1 : b < 4294967296) :
  Calls Try.prog 197 #[.int .i64 9, .int .u32 a, .int .u32 b] w fun e w' => e = .returned (.int .u32 (binV 9 a b)) ∧ w = w' := by
 have e3 := mask31 b h1 g1
 go_enter Try.func197, Try.ntmps197
 go_wp2_with (first
  | (go_at_call 185; (with_reducible refine (rol_any _ _ _ (by omega) (by omega) (by omega) (by omega)).mono ?_); rintro e w' ⟨rfl, rfl⟩)
  | (go_at_call 186; (with_reducible refine (mul32_any _ _ _ (by omega) (by omega) (by omega) (by omega)).mono ?_); rintro e w' ⟨rfl, rfl⟩)
  | (go_at_call 196; (with_reducible refine (truth_any _ _).mono ?_); rintro e w' ⟨rfl, rfl⟩))
 go_ret
 refine ⟨ret_u32 ?_, rfl⟩
 all_goals (try rfl)
theorem bin_10 (a b : Int) (w : World) (h0 : 0 ≤ a) (g0 : a < 4294967296) (h1 : 0 ≤ b) (g1 : b < 4294967296) :
  Calls Try.prog 197 #[.int .i64 10, .int .u32 a, .int .u32 b] w fun e w' => e = .returned (.int .u32 (binV 10 a b)) ∧ w = w' := by
 have e3 := mask31 b h1 g1
 go_enter Try.func197, Try.ntmps197
 go_wp2_with (first
  | (go_at_call 185; (with_reducible refine (rol_any _ _ _ (by omega) (by omega) (by omega) (by omega)).mono ?_); rintro e w' ⟨rfl, rfl⟩)
  | (go_at_call 186; (with_reducible refine (mul32_any _ _ _ (by omega) (by omega) (by omega) (by omega)).mono ?_); rintro e w' ⟨rfl, rfl⟩)
  | (go_at_call 196; (with_reducible refine (truth_any _ _).mono ?_); rintro e w' ⟨rfl, rfl⟩))
 go_ret
 refine ⟨ret_u32 ?_, rfl⟩
 all_goals (try rfl)
theorem bin_11 (a b : Int) (w : World) (h0 : 0 ≤ a) (g0 : a < 4294967296) (h1 : 0 ≤ b) (g1 : b < 4294967296) :
  Calls Try.prog 197 #[.int .i64 11, .int .u32 a, .int .u32 b] w fun e w' => e = .returned (.int .u32 (binV 11 a b)) ∧ w = w' := by
 have e3 := mask31 b h1 g1
 by_cases hx : b = 0
 ·have e : binV 11 a b = 4294967295 := by show (if b = 0 then 4294967295 else a / b) = _; rw [if_pos hx]
  rw [e]
  clear e
  go_enter Try.func197, Try.ntmps197
  go_wp2_with (first
    | (go_at_call 185; (with_reducible refine (rol_any _ _ _ (by omega) (by omega) (by omega) (by omega)).mono ?_); rintro e w' ⟨rfl, rfl⟩)
    | (go_at_call 186; (with_reducible refine (mul32_any _ _ _ (by omega) (by omega) (by omega) (by omega)).mono ?_); rintro e w' ⟨rfl, rfl⟩)
    | (go_at_call 196; (with_reducible refine (truth_any _ _).mono ?_); rintro e w' ⟨rfl, rfl⟩))
  go_ret
  first | exact ⟨rfl, rfl⟩ | exact ⟨ret_u32 (by simp), rfl⟩
 ·have e : binV 11 a b = a / b := by show (if b = 0 then 4294967295 else a / b) = _; rw [if_neg hx]
  rw [e]
  clear e
  go_enter Try.func197, Try.ntmps197
  go_wp2_with (first
    | (go_at_call 185; (with_reducible refine (rol_any _ _ _ (by omega) (by omega) (by omega) (by omega)).mono ?_); rintro e w' ⟨rfl, rfl⟩)
    | (go_at_call 186; (with_reducible refine (mul32_any _ _ _ (by omega) (by omega) (by omega) (by omega)).mono ?_); rintro e w' ⟨rfl, rfl⟩)
    | (go_at_call 196; (with_reducible refine (truth_any _ _).mono ?_); rintro e w' ⟨rfl, rfl⟩))
  go_ret
  first | exact ⟨rfl, rfl⟩ | exact ⟨ret_u32 (by simp), rfl⟩
theorem bin_12 (a b : Int) (w : World) (h0 : 0 ≤ a) (g0 : a < 4294967296) (h1 : 0 ≤ b) (g1 : b < 4294967296) :
  Calls Try.prog 197 #[.int .i64 12, .int .u32 a, .int .u32 b] w fun e w' => e = .returned (.int .u32 (binV 12 a b)) ∧ w = w' := by
 have e3 := mask31 b h1 g1
 by_cases hx : b = 0
 ·have e : binV 12 a b = a := by show (if b = 0 then a else a % b) = _; rw [if_pos hx]
  rw [e]
  clear e
  go_enter Try.func197, Try.ntmps197
  go_wp2_with (first
    | (go_at_call 185; (with_reducible refine (rol_any _ _ _ (by omega) (by omega) (by omega) (by omega)).mono ?_); rintro e w' ⟨rfl, rfl⟩)
    | (go_at_call 186; (with_reducible refine (mul32_any _ _ _ (by omega) (by omega) (by omega) (by omega)).mono ?_); rintro e w' ⟨rfl, rfl⟩)
    | (go_at_call 196; (with_reducible refine (truth_any _ _).mono ?_); rintro e w' ⟨rfl, rfl⟩))
  go_ret
  first | exact ⟨rfl, rfl⟩ | exact ⟨ret_u32 (by simp), rfl⟩
 ·have e : binV 12 a b = a % b := by show (if b = 0 then a else a % b) = _; rw [if_neg hx]
  rw [e]
  clear e
  go_enter Try.func197, Try.ntmps197
  go_wp2_with (first
    | (go_at_call 185; (with_reducible refine (rol_any _ _ _ (by omega) (by omega) (by omega) (by omega)).mono ?_); rintro e w' ⟨rfl, rfl⟩)
    | (go_at_call 186; (with_reducible refine (mul32_any _ _ _ (by omega) (by omega) (by omega) (by omega)).mono ?_); rintro e w' ⟨rfl, rfl⟩)
    | (go_at_call 196; (with_reducible refine (truth_any _ _).mono ?_); rintro e w' ⟨rfl, rfl⟩))
  go_ret
  first | exact ⟨rfl, rfl⟩ | exact ⟨ret_u32 (by simp), rfl⟩
theorem bin_13 (a b : Int) (w : World) (h0 : 0 ≤ a) (g0 : a < 4294967296) (h1 : 0 ≤ b) (g1 : b < 4294967296) :
  Calls Try.prog 197 #[.int .i64 13, .int .u32 a, .int .u32 b] w fun e w' => e = .returned (.int .u32 (binV 13 a b)) ∧ w = w' := by
 have e3 := mask31 b h1 g1
 by_cases hx : a = b
 ·have e : binV 13 a b = 1 := by show (if a = b then 1 else 0) = _; rw [if_pos hx]
  rw [e]
  clear e
  go_enter Try.func197, Try.ntmps197
  go_wp2_with (first
    | (go_at_call 185; (with_reducible refine (rol_any _ _ _ (by omega) (by omega) (by omega) (by omega)).mono ?_); rintro e w' ⟨rfl, rfl⟩)
    | (go_at_call 186; (with_reducible refine (mul32_any _ _ _ (by omega) (by omega) (by omega) (by omega)).mono ?_); rintro e w' ⟨rfl, rfl⟩)
    | (go_at_call 196; (with_reducible refine (truth_any _ _).mono ?_); rintro e w' ⟨rfl, rfl⟩))
  go_ret
  first | exact ⟨rfl, rfl⟩ | exact ⟨ret_u32 (by simp), rfl⟩
 ·have e : binV 13 a b = 0 := by show (if a = b then 1 else 0) = _; rw [if_neg hx]
  rw [e]
  clear e
  go_enter Try.func197, Try.ntmps197
  go_wp2_with (first
    | (go_at_call 185; (with_reducible refine (rol_any _ _ _ (by omega) (by omega) (by omega) (by omega)).mono ?_); rintro e w' ⟨rfl, rfl⟩)
    | (go_at_call 186; (with_reducible refine (mul32_any _ _ _ (by omega) (by omega) (by omega) (by omega)).mono ?_); rintro e w' ⟨rfl, rfl⟩)
    | (go_at_call 196; (with_reducible refine (truth_any _ _).mono ?_); rintro e w' ⟨rfl, rfl⟩))
  go_ret
  first | exact ⟨rfl, rfl⟩ | exact ⟨ret_u32 (by simp), rfl⟩
theorem bin_14 (a b : Int) (w : World) (h0 : 0 ≤ a) (g0 : a < 4294967296) (h1 : 0 ≤ b) (g1 : b < 4294967296) :
  Calls Try.prog 197 #[.int .i64 14, .int .u32 a, .int .u32 b] w fun e w' => e = .returned (.int .u32 (binV 14 a b)) ∧ w = w' := by
 have e3 := mask31 b h1 g1
 by_cases hx : a < b
 ·have e : binV 14 a b = 1 := by show (if a < b then 1 else 0) = _; rw [if_pos hx]
  rw [e]
  clear e
  go_enter Try.func197, Try.ntmps197
  go_wp2_with (first
    | (go_at_call 185; (with_reducible refine (rol_any _ _ _ (by omega) (by omega) (by omega) (by omega)).mono ?_); rintro e w' ⟨rfl, rfl⟩)
    | (go_at_call 186; (with_reducible refine (mul32_any _ _ _ (by omega) (by omega) (by omega) (by omega)).mono ?_); rintro e w' ⟨rfl, rfl⟩)
    | (go_at_call 196; (with_reducible refine (truth_any _ _).mono ?_); rintro e w' ⟨rfl, rfl⟩))
  go_ret
  first | exact ⟨rfl, rfl⟩ | exact ⟨ret_u32 (by simp), rfl⟩
 ·have e : binV 14 a b = 0 := by show (if a < b then 1 else 0) = _; rw [if_neg hx]
  rw [e]
  clear e
  go_enter Try.func197, Try.ntmps197
  go_wp2_with (first
    | (go_at_call 185; (with_reducible refine (rol_any _ _ _ (by omega) (by omega) (by omega) (by omega)).mono ?_); rintro e w' ⟨rfl, rfl⟩)
    | (go_at_call 186; (with_reducible refine (mul32_any _ _ _ (by omega) (by omega) (by omega) (by omega)).mono ?_); rintro e w' ⟨rfl, rfl⟩)
    | (go_at_call 196; (with_reducible refine (truth_any _ _).mono ?_); rintro e w' ⟨rfl, rfl⟩))
  go_ret
  first | exact ⟨rfl, rfl⟩ | exact ⟨ret_u32 (by simp), rfl⟩
theorem bin_15 (a b : Int) (w : World) (h0 : 0 ≤ a) (g0 : a < 4294967296) (h1 : 0 ≤ b) (g1 : b < 4294967296) :
  Calls Try.prog 197 #[.int .i64 15, .int .u32 a, .int .u32 b] w fun e w' => e = .returned (.int .u32 (binV 15 a b)) ∧ w = w' := by
 have e3 := mask31 b h1 g1
 have ea := wrap32_sg a h0 g0
 have eb := wrap32_sg b h1 g1
 by_cases hx : sg a < sg b
 ·have e : binV 15 a b = 1 := by show (if sg a < sg b then 1 else 0) = _; rw [if_pos hx]
  rw [e]
  clear e
  go_enter Try.func197, Try.ntmps197
  go_wp2_with (first
    | (go_at_call 185; (with_reducible refine (rol_any _ _ _ (by omega) (by omega) (by omega) (by omega)).mono ?_); rintro e w' ⟨rfl, rfl⟩)
    | (go_at_call 186; (with_reducible refine (mul32_any _ _ _ (by omega) (by omega) (by omega) (by omega)).mono ?_); rintro e w' ⟨rfl, rfl⟩)
    | (go_at_call 196; (with_reducible refine (truth_any _ _).mono ?_); rintro e w' ⟨rfl, rfl⟩))
  go_ret
  first | exact ⟨rfl, rfl⟩ | exact ⟨ret_u32 (by simp), rfl⟩
 ·have e : binV 15 a b = 0 := by show (if sg a < sg b then 1 else 0) = _; rw [if_neg hx]
  rw [e]
  clear e
  go_enter Try.func197, Try.ntmps197
  go_wp2_with (first
    | (go_at_call 185; (with_reducible refine (rol_any _ _ _ (by omega) (by omega) (by omega) (by omega)).mono ?_); rintro e w' ⟨rfl, rfl⟩)
    | (go_at_call 186; (with_reducible refine (mul32_any _ _ _ (by omega) (by omega) (by omega) (by omega)).mono ?_); rintro e w' ⟨rfl, rfl⟩)
    | (go_at_call 196; (with_reducible refine (truth_any _ _).mono ?_); rintro e w' ⟨rfl, rfl⟩))
  go_ret
  first | exact ⟨rfl, rfl⟩ | exact ⟨ret_u32 (by simp), rfl⟩
end Go.Proofs.Ytcjcmnnhmajocab.Ev
