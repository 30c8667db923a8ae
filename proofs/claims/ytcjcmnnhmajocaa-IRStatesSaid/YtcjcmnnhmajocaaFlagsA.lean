import Derived.Test.YtcjcmnnhmajocaaProg
import Derived.Test.YtcjcmnnhmajocaaFlagsM
import Derived.WalkKit
import Derived.WalkLawsBesides
import Derived.WalkSpells
import Derived.Deep.QuietTactic
import Derived.BigQuiet
import Derived.Lib.Hide
namespace Go.Proofs.Ytcjcmnnhmajocaa.Fl
open Go.RowKit

def bor (a b c : Int) : Int := if a - b - c < 0 then 1 else 0
theorem ret_int {k : IntKind} {a b : Int} (h : a = b) : Ending.returned (.int k a) = .returned (.int k b) := by rw [h]
theorem ret_int2 {k j : IntKind} {a b c d : Int} (h : a = b) (g : c = d) : Ending.returned (.tuple #[.int k a, .int j c]) = .returned (.tuple #[.int k b, .int j d]) := by rw [h, g]

set_option maxHeartbeats 1000000 in
theorem zn_any (a : Int) (w : World) (h0 : 0 ≤ a) (g0 : a < 4294967296) : Calls Try.prog 101 #[.int .u32 a] w fun e w' => e = .returned (.int .u32 (zn a)) ∧ w = w' := by
  go_enter Try.func101, Try.ntmps101
  go_wp2
  · have h := WalkArith.int_eq ‹(a == 0) = true›
    go_ret
    subst h
    exact ⟨ret_int rfl, rfl⟩
  · have h := WalkArith.int_ne ‹(a == 0) = false›
    go_ret
    exact ⟨ret_int (by unfold zn; rw [if_neg h]; split <;> omega), rfl⟩

set_option maxHeartbeats 1000000 in
theorem when_any (b : Bool) (f : Int) (w : World) : Calls Try.prog 103 #[.bool b, .int .u32 f] w fun e w' => e = .returned (.int .u32 (if b then f else 0)) ∧ w = w' := by
  cases b <;> (go_enter Try.func103, Try.ntmps103; go_wp2; go_ret; exact ⟨rfl, rfl⟩)

set_option maxHeartbeats 1000000 in
theorem add32_any (a b c : Int) (w : World) (h0 : 0 ≤ a) (g0 : a < 4294967296) (h1 : 0 ≤ b) (g1 : b < 4294967296) (h2 : 0 ≤ c) (g2 : c < 2) :
    Calls Try.prog 119 #[.int .u32 a, .int .u32 b, .int .u32 c] w fun e w' => e = .returned (.tuple #[.int .u32 ((a + b + c) % 4294967296), .int .u32 ((a + b + c) / 4294967296)]) ∧ w = w' := by
  go_enter Try.func119, Try.ntmps119
  go_wp2
  go_ret2
  exact ⟨rfl, rfl⟩

set_option maxHeartbeats 1000000 in
theorem sub32_any (a b c : Int) (w : World) (h0 : 0 ≤ a) (g0 : a < 4294967296) (h1 : 0 ≤ b) (g1 : b < 4294967296) (h2 : 0 ≤ c) (g2 : c < 2) :
    Calls Try.prog 120 #[.int .u32 a, .int .u32 b, .int .u32 c] w fun e w' => e = .returned (.tuple #[.int .u32 ((a - b - c) % 4294967296), .int .u32 (bor a b c)]) ∧ w = w' := by
  have H := Lib.hid (borrow_is a b c h0 g0 h1 g1 h2 g2)
  have hs : IntKind.u32.signed = false := rfl
  go_enter Try.func120, Try.ntmps120
  go_wp2
  go_ret2
  exact ⟨ret_int2 (by show ((a - b) % 4294967296 - c) % 4294967296 = _; omega) (by unfold bor; rw [← H.out]), rfl⟩

set_option maxHeartbeats 1000000 in
theorem sum_any (a b c : Int) (w : World) (h0 : 0 ≤ a) (g0 : a < 4294967296) (h1 : 0 ≤ b) (g1 : b < 4294967296) (h2 : 0 ≤ c) (g2 : c < 2) :
    Calls Try.prog 99 #[.int .u32 a, .int .u32 b, .int .u32 c] w fun e w' => e = .returned (.int .u32 (fAdd a b c)) ∧ w = w' := by
  have H := Lib.hid (sum_is a b c h0 g0 h1 g1 h2 g2)
  go_enter Try.func99, Try.ntmps99
  go_wp2_with (first
    | (go_at_call 119; refine (add32_any _ _ _ _ (by omega) (by omega) (by omega) (by omega) (by omega) (by omega)).mono ?_; rintro e w' ⟨rfl, rfl⟩)
    | (go_at_call 101; refine (zn_any _ _ (by omega) (by omega)).mono ?_; rintro e w' ⟨rfl, rfl⟩))
  go_ret
  exact ⟨ret_int H.out, rfl⟩
set_option maxHeartbeats 1000000 in
theorem rest_any (a b c : Int) (w : World) (h0 : 0 ≤ a) (g0 : a < 4294967296) (h1 : 0 ≤ b) (g1 : b < 4294967296) (h2 : 0 ≤ c) (g2 : c < 2) :
    Calls Try.prog 100 #[.int .u32 a, .int .u32 b, .int .u32 c] w fun e w' => e = .returned (.int .u32 (fSub a b c)) ∧ w = w' := by
  have H := Lib.hid (rest_is a b c h0 g0 h1 g1 h2 g2)
  have hb : 0 ≤ bor a b c := by unfold bor; split <;> omega
  have hb' : bor a b c < 2 := by unfold bor; split <;> omega
  go_enter Try.func100, Try.ntmps100
  go_wp2_with (first
    | (go_at_call 120; refine (sub32_any _ _ _ _ (by omega) (by omega) (by omega) (by omega) (by omega) (by omega)).mono ?_; rintro e w' ⟨rfl, rfl⟩)
    | (go_at_call 101; refine (zn_any _ _ (by omega) (by omega)).mono ?_; rintro e w' ⟨rfl, rfl⟩))
  go_ret
  exact ⟨ret_int H.out, rfl⟩
end Go.Proofs.Ytcjcmnnhmajocaa.Fl
