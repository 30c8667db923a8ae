/- A byte with its sign (guest.signed, crossgrainref1.byteOf). -/
import Derived.Test.YtcjcmnnhmajocaaProg
import Derived.Below
import Derived.WalkKit
import Derived.IntWalk
namespace Go.Proofs.Ytcjcmnnhmajocaa.Gu
open Go.RowKit
set_option linter.unusedVariables false
def sgn (b : Int) : Int := if 128 ≤ b then b + 4294967040 else b
theorem wrap_i8 (n : Int) : IntKind.i8.wrap n = (n + 128) % 256 - 128 := by
  have h1 : IntKind.i8.bits = 8 := rfl
  have h2 : IntKind.i8.signed = true := rfl
  simp only [IntKind.wrap, h1, h2, Bool.true_and]
  split
  · rename_i h
    simp at h
    omega
  · rename_i h
    simp at h
    omega
theorem signed_any (b : Int) (h0 : 0 ≤ b) (h1 : b < 256) (w : World) : Calls Try.prog 110 #[.int .u8 b] w fun e w' => e = .returned (.int .u32 (sgn b)) ∧ w = w' := by
  by_cases h : 128 ≤ b
  · have e : sgn b = b + 4294967040 := if_pos h
    have c1 : IntKind.i8.wrap b = b - 256 := by rw [wrap_i8]; omega
    have c2 : IntKind.i32.wrap (b - 256) = b - 256 := by rw [IntKind.wrap_i32]; omega
    have c3 : IntKind.u32.wrap (b - 256) = b + 4294967040 := by rw [IntKind.wrap_u32]; omega
    rw [e]
    go_enter Try.func110, Try.ntmps110
    go_wp2
    go_ret
    exact ⟨rfl, rfl⟩
  · have e : sgn b = b := if_neg h
    have c1 : IntKind.i8.wrap b = b := by rw [wrap_i8]; omega
    have c2 : IntKind.i32.wrap b = b := by rw [IntKind.wrap_i32]; omega
    have c3 : IntKind.u32.wrap b = b := by rw [IntKind.wrap_u32]; omega
    rw [e]
    go_enter Try.func110, Try.ntmps110
    go_wp2
    go_ret
    exact ⟨rfl, rfl⟩
theorem byteOf_any (b : Int) (h0 : 0 ≤ b) (h1 : b < 256) (w : World) : Calls Try.prog 67 #[.int .u8 b] w fun e w' => e = .returned (.int .u32 (sgn b)) ∧ w = w' := by
  by_cases h : 128 ≤ b
  · have e : sgn b = b + 4294967040 := if_pos h
    rw [e]
    go_enter Try.func67, Try.ntmps67
    go_wp2
    go_ret
    exact ⟨rfl, rfl⟩
  · have e : sgn b = b := if_neg h
    rw [e]
    go_enter Try.func67, Try.ntmps67
    go_wp2
    go_ret
    exact ⟨rfl, rfl⟩
end Go.Proofs.Ytcjcmnnhmajocaa.Gu
