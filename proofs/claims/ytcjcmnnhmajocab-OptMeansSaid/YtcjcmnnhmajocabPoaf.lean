/- mem.Memory.Load. -/
import Derived.Test.YtcjcmnnhmajocabProg
import Derived.Below
import Derived.WalkKit
import Derived.IntWalk
import Derived.Lib.Hide
import Derived.Outline
import Derived.Deep.QuietTactic
import Derived.BigQuiet
import Derived.Test.YtcjcmnnhmajocabPoae
namespace Go.Proofs.Ytcjcmnnhmajocab.Gu
open Go.RowKit
set_option linter.unusedVariables false
def sgn (b : Int) : Int := if 128 ≤ b then b + 4294967040 else b
theorem wrap_i8 (n : Int) : IntKind.i8.wrap n = (n + 128) % 256 - 128 := by
  have h1 : IntKind.i8.bits = 8 := rfl
  have h2 : IntKind.i8.signed = true := rfl
  simp only [IntKind.wrap, h1, h2, Bool.true_and]
  split
  · rename_i h
    simp at h
    omega
  · rename_i h
    simp at h
    omega
theorem signed_any (b : Int) (h0 : 0 ≤ b) (h1 : b < 256) (w : World) : Calls Try.prog 202 #[.int .u8 b] w fun e w' => e = .returned (.int .u32 (sgn b)) ∧ w = w' := by
  by_cases h : 128 ≤ b
  · have e : sgn b = b + 4294967040 := if_pos h
    have c1 : IntKind.i8.wrap b = b - 256 := by rw [wrap_i8]; omega
    have c2 : IntKind.i32.wrap (b - 256) = b - 256 := by rw [IntKind.wrap_i32]; omega
    have c3 : IntKind.u32.wrap (b - 256) = b + 4294967040 := by rw [IntKind.wrap_u32]; omega
    rw [e]
    go_enter Try.func202, Try.ntmps202
    go_wp2
    go_ret
    exact ⟨rfl, rfl⟩
  · have e : sgn b = b := if_neg h
    have c1 : IntKind.i8.wrap b = b := by rw [wrap_i8]; omega
    have c2 : IntKind.i32.wrap b = b := by rw [IntKind.wrap_i32]; omega
    have c3 : IntKind.u32.wrap b = b := by rw [IntKind.wrap_u32]; omega
    rw [e]
    go_enter Try.func202, Try.ntmps202
    go_wp2
    go_ret
    exact ⟨rfl, rfl⟩
end Go.Proofs.Ytcjcmnnhmajocab.Gu
namespace Go.Proofs.Ytcjcmnnhmajocab.Gu
open Go.RowKit
set_option linter.unusedVariables false
set_option linter.unusedSimpArgs false
theorem or_up (i : Nat) (x y : Int) (hx : 0 ≤ x) (hx' : x < 2 ^ i) (hy : 0 ≤ y) (hd : y % 2 ^ i = 0) (h1 : x < 4294967296) (h2 : y < 4294967296) : bits .or .u32 x y = x + y := by
  obtain ⟨a, rfl⟩ := Int.eq_ofNat_of_zero_le hx
  obtain ⟨b, rfl⟩ := Int.eq_ofNat_of_zero_le hy
  have hw : ∀ n : Int, 0 ≤ n → n < 2 ^ 32 → IntKind.u32.wrap n = n := fun n h₀ h₁ => by rw [IntKind.wrap_u32]; omega
  have h := bits_join .u32 32 (by decide) hw i b a (by omega) hd (by omega) (by omega) hx' (by omega)
  have ha : a < 2 ^ 32 := by omega
  have hb : b < 2 ^ 32 := by omega
  rw [(bits_nat .u32 32 (by decide) hw b a hb ha).2] at h
  rw [(bits_nat .u32 32 (by decide) hw a b ha hb).2, Nat.or_comm, h]
  omega
theorem ret_u32 {a b : Int} (h : a = b) : Ending.returned (.int .u32 a) = .returned (.int .u32 b) := by rw [h]
end Go.Proofs.Ytcjcmnnhmajocab.Gu
namespace Go.Proofs.Ytcjcmnnhmajocab.Me
open Go.RowKit Kt
set_option linter.unusedVariables false
set_option linter.unusedSimpArgs false
theorem or_zero (b : Int) (hb : 0 ≤ b ∧ b < 256) : bits .or .u32 0 b = b := (Gu.or_up 0 0 b (by omega) (by omega) (by omega) (by omega) (by omega) (by omega)).trans (by omega)
end Go.Proofs.Ytcjcmnnhmajocab.Me
