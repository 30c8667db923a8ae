/- Four bytes as a number (guest.four). -/
import Derived.Test.YtcjcmnnhmajocaaGuB
import Derived.Lib.Hide
import Derived.Outline
import Derived.Deep.QuietTactic
import Derived.BigQuiet
namespace Go.Proofs.Ytcjcmnnhmajocaa.Gu
open Go.RowKit
set_option linter.unusedVariables false
set_option linter.unusedSimpArgs false
theorem or_up (i : Nat) (x y : Int) (hx : 0 ≤ x) (hx' : x < 2 ^ i) (hy : 0 ≤ y) (hd : y % 2 ^ i = 0) (h1 : x < 4294967296) (h2 : y < 4294967296) : bits .or .u32 x y = x + y := by
  obtain ⟨a, rfl⟩ := Int.eq_ofNat_of_zero_le hx
  obtain ⟨b, rfl⟩ := Int.eq_ofNat_of_zero_le hy
  have hw : ∀ n : Int, 0 ≤ n → n < 2 ^ 32 → IntKind.u32.wrap n = n := fun n h₀ h₁ => by rw [IntKind.wrap_u32]; omega
  have h := bits_join .u32 32 (by decide) hw i b a (by omega) hd (by omega) (by omega) hx' (by omega)
  have ha : a < 2 ^ 32 := by omega
  have hb : b < 2 ^ 32 := by omega
  rw [(bits_nat .u32 32 (by decide) hw b a hb ha).2] at h
  rw [(bits_nat .u32 32 (by decide) hw a b ha hb).2, Nat.or_comm, h]
  omega
def four (a b c d : Int) : Int := a + b * 256 + c * 65536 + d * 16777216
theorem four_or (a b c d : Int) (ha : 0 ≤ a ∧ a < 256) (hb : 0 ≤ b ∧ b < 256) (hc : 0 ≤ c ∧ c < 256) (hd : 0 ≤ d ∧ d < 256) : bits .or .u32 (bits .or .u32 (bits .or .u32 a (b * 256)) (c * 65536)) (d * 16777216) = four a b c d := by
  rw [or_up 8 a (b * 256) (by omega) (by omega) (by omega) (by omega) (by omega) (by omega), or_up 16 (a + b * 256) (c * 65536) (by omega) (by omega) (by omega) (by omega) (by omega) (by omega),
    or_up 24 (a + b * 256 + c * 65536) (d * 16777216) (by omega) (by omega) (by omega) (by omega) (by omega) (by omega)]
  rfl
theorem ret_u32 {a b : Int} (h : a = b) : Ending.returned (.int .u32 a) = .returned (.int .u32 b) := by rw [h]
set_option maxHeartbeats 2000000 in
theorem four_any (g off n cap : Nat) (a b c d : Int) (w : World) (hn : 4 ≤ n) (ha : 0 ≤ a ∧ a < 256) (hb : 0 ≤ b ∧ b < 256) (hc : 0 ≤ c ∧ c < 256) (hd : 0 ≤ d ∧ d < 256)
    (c0 : w.cell? ⟨g, off, none⟩ = some (.int .u8 a)) (c1 : w.cell? ⟨g, off + 1, none⟩ = some (.int .u8 b)) (c2 : w.cell? ⟨g, off + 2, none⟩ = some (.int .u8 c)) (c3 : w.cell? ⟨g, off + 3, none⟩ = some (.int .u8 d)) :
    Calls Try.prog 111 #[.slice (some ⟨g, off, none⟩) n cap] w fun e w' => e = .returned (.int .u32 (four a b c d)) ∧ ∃ m, w' = w.drewN m := by
  have n0 : (0 : Int) < (n : Int) := by omega
  have n1 : (1 : Int) < (n : Int) := by omega
  have n2 : (2 : Int) < (n : Int) := by omega
  have n3 : (3 : Int) < (n : Int) := by omega
  have HE := Lib.hid (four_or a b c d ha hb hc hd)
  obtain ⟨a0, a1⟩ := ha
  obtain ⟨b0, b1⟩ := hb
  obtain ⟨d0, d1⟩ := hc
  obtain ⟨e0, e1⟩ := hd
  go_enter Try.func111, Try.ntmps111
  go_wp2
  go_quiet (fail)
  go_wp2
  go_ret
  exact ⟨ret_u32 HE.out, _, rfl⟩
end Go.Proofs.Ytcjcmnnhmajocaa.Gu
