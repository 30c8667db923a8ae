import Derived.Test.YtcjcmnnhmajocaaHostE
namespace Go.Proofs.Ytcjcmnnhmajocaa.Ho
open Go.RowKit
theorem mask_i64 (i : Nat) (hi : i ≤ 32) (x : Int) : bits .and .i64 x (2 ^ i - 1) = x % 2 ^ i := by
  have hpos : 0 < 2 ^ i := Nat.two_pow_pos i
  have hle : 2 ^ i ≤ 2 ^ 32 := Nat.pow_le_pow_right (by decide) hi
  have hc : ((2 : Int) ^ i - 1) = ((2 ^ i - 1 : Nat) : Int) := by
    rw [Int.natCast_sub hpos]; simp
  have hA : (BitVec.ofInt 64 x).toNat = (x % 18446744073709551616).toNat := by
    rw [BitVec.toNat_ofInt]; rfl
  have hb : (2 ^ i - 1) % 2 ^ 64 = 2 ^ i - 1 := Nat.mod_eq_of_lt (by omega)
  rw [hc]
  show IntKind.i64.wrap ((BitVec.ofInt 64 x &&& BitVec.ofInt 64 ((2 ^ i - 1 : Nat) : Int)).toNat : Int) = _
  rw [BitVec.ofInt_natCast, BitVec.toNat_and, hA, BitVec.toNat_ofNat, hb, Nat.and_two_pow_sub_one_eq_mod]
  have hm : (x % 18446744073709551616).toNat % 2 ^ i < 2 ^ i := Nat.mod_lt _ hpos
  rw [IntKind.wrap_i64]
  have hcast : (((x % 18446744073709551616).toNat % 2 ^ i : Nat) : Int) = x % 2 ^ i := by
    rw [Int.natCast_emod, Int.toNat_of_nonneg (Int.emod_nonneg _ (by decide))]
    have hd : ((2 ^ i : Nat) : Int) ∣ 18446744073709551616 := by
      have : (2 ^ i : Nat) ∣ 2 ^ 64 := Nat.pow_dvd_pow 2 (by omega)
      exact Int.natCast_dvd_natCast.mpr this
    rw [Int.emod_emod_of_dvd _ hd, Int.natCast_pow]
    rfl
  rw [hcast]
  have h1 : x % 2 ^ i < 2 ^ i := by rw [← hcast]; have := Int.ofNat_lt.mpr hm; rw [Int.natCast_pow] at this; exact this
  have h0 : 0 ≤ x % 2 ^ i := by rw [← hcast]; exact Int.natCast_nonneg _
  have h2 : (2 : Int) ^ i ≤ 4294967296 := by have := Int.ofNat_le.mpr hle; rw [Int.natCast_pow] at this; exact this
  omega
theorem i64_15 (x : Int) : bits .and .i64 x 15 = x % 16 := mask_i64 4 (by decide) x
theorem i64_65535 (x : Int) : bits .and .i64 x 65535 = x % 65536 := mask_i64 16 (by decide) x
theorem or_up (i : Nat) (x y : Int) (hx : 0 ≤ x) (hx' : x < 2 ^ i) (hy : 0 ≤ y) (hd : y % 2 ^ i = 0) (h1 : x < 4294967296) (h2 : y < 4294967296) : bits .or .u32 x y = x + y := by
  obtain ⟨a, rfl⟩ := Int.eq_ofNat_of_zero_le hx
  obtain ⟨b, rfl⟩ := Int.eq_ofNat_of_zero_le hy
  have hw : ∀ n : Int, 0 ≤ n → n < 2 ^ 32 → IntKind.u32.wrap n = n := fun n h₀ h₁ => by rw [IntKind.wrap_u32]; omega
  have h := bits_join .u32 32 (by decide) hw i b a (by omega) hd (by omega) (by omega) hx' (by omega)
  have ha : a < 2 ^ 32 := by omega
  have hb : b < 2 ^ 32 := by omega
  rw [(bits_nat .u32 32 (by decide) hw b a hb ha).2] at h
  rw [(bits_nat .u32 32 (by decide) hw a b ha hb).2, Nat.or_comm, h]
  omega
theorem or_d (o d : Int) (h : 0 ≤ o) (g : o < 256) : bits .or .u32 o (d % 16 * 256) = o + d % 16 * 256 := or_up 8 _ _ h g (by omega) (by omega) (by omega) (by omega)
theorem or_a (o d a : Int) (h : 0 ≤ o) (g : o < 256) : bits .or .u32 (o + d % 16 * 256) (a % 16 * 4096) = o + d % 16 * 256 + a % 16 * 4096 := or_up 12 _ _ (by omega) (by omega) (by omega) (by omega) (by omega) (by omega)
theorem or_n (o d a n : Int) (h : 0 ≤ o) (g : o < 256) : bits .or .u32 (o + d % 16 * 256 + a % 16 * 4096) (n % 65536 * 65536) = o + d % 16 * 256 + a % 16 * 4096 + n % 65536 * 65536 := or_up 16 _ _ (by omega) (by omega) (by omega) (by omega) (by omega) (by omega)
theorem or_bc (b c : Int) : bits .or .u32 (b % 16 * 65536) (c % 16 * 1048576) = b % 16 * 65536 + c % 16 * 1048576 := or_up 20 _ _ (by omega) (by omega) (by omega) (by omega) (by omega) (by omega)
theorem or_q (o d a b c : Int) (h : 0 ≤ o) (g : o < 256) : bits .or .u32 (o + d % 16 * 256 + a % 16 * 4096) (b % 16 * 65536 + c % 16 * 1048576) = o + d % 16 * 256 + a % 16 * 4096 + (b % 16 * 65536 + c % 16 * 1048576) := or_up 16 _ _ (by omega) (by omega) (by omega) (by omega) (by omega) (by omega)
end Go.Proofs.Ytcjcmnnhmajocaa.Ho
