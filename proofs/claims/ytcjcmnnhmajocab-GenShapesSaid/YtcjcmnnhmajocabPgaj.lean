/- Lemmas. -/
import Derived.Deep.OwnRows
import Derived.ArgAppend
import Derived.Test.YtcjcmnnhmajocabPgaf
import Derived.Test.YtcjcmnnhmajocabPgah
namespace Go.Proofs.Ytcjcmnnhmajocab.Ho
open Go.RowKit Kt
set_option linter.unusedVariables false
set_option linter.unusedSimpArgs false
set_option maxRecDepth 100000 in
set_option maxHeartbeats 4000000 in
theorem rdec_11 (b off len cap k : Nat) (v0 k1 x1 : Int) (w : World) (hk : k < len) (hl : len ≤ cap) (hm : cap ≤ maxLen) (hb : b < w.heap.size) (h0 : 0 ≤ v0) (g0 : v0 < 4294967296) (hq : fcls (v0 % 256) = 11)
   (hc : w.cell? ⟨b, off + k, none⟩ = some (.int .u32 v0)) : Calls Try.prog 53 #[.slice (some ⟨b, off, none⟩) len cap, .int .i64 k] w fun e w' => e = .returned (dres 11 v0 k1 x1) ∧ Below w.heap.size w w' := by
  have c0 : (0 : Int) ≤ (k : Int) := by omega
  have c1 : (k : Int) ≤ (len : Int) := by omega
  have c2 : ¬ ((len : Int) < (k : Int)) := by omega
  have c4 : ((k : Int) == (len : Int)) = false := by simp; omega
  have c5 : ¬ ((len : Int) - k < 1) := by omega
  have c6 : (k : Int) < (len : Int) := by omega
  have c7 : wrap64 ((len : Int) - k) = (len : Int) - k := by have hmx : (maxLen : Nat) = 9223372036854775807 := rfl; exact IntWalk.wrap64_in _ (by omega)
  clear hm
  have e12 : (v0 % 256 == 12) = false := by simp; intro h; rw [h] at hq; exact absurd hq (by decide)
  have e13 : (v0 % 256 == 13) = false := by simp; intro h; rw [h] at hq; exact absurd hq (by decide)
  have : 0 ≤ v0 / 256 % 16 ∧ v0 / 256 % 16 < 16 := by omega
  have : 0 ≤ v0 / 256 := by omega
  have : 0 ≤ v0 / 4096 % 16 ∧ v0 / 4096 % 16 < 16 := by omega
  have : 0 ≤ v0 / 4096 := by omega
  have : 0 ≤ v0 / 65536 % 16 ∧ v0 / 65536 % 16 < 16 := by omega
  have : 0 ≤ v0 / 65536 := by omega
  have : 0 ≤ v0 / 1048576 % 16 ∧ v0 / 1048576 % 16 < 16 := by omega
  have : 0 ≤ v0 / 1048576 := by omega
  have : 0 ≤ v0 / 65536 ∧ v0 / 65536 < 65536 := by omega
  go_enter Try.func53, Try.ntmps53
  go_wp2_with (first
    | (go_at_call 97; refine (form_any (v0 % 256) _).mono ?_; rintro e w1 ⟨rfl, rfl⟩; rw [hq, show rform 11 = .tuple #[.string { data := #[97, 110] }, .int .i64 12, .int .i64 1] from rfl])
    | (go_at_call 98; refine (has_an _ _).mono ?_; rintro e w1 ⟨rfl, rfl⟩)
    | (go_at_call 98; fail)
    | (go_at_call 99; refine (first_any _ _ _ _ _ _ _ _ _).mono ?_; rintro e w2 ⟨rfl, hb1⟩; obtain ⟨kT, kX, zT, zX, s1, s2, hB⟩ := behind2 hb1; have hT := behindT hb1; clear hb1))
  all_goals first
    | exact rend_any hT hB (dres_bad (by rw [good_11]; omega)) rfl rfl rfl rfl
    | exact rend_any hT hB (by rw [dres_good (by rw [good_11]; omega), dok_11, show v0 / 256 / 16 % 16 = v0 / 4096 % 16 by omega, show v0 / 256 / 16 / 16 % 65536 = v0 / 65536 by omega]; rfl) rfl rfl rfl rfl
    | skip
  all_goals done
set_option maxRecDepth 100000 in
set_option maxHeartbeats 4000000 in
theorem rdec_12 (b off len cap k : Nat) (v0 k1 x1 : Int) (w : World) (hk : k < len) (hl : len ≤ cap) (hm : cap ≤ maxLen) (hb : b < w.heap.size) (h0 : 0 ≤ v0) (g0 : v0 < 4294967296) (hq : fcls (v0 % 256) = 12)
   (hc : w.cell? ⟨b, off + k, none⟩ = some (.int .u32 v0)) : Calls Try.prog 53 #[.slice (some ⟨b, off, none⟩) len cap, .int .i64 k] w fun e w' => e = .returned (dres 12 v0 k1 x1) ∧ Below w.heap.size w w' := by
  have c0 : (0 : Int) ≤ (k : Int) := by omega
  have c1 : (k : Int) ≤ (len : Int) := by omega
  have c2 : ¬ ((len : Int) < (k : Int)) := by omega
  have c4 : ((k : Int) == (len : Int)) = false := by simp; omega
  have c5 : ¬ ((len : Int) - k < 1) := by omega
  have c6 : (k : Int) < (len : Int) := by omega
  have c7 : wrap64 ((len : Int) - k) = (len : Int) - k := by have hmx : (maxLen : Nat) = 9223372036854775807 := rfl; exact IntWalk.wrap64_in _ (by omega)
  clear hm
  have e12 : (v0 % 256 == 12) = false := by simp; intro h; rw [h] at hq; exact absurd hq (by decide)
  have e13 : (v0 % 256 == 13) = false := by simp; intro h; rw [h] at hq; exact absurd hq (by decide)
  have : 0 ≤ v0 / 256 % 16 ∧ v0 / 256 % 16 < 16 := by omega
  have : 0 ≤ v0 / 256 := by omega
  have : 0 ≤ v0 / 4096 % 16 ∧ v0 / 4096 % 16 < 16 := by omega
  have : 0 ≤ v0 / 4096 := by omega
  have : 0 ≤ v0 / 65536 % 16 ∧ v0 / 65536 % 16 < 16 := by omega
  have : 0 ≤ v0 / 65536 := by omega
  have : 0 ≤ v0 / 1048576 % 16 ∧ v0 / 1048576 % 16 < 16 := by omega
  have : 0 ≤ v0 / 1048576 := by omega
  have : 0 ≤ v0 / 65536 ∧ v0 / 65536 < 65536 := by omega
  go_enter Try.func53, Try.ntmps53
  go_wp2_with (first
    | (go_at_call 97; refine (form_any (v0 % 256) _).mono ?_; rintro e w1 ⟨rfl, rfl⟩; rw [hq, show rform 12 = .tuple #[.string { data := #[100, 110] }, .int .i64 2048, .int .i64 1] from rfl])
    | (go_at_call 98; refine (has_dn _ _).mono ?_; rintro e w1 ⟨rfl, rfl⟩)
    | (go_at_call 98; fail)
    | (go_at_call 99; refine (first_any _ _ _ _ _ _ _ _ _).mono ?_; rintro e w2 ⟨rfl, hb1⟩; obtain ⟨kT, kX, zT, zX, s1, s2, hB⟩ := behind2 hb1; have hT := behindT hb1; clear hb1))
  all_goals first
    | exact rend_any hT hB (dres_bad (by rw [good_12]; omega)) rfl rfl rfl rfl
    | exact rend_any hT hB (by rw [dres_good (by rw [good_12]; omega), dok_12, show v0 / 256 / 16 / 16 % 65536 = v0 / 65536 by omega]; rfl) rfl rfl rfl rfl
    | skip
  all_goals done
set_option maxRecDepth 100000 in
set_option maxHeartbeats 4000000 in
theorem rdec_13 (b off len cap k : Nat) (v0 k1 x1 : Int) (w : World) (hk : k < len) (hl : len ≤ cap) (hm : cap ≤ maxLen) (hb : b < w.heap.size) (h0 : 0 ≤ v0) (g0 : v0 < 4294967296) (hq : fcls (v0 % 256) = 13)
   (hc : w.cell? ⟨b, off + k, none⟩ = some (.int .u32 v0)) : Calls Try.prog 53 #[.slice (some ⟨b, off, none⟩) len cap, .int .i64 k] w fun e w' => e = .returned (dres 13 v0 k1 x1) ∧ Below w.heap.size w w' := by
  have c0 : (0 : Int) ≤ (k : Int) := by omega
  have c1 : (k : Int) ≤ (len : Int) := by omega
  have c2 : ¬ ((len : Int) < (k : Int)) := by omega
  have c4 : ((k : Int) == (len : Int)) = false := by simp; omega
  have c5 : ¬ ((len : Int) - k < 1) := by omega
  have c6 : (k : Int) < (len : Int) := by omega
  have c7 : wrap64 ((len : Int) - k) = (len : Int) - k := by have hmx : (maxLen : Nat) = 9223372036854775807 := rfl; exact IntWalk.wrap64_in _ (by omega)
  clear hm
  have e12 : (v0 % 256 == 12) = false := by simp; intro h; rw [h] at hq; exact absurd hq (by decide)
  have e13 : (v0 % 256 == 13) = false := by simp; intro h; rw [h] at hq; exact absurd hq (by decide)
  have : 0 ≤ v0 / 256 % 16 ∧ v0 / 256 % 16 < 16 := by omega
  have : 0 ≤ v0 / 256 := by omega
  have : 0 ≤ v0 / 4096 % 16 ∧ v0 / 4096 % 16 < 16 := by omega
  have : 0 ≤ v0 / 4096 := by omega
  have : 0 ≤ v0 / 65536 % 16 ∧ v0 / 65536 % 16 < 16 := by omega
  have : 0 ≤ v0 / 65536 := by omega
  have : 0 ≤ v0 / 1048576 % 16 ∧ v0 / 1048576 % 16 < 16 := by omega
  have : 0 ≤ v0 / 1048576 := by omega
  have : 0 ≤ v0 / 65536 ∧ v0 / 65536 < 65536 := by omega
  go_enter Try.func53, Try.ntmps53
  go_wp2_with (first
    | (go_at_call 97; refine (form_any (v0 % 256) _).mono ?_; rintro e w1 ⟨rfl, rfl⟩; rw [hq, show rform 13 = .tuple #[.string { data := #[97, 110] }, .int .i64 2048, .int .i64 1] from rfl])
    | (go_at_call 98; refine (has_an _ _).mono ?_; rintro e w1 ⟨rfl, rfl⟩)
    | (go_at_call 98; fail)
    | (go_at_call 99; refine (first_any _ _ _ _ _ _ _ _ _).mono ?_; rintro e w2 ⟨rfl, hb1⟩; obtain ⟨kT, kX, zT, zX, s1, s2, hB⟩ := behind2 hb1; have hT := behindT hb1; clear hb1))
  all_goals first
    | exact rend_any hT hB (dres_bad (by rw [good_13]; omega)) rfl rfl rfl rfl
    | exact rend_any hT hB (by rw [dres_good (by rw [good_13]; omega), dok_13, show v0 / 256 / 16 % 16 = v0 / 4096 % 16 by omega, show v0 / 256 / 16 / 16 % 65536 = v0 / 65536 by omega]; rfl) rfl rfl rfl rfl
    | skip
  all_goals done
set_option maxRecDepth 100000 in
set_option maxHeartbeats 4000000 in
theorem rdec_14 (b off len cap k : Nat) (v0 k1 x1 : Int) (w : World) (hk : k < len) (hl : len ≤ cap) (hm : cap ≤ maxLen) (hb : b < w.heap.size) (h0 : 0 ≤ v0) (g0 : v0 < 4294967296) (hq : fcls (v0 % 256) = 14)
   (hc : w.cell? ⟨b, off + k, none⟩ = some (.int .u32 v0)) (hk1 : k + 1 < len) (hc1 : w.cell? ⟨b, off + k + 1, none⟩ = some (.int .u32 k1)) (hk2 : k + 2 < len) (hc2 : w.cell? ⟨b, off + k + 2, none⟩ = some (.int .u32 x1)) : Calls Try.prog 53 #[.slice (some ⟨b, off, none⟩) len cap, .int .i64 k] w fun e w' => e = .returned (dres 14 v0 k1 x1) ∧ Below w.heap.size w w' := by
  have c0 : (0 : Int) ≤ (k : Int) := by omega
  have c1 : (k : Int) ≤ (len : Int) := by omega
  have c2 : ¬ ((len : Int) < (k : Int)) := by omega
  have c4 : ((k : Int) == (len : Int)) = false := by simp; omega
  have c5 : ¬ ((len : Int) - k < 3) := by omega
  have c6 : (k : Int) < (len : Int) := by omega
  have c7 : wrap64 ((len : Int) - k) = (len : Int) - k := by have hmx : (maxLen : Nat) = 9223372036854775807 := rfl; exact IntWalk.wrap64_in _ (by omega)
  have f1 : wrap64 ((k : Int) + 1) = (k : Int) + 1 := by have hmx : (maxLen : Nat) = 9223372036854775807 := rfl; exact IntWalk.wrap64_in _ (by omega)
  have f2 : wrap64 ((k : Int) + 2) = (k : Int) + 2 := by have hmx : (maxLen : Nat) = 9223372036854775807 := rfl; exact IntWalk.wrap64_in _ (by omega)
  have hx1 := hc1
  rw [Nat.add_assoc] at hx1
  have hx2 := hc2
  rw [Nat.add_assoc] at hx2
  have d1 : (k : Int) + 1 < (len : Int) := by omega
  have d2 : (k : Int) + 2 < (len : Int) := by omega
  clear hm
  have : 0 ≤ v0 / 256 % 16 ∧ v0 / 256 % 16 < 16 := by omega
  have : 0 ≤ v0 / 256 := by omega
  have : 0 ≤ v0 / 4096 % 16 ∧ v0 / 4096 % 16 < 16 := by omega
  have : 0 ≤ v0 / 4096 := by omega
  have : 0 ≤ v0 / 65536 % 16 ∧ v0 / 65536 % 16 < 16 := by omega
  have : 0 ≤ v0 / 65536 := by omega
  have : 0 ≤ v0 / 1048576 % 16 ∧ v0 / 1048576 % 16 < 16 := by omega
  have : 0 ≤ v0 / 1048576 := by omega
  have : 0 ≤ v0 / 65536 ∧ v0 / 65536 < 65536 := by omega
  go_enter Try.func53, Try.ntmps53
  go_wp2_with (first
    | (go_at_call 97; refine (form_any (v0 % 256) _).mono ?_; rintro e w1 ⟨rfl, rfl⟩; rw [hq, show rform 14 = .tuple #[.string { data := #[100, 110] }, .int .i64 65, .int .i64 3] from rfl])
    | (go_at_call 98; refine (has_dn _ _).mono ?_; rintro e w1 ⟨rfl, rfl⟩)
    | (go_at_call 98; fail)
    | (go_at_call 99; refine (first_any _ _ _ _ _ _ _ _ _).mono ?_; rintro e w2 ⟨rfl, hb1⟩; obtain ⟨kT, kX, zT, zX, s1, s2, hB⟩ := behind2 hb1; have hT := behindT hb1; clear hb1; have hop := fcls14 hq))
  all_goals first
    | exact rend_any hT hB (dres_bad (by rw [good_14]; omega)) rfl rfl rfl rfl
    | exact rend_any hT hB (by rw [dres_good (by rw [good_14]; omega), dok_14, show v0 / 256 / 16 / 16 % 65536 = v0 / 65536 by omega, hop]; rfl) rfl rfl rfl rfl
    | skip
  all_goals done
set_option maxRecDepth 100000 in
set_option maxHeartbeats 4000000 in
theorem rdec_15 (b off len cap k : Nat) (v0 k1 x1 : Int) (w : World) (hk : k < len) (hl : len ≤ cap) (hm : cap ≤ maxLen) (hb : b < w.heap.size) (h0 : 0 ≤ v0) (g0 : v0 < 4294967296) (hq : fcls (v0 % 256) = 15)
   (hc : w.cell? ⟨b, off + k, none⟩ = some (.int .u32 v0)) (hk1 : k + 1 < len) (hc1 : w.cell? ⟨b, off + k + 1, none⟩ = some (.int .u32 k1)) : Calls Try.prog 53 #[.slice (some ⟨b, off, none⟩) len cap, .int .i64 k] w fun e w' => e = .returned (dres 15 v0 k1 x1) ∧ Below w.heap.size w w' := by
  have c0 : (0 : Int) ≤ (k : Int) := by omega
  have c1 : (k : Int) ≤ (len : Int) := by omega
  have c2 : ¬ ((len : Int) < (k : Int)) := by omega
  have c4 : ((k : Int) == (len : Int)) = false := by simp; omega
  have c5 : ¬ ((len : Int) - k < 2) := by omega
  have c6 : (k : Int) < (len : Int) := by omega
  have c7 : wrap64 ((len : Int) - k) = (len : Int) - k := by have hmx : (maxLen : Nat) = 9223372036854775807 := rfl; exact IntWalk.wrap64_in _ (by omega)
  have f1 : wrap64 ((k : Int) + 1) = (k : Int) + 1 := by have hmx : (maxLen : Nat) = 9223372036854775807 := rfl; exact IntWalk.wrap64_in _ (by omega)
  have hx1 := hc1
  rw [Nat.add_assoc] at hx1
  have d1 : (k : Int) + 1 < (len : Int) := by omega
  clear hm
  have : 0 ≤ v0 / 256 % 16 ∧ v0 / 256 % 16 < 16 := by omega
  have : 0 ≤ v0 / 256 := by omega
  have : 0 ≤ v0 / 4096 % 16 ∧ v0 / 4096 % 16 < 16 := by omega
  have : 0 ≤ v0 / 4096 := by omega
  have : 0 ≤ v0 / 65536 % 16 ∧ v0 / 65536 % 16 < 16 := by omega
  have : 0 ≤ v0 / 65536 := by omega
  have : 0 ≤ v0 / 1048576 % 16 ∧ v0 / 1048576 % 16 < 16 := by omega
  have : 0 ≤ v0 / 1048576 := by omega
  have : 0 ≤ v0 / 65536 ∧ v0 / 65536 < 65536 := by omega
  go_enter Try.func53, Try.ntmps53
  go_wp2_with (first
    | (go_at_call 97; refine (form_any (v0 % 256) _).mono ?_; rintro e w1 ⟨rfl, rfl⟩; rw [hq, show rform 15 = .tuple #[.string { data := #[100, 97, 110] }, .int .i64 65, .int .i64 2] from rfl])
    | (go_at_call 98; refine (has_dan _ _).mono ?_; rintro e w1 ⟨rfl, rfl⟩)
    | (go_at_call 98; fail)
    | (go_at_call 99; refine (first_any _ _ _ _ _ _ _ _ _).mono ?_; rintro e w2 ⟨rfl, hb1⟩; obtain ⟨kT, kX, zT, zX, s1, s2, hB⟩ := behind2 hb1; have hT := behindT hb1; clear hb1; have hop := fcls15 hq))
  all_goals first
    | exact rend_any hT hB (dres_bad (by rw [good_15]; omega)) rfl rfl rfl rfl
    | exact rend_any hT hB (by rw [dres_good (by rw [good_15]; omega), dok_15, show v0 / 256 / 16 % 16 = v0 / 4096 % 16 by omega, show v0 / 256 / 16 / 16 % 65536 = v0 / 65536 by omega, hop]; rfl) rfl rfl rfl rfl
    | skip
  all_goals done
end Go.Proofs.Ytcjcmnnhmajocab.Ho
namespace Go.Proofs.Ytcjcmnnhmajocab.Ho
open Go.RowKit
theorem mask_i64 (i : Nat) (hi : i ≤ 32) (x : Int) : bits .and .i64 x (2 ^ i - 1) = x % 2 ^ i := by
  have hpos : 0 < 2 ^ i := Nat.two_pow_pos i
  have hle : 2 ^ i ≤ 2 ^ 32 := Nat.pow_le_pow_right (by decide) hi
  have hc : ((2 : Int) ^ i - 1) = ((2 ^ i - 1 : Nat) : Int) := by
    rw [Int.natCast_sub hpos]; simp
  have hA : (BitVec.ofInt 64 x).toNat = (x % 18446744073709551616).toNat := by
    rw [BitVec.toNat_ofInt]; rfl
  have hb : (2 ^ i - 1) % 2 ^ 64 = 2 ^ i - 1 := Nat.mod_eq_of_lt (by omega)
  rw [hc]
  show IntKind.i64.wrap ((BitVec.ofInt 64 x &&& BitVec.ofInt 64 ((2 ^ i - 1 : Nat) : Int)).toNat : Int) = _
  rw [BitVec.ofInt_natCast, BitVec.toNat_and, hA, BitVec.toNat_ofNat, hb, Nat.and_two_pow_sub_one_eq_mod]
  have hm : (x % 18446744073709551616).toNat % 2 ^ i < 2 ^ i := Nat.mod_lt _ hpos
  rw [IntKind.wrap_i64]
  have hcast : (((x % 18446744073709551616).toNat % 2 ^ i : Nat) : Int) = x % 2 ^ i := by
    rw [Int.natCast_emod, Int.toNat_of_nonneg (Int.emod_nonneg _ (by decide))]
    have hd : ((2 ^ i : Nat) : Int) ∣ 18446744073709551616 := by
      have : (2 ^ i : Nat) ∣ 2 ^ 64 := Nat.pow_dvd_pow 2 (by omega)
      exact Int.natCast_dvd_natCast.mpr this
    rw [Int.emod_emod_of_dvd _ hd, Int.natCast_pow]
    rfl
  rw [hcast]
  have h1 : x % 2 ^ i < 2 ^ i := by rw [← hcast]; have := Int.ofNat_lt.mpr hm; rw [Int.natCast_pow] at this; exact this
  have h0 : 0 ≤ x % 2 ^ i := by rw [← hcast]; exact Int.natCast_nonneg _
  have h2 : (2 : Int) ^ i ≤ 4294967296 := by have := Int.ofNat_le.mpr hle; rw [Int.natCast_pow] at this; exact this
  omega
theorem i64_15 (x : Int) : bits .and .i64 x 15 = x % 16 := mask_i64 4 (by decide) x
theorem i64_65535 (x : Int) : bits .and .i64 x 65535 = x % 65536 := mask_i64 16 (by decide) x
theorem or_up (i : Nat) (x y : Int) (hx : 0 ≤ x) (hx' : x < 2 ^ i) (hy : 0 ≤ y) (hd : y % 2 ^ i = 0) (h1 : x < 4294967296) (h2 : y < 4294967296) : bits .or .u32 x y = x + y := by
  obtain ⟨a, rfl⟩ := Int.eq_ofNat_of_zero_le hx
  obtain ⟨b, rfl⟩ := Int.eq_ofNat_of_zero_le hy
  have hw : ∀ n : Int, 0 ≤ n → n < 2 ^ 32 → IntKind.u32.wrap n = n := fun n h₀ h₁ => by rw [IntKind.wrap_u32]; omega
  have h := bits_join .u32 32 (by decide) hw i b a (by omega) hd (by omega) (by omega) hx' (by omega)
  have ha : a < 2 ^ 32 := by omega
  have hb : b < 2 ^ 32 := by omega
  rw [(bits_nat .u32 32 (by decide) hw b a hb ha).2] at h
  rw [(bits_nat .u32 32 (by decide) hw a b ha hb).2, Nat.or_comm, h]
  omega
theorem or_d (o d : Int) (h : 0 ≤ o) (g : o < 256) : bits .or .u32 o (d % 16 * 256) = o + d % 16 * 256 := or_up 8 _ _ h g (by omega) (by omega) (by omega) (by omega)
theorem or_a (o d a : Int) (h : 0 ≤ o) (g : o < 256) : bits .or .u32 (o + d % 16 * 256) (a % 16 * 4096) = o + d % 16 * 256 + a % 16 * 4096 := or_up 12 _ _ (by omega) (by omega) (by omega) (by omega) (by omega) (by omega)
theorem or_n (o d a n : Int) (h : 0 ≤ o) (g : o < 256) : bits .or .u32 (o + d % 16 * 256 + a % 16 * 4096) (n % 65536 * 65536) = o + d % 16 * 256 + a % 16 * 4096 + n % 65536 * 65536 := or_up 16 _ _ (by omega) (by omega) (by omega) (by omega) (by omega) (by omega)
theorem or_bc (b c : Int) : bits .or .u32 (b % 16 * 65536) (c % 16 * 1048576) = b % 16 * 65536 + c % 16 * 1048576 := or_up 20 _ _ (by omega) (by omega) (by omega) (by omega) (by omega) (by omega)
theorem or_q (o d a b c : Int) (h : 0 ≤ o) (g : o < 256) : bits .or .u32 (o + d % 16 * 256 + a % 16 * 4096) (b % 16 * 65536 + c % 16 * 1048576) = o + d % 16 * 256 + a % 16 * 4096 + (b % 16 * 65536 + c % 16 * 1048576) := or_up 16 _ _ (by omega) (by omega) (by omega) (by omega) (by omega) (by omega)
end Go.Proofs.Ytcjcmnnhmajocab.Ho
namespace Go.Proofs.Ytcjcmnnhmajocab.Ho
open Go.RowKit Kt
set_option linter.unusedVariables false
theorem u32_info : ∃ i, Try.prog.info? 22 = some i ∧ i.zero = some (.int .u32 0) ∧ i.size = 1 ∧ i.bytes = 4 := by
  have h : (Try.prog.info? 22).map (fun i => (i.zero, i.size, i.bytes)) = some (some (.int .u32 0), 1, 4) := by kernel_rfl
  obtain ⟨i, hi, hz⟩ := Option.map_eq_some_iff.1 h
  simp only [Prod.mk.injEq] at hz
  exact ⟨i, hi, hz.1, hz.2.1, hz.2.2⟩
theorem make3 (w : World) : (Instr.makeSlice 26 (.int .i64 0) (.int .i64 3)).run Try.prog w = .ok (.slice (some ⟨w.heap.size, 0, none⟩) 0 3) (w.alloc (.cells #[.int .u32 0, .int .u32 0, .int .u32 0] 22)) := by
  obtain ⟨i, hi, hz, hs, hb⟩ := u32_info
  have hr := run_make (P := Try.prog) w 26 22 i (.int .u32 0) Try.underlying26 hi hz .i64 .i64 0 3 (by omega) (by omega) (by rw [hb]; decide) (by omega)
  rw [hs] at hr
  rw [show madeCells (Value.int IntKind.u32 0).cells ((3 : Int).toNat * 1) = #[.int .u32 0, .int .u32 0, .int .u32 0] by kernel_rfl] at hr
  exact hr
end Go.Proofs.Ytcjcmnnhmajocab.Ho
