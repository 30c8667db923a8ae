/- What alu's kinds reckon: interp.Reckon. -/
import Derived.Test.YtcjcmnnhmajocabPoaa
import Derived.Test.YtcjcmnnhmajocabPoab
import Derived.Test.YtcjcmnnhmajocabPoac
namespace Go.Proofs.Ytcjcmnnhmajocab.Fl
open Go.RowKit
set_option linter.unusedVariables false
set_option linter.unusedSimpArgs false
def hbase (j : Int) (z n y v : Bool) : Bool := if j = 0 then v else if j = 1 then y else if j = 2 then z else if j = 3 then y || z else if j = 4 then n else if j = 5 then n != v else if j = 6 then z || (n != v) else true
def hd (c f : Int) : Bool := if c < 0 ∨ 15 < c then false else if c % 2 = 1 then !(hbase (c / 2) (f % 2 == 1) (f / 2 % 2 == 1) (f / 4 % 2 == 1) (f / 8 % 2 == 1)) else hbase (c / 2) (f % 2 == 1) (f / 2 % 2 == 1) (f / 4 % 2 == 1) (f / 8 % 2 == 1)
theorem ret_bool {a b : Bool} (h : a = b) : Ending.returned (.bool a) = .returned (.bool b) := by rw [h]
theorem nat_and_pow (X i : Nat) : X &&& 2 ^ i = X / 2 ^ i % 2 * 2 ^ i := by
  apply Nat.eq_of_testBit_eq
  intro k
  rw [Nat.testBit_and, Nat.testBit_two_pow]
  by_cases h : i = k
  · subst h
    rw [Nat.testBit_mul_two_pow]
    simp [Nat.testBit_eq_decide_div_mod_eq]
  · rw [Nat.testBit_mul_two_pow]
    by_cases hk : i ≤ k
    · have hlt : X / 2 ^ i % 2 < 2 ^ (k - i) := by
        have h1 : 2 ^ 1 ≤ 2 ^ (k - i) := Nat.pow_le_pow_right (by omega) (by omega)
        have h2 : X / 2 ^ i % 2 < 2 := Nat.mod_lt _ (by omega)
        omega
      simp [h, Nat.testBit_lt_two_pow hlt]
    · simp [h, hk]
theorem and_pow (x : Int) (i : Nat) (h : 0 ≤ x) (g : x < 4294967296) (hi : i < 32) : bits .and .u32 x (2 ^ i) = x / 2 ^ i % 2 * 2 ^ i := by
  obtain ⟨X, rfl⟩ := Int.eq_ofNat_of_zero_le h
  have e : ((2 : Int) ^ i) = ((2 ^ i : Nat) : Int) := by rw [Int.natCast_pow]; rfl
  have hl : 2 ^ i < 4294967296 := Nat.pow_lt_pow_right (a := 2) (by omega) hi
  rw [e, u32_and_nat _ _ (by omega) hl, nat_and_pow, Int.natCast_mul, Int.natCast_emod, Int.natCast_ediv]
  rfl
theorem clear1 (c : Int) (h : -9223372036854775808 ≤ c) (g : c < 9223372036854775808) : bits .andNot .i64 c 1 = c - c % 2 := by
  have hc : (BitVec.ofInt 64 c).toNat = (c % 18446744073709551616).toNat := by rw [BitVec.toNat_ofInt]; rfl
  obtain ⟨X, hX⟩ := Int.eq_ofNat_of_zero_le (show (0 : Int) ≤ c % 18446744073709551616 by omega)
  show IntKind.i64.wrap ((BitVec.ofInt 64 c &&& ~~~BitVec.ofInt 64 1).toNat : Int) = _
  rw [BitVec.toNat_and, hc, hX]
  have e1 : (~~~BitVec.ofInt 64 1).toNat = 18446744073709551614 := by decide
  rw [e1, Int.toNat_natCast, IntKind.wrap_i64]
  have a1 : (X &&& 18446744073709551614) / 2 = X / 2 := by
    have h := Nat.shiftRight_and_distrib (a := X) (b := 18446744073709551614) (i := 1)
    simp only [Nat.shiftRight_eq_div_pow, Nat.pow_one] at h
    rw [h]
    have := Nat.and_two_pow_sub_one_eq_mod (X / 2) 63
    rw [show (18446744073709551614 / 2 : Nat) = 2 ^ 63 - 1 from rfl, this]
    omega
  have a2 : (X &&& 18446744073709551614) % 2 = 0 := by
    have := Nat.and_mod_two_pow (a := X) (b := 18446744073709551614) (n := 1)
    rw [Nat.pow_one] at this
    rw [this]
    show X % 2 &&& 0 = 0
    simp
  omega
theorem hd_else (c f : Int) (h : c < 0 ∨ 15 < c) : hd c f = false := by unfold hd; rw [if_pos h]
theorem hd_ev (j : Nat) (hj : j < 8) (f : Int) : hd (2 * (j : Int)) f = hbase j (f % 2 == 1) (f / 2 % 2 == 1) (f / 4 % 2 == 1) (f / 8 % 2 == 1) := by
  unfold hd; rw [if_neg (by omega), if_neg (by omega), show 2 * (j : Int) / 2 = j by omega]
theorem hd_od (j : Nat) (hj : j < 8) (f : Int) : hd (2 * (j : Int) + 1) f = !hbase j (f % 2 == 1) (f / 2 % 2 == 1) (f / 4 % 2 == 1) (f / 8 % 2 == 1) := by
  unfold hd; rw [if_neg (by omega), if_pos (by omega), show (2 * (j : Int) + 1) / 2 = j by omega]
theorem rows_at (z n y v : Bool) : ∀ j : Fin 8, [Value.bool v, .bool y, .bool z, .bool (y || z), .bool n, .bool (!n == v), .bool (z || (!n == v)), .bool true][j.1] = .bool (hbase j.1 z n y v) := by
  intro j
  match j with
  | ⟨0, _⟩ | ⟨1, _⟩ | ⟨2, _⟩ | ⟨3, _⟩ | ⟨4, _⟩ | ⟨7, _⟩ => rfl
  | ⟨5, _⟩ => cases n <;> cases v <;> rfl
  | ⟨6, _⟩ => cases z <;> cases n <;> cases v <;> rfl
set_option maxRecDepth 100000 in
set_option maxHeartbeats 2000000 in
theorem rholds_ev (j : Nat) (hj : j < 8) (f : Int) (w : World) (h : 0 ≤ f) (g : f < 4294967296) :
    Calls Try.prog 83 #[.int .i64 (2 * (j : Int)), .int .u32 f] w fun e w' => e = .returned (.bool (hd (2 * (j : Int)) f)) ∧ Below w.heap.size w w' := by
  obtain ⟨z, hz⟩ : ∃ z, (f % 2 == 1) = z := ⟨_, rfl⟩
  obtain ⟨n, hn⟩ : ∃ z, (f / 2 % 2 == 1) = z := ⟨_, rfl⟩
  obtain ⟨y, hy⟩ : ∃ z, (f / 4 % 2 == 1) = z := ⟨_, rfl⟩
  obtain ⟨v, hv⟩ : ∃ z, (f / 8 % 2 == 1) = z := ⟨_, rfl⟩
  have H := Lib.hid (hd_ev j hj f)
  have hb := rows_at z n y v ⟨j, hj⟩
  have e1 : (2 * (j : Int)) % 2 = 0 := by omega
  have e2 : (2 * (j : Int)) / 2 = j := by omega
  cases y <;> cases z
  all_goals
    simp only [Bool.false_or, Bool.true_or, Bool.or_false] at hb
    have Hb := Lib.hid hb
    clear hb
    go_enter Try.func83, Try.ntmps83
    go_wp2_with fail
    go_ret
    exact ⟨by rw [H.out, hz, hn, hy, hv, ← Hb.out]; rfl, (Below.refl _ _).alloc (Nat.le_refl _) _⟩
set_option maxRecDepth 100000 in
set_option maxHeartbeats 2000000 in
theorem rholds_od (j : Nat) (hj : j < 8) (f : Int) (w : World) (h : 0 ≤ f) (g : f < 4294967296) :
    Calls Try.prog 83 #[.int .i64 (2 * (j : Int) + 1), .int .u32 f] w fun e w' => e = .returned (.bool (hd (2 * (j : Int) + 1) f)) ∧ Below w.heap.size w w' := by
  obtain ⟨z, hz⟩ : ∃ z, (f % 2 == 1) = z := ⟨_, rfl⟩
  obtain ⟨n, hn⟩ : ∃ z, (f / 2 % 2 == 1) = z := ⟨_, rfl⟩
  obtain ⟨y, hy⟩ : ∃ z, (f / 4 % 2 == 1) = z := ⟨_, rfl⟩
  obtain ⟨v, hv⟩ : ∃ z, (f / 8 % 2 == 1) = z := ⟨_, rfl⟩
  have H := Lib.hid (hd_od j hj f)
  have hb := rows_at z n y v ⟨j, hj⟩
  have e1 : (2 * (j : Int) + 1) % 2 = 1 := by omega
  have e2 : (2 * (j : Int) + 1) / 2 = j := by omega
  cases y <;> cases z
  all_goals
    simp only [Bool.false_or, Bool.true_or, Bool.or_false] at hb
    go_enter Try.func83, Try.ntmps83
    go_wp2_with fail
    go_ret
    exact ⟨by rw [H.out, hz, hn, hy, hv]; rfl, (Below.refl _ _).alloc (Nat.le_refl _) _⟩
set_option maxRecDepth 100000 in
set_option maxHeartbeats 2000000 in
theorem rholds_any (c f : Int) (w : World) (h : 0 ≤ f) (g : f < 4294967296) :
    Calls Try.prog 83 #[.int .i64 c, .int .u32 f] w fun e w' => e = .returned (.bool (hd c f)) ∧ Below w.heap.size w w' := by
  by_cases hc : c < 0 ∨ 15 < c
  · have H := Lib.hid (hd_else c f hc)
    rcases hc with hc | hc
    all_goals
      go_enter Try.func83, Try.ntmps83
      go_wp2_with fail
      go_ret
      exact ⟨by rw [H.out]; rfl, Below.refl _ _⟩
  · rcases (show c % 2 = 0 ∨ c % 2 = 1 by omega) with hp | hp
    · obtain ⟨j, hj⟩ := Int.eq_ofNat_of_zero_le (show 0 ≤ c / 2 by omega)
      obtain rfl : c = 2 * (j : Int) := by omega
      exact rholds_ev j (by omega) f w h g
    · obtain ⟨j, hj⟩ := Int.eq_ofNat_of_zero_le (show 0 ≤ c / 2 by omega)
      obtain rfl : c = 2 * (j : Int) + 1 := by omega
      exact rholds_od j (by omega) f w h g
theorem and1_i64 (c : Int) (h : -9223372036854775808 ≤ c) (g : c < 9223372036854775808) : bits .and .i64 c 1 = c % 2 := by
  have hc : (BitVec.ofInt 64 c).toNat = (c % 18446744073709551616).toNat := by rw [BitVec.toNat_ofInt]; rfl
  obtain ⟨X, hX⟩ := Int.eq_ofNat_of_zero_le (show (0 : Int) ≤ c % 18446744073709551616 by omega)
  show IntKind.i64.wrap ((BitVec.ofInt 64 c &&& BitVec.ofInt 64 1).toNat : Int) = _
  rw [BitVec.toNat_and, hc, hX]
  have e1 : (BitVec.ofInt 64 1).toNat = 1 := by decide
  rw [e1, Int.toNat_natCast, IntKind.wrap_i64, Nat.and_one_is_mod]
  omega
theorem hd_is (c f : Int) (h0 : 0 ≤ c) (h1 : c ≤ 15) : hd c f = (hbase (c / 2) (f % 2 == 1) (f / 2 % 2 == 1) (f / 4 % 2 == 1) (f / 8 % 2 == 1) == decide (c % 2 = 0)) := by
  unfold hd
  rw [if_neg (by omega)]
  rcases (show c % 2 = 0 ∨ c % 2 = 1 by omega) with h | h
  · rw [if_neg (by omega), decide_eq_true h]; simp
  · rw [if_pos h, decide_eq_false (by omega)]; simp
set_option maxRecDepth 100000 in
set_option maxHeartbeats 2000000 in
theorem holds0 (c f : Int) (w : World) (h : 0 ≤ f) (g : f < 4294967296) (c0 : 0 ≤ c) (c1 : c < 2) :
    Calls Try.prog 127 #[.int .i64 c, .int .u32 f] w fun e w' => e = .returned (.bool (hd c f)) ∧ Below w.heap.size w w' := by
  have a2 := and1_i64 c (by omega) (by omega)
  have a1 : bits .andNot .i64 c 1 = 0 := by rw [clear1 c (by omega) (by omega)]; omega
  have e1 : bits .and .u32 f 1 = f % 2 := mask1 f h g
  have e2 : bits .and .u32 f 2 = f / 2 % 2 * 2 := and_pow f 1 h g (by omega)
  have e3 : bits .and .u32 f 4 = f / 4 % 2 * 4 := and_pow f 2 h g (by omega)
  have e4 : bits .and .u32 f 8 = f / 8 % 2 * 8 := and_pow f 3 h g (by omega)
  have z1 : (f % 2 != 0) = (f % 2 == 1) := by rw [Bool.eq_iff_iff]; simp; omega
  have n1 : (f / 2 % 2 * 2 != 0) = (f / 2 % 2 == 1) := by rw [Bool.eq_iff_iff]; simp; omega
  have y1 : (f / 4 % 2 * 4 != 0) = (f / 4 % 2 == 1) := by rw [Bool.eq_iff_iff]; simp; omega
  have v1 : (f / 8 % 2 * 8 != 0) = (f / 8 % 2 == 1) := by rw [Bool.eq_iff_iff]; simp; omega
  have p1 : (c % 2 == 0) = decide (c % 2 = 0) := by rw [Bool.eq_iff_iff]; simp
  obtain ⟨p, hp⟩ : ∃ p, decide (c % 2 = 0) = p := ⟨_, rfl⟩
  obtain ⟨z, hz⟩ : ∃ z, (f % 2 == 1) = z := ⟨_, rfl⟩
  obtain ⟨n, hn⟩ : ∃ z, (f / 2 % 2 == 1) = z := ⟨_, rfl⟩
  obtain ⟨y, hy⟩ : ∃ z, (f / 4 % 2 == 1) = z := ⟨_, rfl⟩
  obtain ⟨v, hv⟩ : ∃ z, (f / 8 % 2 == 1) = z := ⟨_, rfl⟩
  have H := Lib.hid (hd_is c f (by omega) (by omega))
  rw [hz] at z1
  rw [hn] at n1
  rw [hy] at y1
  rw [hv] at v1
  rw [hp] at p1
  have HZ := Lib.hid hz
  have HN := Lib.hid hn
  have HY := Lib.hid hy
  have HV := Lib.hid hv
  have HP := Lib.hid hp
  have HC := Lib.hid (show c / 2 = 0 by omega)
  clear hz hn hy hv hp
  go_enter Try.func127, Try.ntmps127
  go_wp2_with fail
  go_ret
  refine ⟨ret_bool ?_, Below.refl _ _⟩
  rw [H.out, HZ.out, HN.out, HY.out, HV.out, HP.out, HC.out]
  clear H HZ HN HY HV HP HC
  clear z1 n1 y1 v1 p1
  first | (revert z n y v p; decide) | (revert n y v p; decide) | (revert n v p; decide)
set_option maxRecDepth 100000 in
set_option maxHeartbeats 2000000 in
theorem holds1 (c f : Int) (w : World) (h : 0 ≤ f) (g : f < 4294967296) (c0 : 2 ≤ c) (c1 : c < 4) :
    Calls Try.prog 127 #[.int .i64 c, .int .u32 f] w fun e w' => e = .returned (.bool (hd c f)) ∧ Below w.heap.size w w' := by
  have a2 := and1_i64 c (by omega) (by omega)
  have a1 : bits .andNot .i64 c 1 = 2 := by rw [clear1 c (by omega) (by omega)]; omega
  have e1 : bits .and .u32 f 1 = f % 2 := mask1 f h g
  have e2 : bits .and .u32 f 2 = f / 2 % 2 * 2 := and_pow f 1 h g (by omega)
  have e3 : bits .and .u32 f 4 = f / 4 % 2 * 4 := and_pow f 2 h g (by omega)
  have e4 : bits .and .u32 f 8 = f / 8 % 2 * 8 := and_pow f 3 h g (by omega)
  have z1 : (f % 2 != 0) = (f % 2 == 1) := by rw [Bool.eq_iff_iff]; simp; omega
  have n1 : (f / 2 % 2 * 2 != 0) = (f / 2 % 2 == 1) := by rw [Bool.eq_iff_iff]; simp; omega
  have y1 : (f / 4 % 2 * 4 != 0) = (f / 4 % 2 == 1) := by rw [Bool.eq_iff_iff]; simp; omega
  have v1 : (f / 8 % 2 * 8 != 0) = (f / 8 % 2 == 1) := by rw [Bool.eq_iff_iff]; simp; omega
  have p1 : (c % 2 == 0) = decide (c % 2 = 0) := by rw [Bool.eq_iff_iff]; simp
  obtain ⟨p, hp⟩ : ∃ p, decide (c % 2 = 0) = p := ⟨_, rfl⟩
  obtain ⟨z, hz⟩ : ∃ z, (f % 2 == 1) = z := ⟨_, rfl⟩
  obtain ⟨n, hn⟩ : ∃ z, (f / 2 % 2 == 1) = z := ⟨_, rfl⟩
  obtain ⟨y, hy⟩ : ∃ z, (f / 4 % 2 == 1) = z := ⟨_, rfl⟩
  obtain ⟨v, hv⟩ : ∃ z, (f / 8 % 2 == 1) = z := ⟨_, rfl⟩
  have H := Lib.hid (hd_is c f (by omega) (by omega))
  rw [hz] at z1
  rw [hn] at n1
  rw [hy] at y1
  rw [hv] at v1
  rw [hp] at p1
  have HZ := Lib.hid hz
  have HN := Lib.hid hn
  have HY := Lib.hid hy
  have HV := Lib.hid hv
  have HP := Lib.hid hp
  have HC := Lib.hid (show c / 2 = 1 by omega)
  clear hz hn hy hv hp
  go_enter Try.func127, Try.ntmps127
  go_wp2_with fail
  go_ret
  refine ⟨ret_bool ?_, Below.refl _ _⟩
  rw [H.out, HZ.out, HN.out, HY.out, HV.out, HP.out, HC.out]
  clear H HZ HN HY HV HP HC
  clear z1 n1 y1 v1 p1
  first | (revert z n y v p; decide) | (revert n y v p; decide) | (revert n v p; decide)
set_option maxRecDepth 100000 in
set_option maxHeartbeats 2000000 in
theorem holds2 (c f : Int) (w : World) (h : 0 ≤ f) (g : f < 4294967296) (c0 : 4 ≤ c) (c1 : c < 6) :
    Calls Try.prog 127 #[.int .i64 c, .int .u32 f] w fun e w' => e = .returned (.bool (hd c f)) ∧ Below w.heap.size w w' := by
  have a2 := and1_i64 c (by omega) (by omega)
  have a1 : bits .andNot .i64 c 1 = 4 := by rw [clear1 c (by omega) (by omega)]; omega
  have e1 : bits .and .u32 f 1 = f % 2 := mask1 f h g
  have e2 : bits .and .u32 f 2 = f / 2 % 2 * 2 := and_pow f 1 h g (by omega)
  have e3 : bits .and .u32 f 4 = f / 4 % 2 * 4 := and_pow f 2 h g (by omega)
  have e4 : bits .and .u32 f 8 = f / 8 % 2 * 8 := and_pow f 3 h g (by omega)
  have z1 : (f % 2 != 0) = (f % 2 == 1) := by rw [Bool.eq_iff_iff]; simp; omega
  have n1 : (f / 2 % 2 * 2 != 0) = (f / 2 % 2 == 1) := by rw [Bool.eq_iff_iff]; simp; omega
  have y1 : (f / 4 % 2 * 4 != 0) = (f / 4 % 2 == 1) := by rw [Bool.eq_iff_iff]; simp; omega
  have v1 : (f / 8 % 2 * 8 != 0) = (f / 8 % 2 == 1) := by rw [Bool.eq_iff_iff]; simp; omega
  have p1 : (c % 2 == 0) = decide (c % 2 = 0) := by rw [Bool.eq_iff_iff]; simp
  obtain ⟨p, hp⟩ : ∃ p, decide (c % 2 = 0) = p := ⟨_, rfl⟩
  obtain ⟨z, hz⟩ : ∃ z, (f % 2 == 1) = z := ⟨_, rfl⟩
  obtain ⟨n, hn⟩ : ∃ z, (f / 2 % 2 == 1) = z := ⟨_, rfl⟩
  obtain ⟨y, hy⟩ : ∃ z, (f / 4 % 2 == 1) = z := ⟨_, rfl⟩
  obtain ⟨v, hv⟩ : ∃ z, (f / 8 % 2 == 1) = z := ⟨_, rfl⟩
  have H := Lib.hid (hd_is c f (by omega) (by omega))
  rw [hz] at z1
  rw [hn] at n1
  rw [hy] at y1
  rw [hv] at v1
  rw [hp] at p1
  have HZ := Lib.hid hz
  have HN := Lib.hid hn
  have HY := Lib.hid hy
  have HV := Lib.hid hv
  have HP := Lib.hid hp
  have HC := Lib.hid (show c / 2 = 2 by omega)
  clear hz hn hy hv hp
  go_enter Try.func127, Try.ntmps127
  go_wp2_with fail
  go_ret
  refine ⟨ret_bool ?_, Below.refl _ _⟩
  rw [H.out, HZ.out, HN.out, HY.out, HV.out, HP.out, HC.out]
  clear H HZ HN HY HV HP HC
  clear z1 n1 y1 v1 p1
  first | (revert z n y v p; decide) | (revert n y v p; decide) | (revert n v p; decide)
set_option maxRecDepth 100000 in
set_option maxHeartbeats 2000000 in
theorem holds3 (c f : Int) (w : World) (h : 0 ≤ f) (g : f < 4294967296) (c0 : 6 ≤ c) (c1 : c < 8) :
    Calls Try.prog 127 #[.int .i64 c, .int .u32 f] w fun e w' => e = .returned (.bool (hd c f)) ∧ Below w.heap.size w w' := by
  have a2 := and1_i64 c (by omega) (by omega)
  have a1 : bits .andNot .i64 c 1 = 6 := by rw [clear1 c (by omega) (by omega)]; omega
  have e1 : bits .and .u32 f 1 = f % 2 := mask1 f h g
  have e2 : bits .and .u32 f 2 = f / 2 % 2 * 2 := and_pow f 1 h g (by omega)
  have e3 : bits .and .u32 f 4 = f / 4 % 2 * 4 := and_pow f 2 h g (by omega)
  have e4 : bits .and .u32 f 8 = f / 8 % 2 * 8 := and_pow f 3 h g (by omega)
  have z1 : (f % 2 != 0) = (f % 2 == 1) := by rw [Bool.eq_iff_iff]; simp; omega
  have n1 : (f / 2 % 2 * 2 != 0) = (f / 2 % 2 == 1) := by rw [Bool.eq_iff_iff]; simp; omega
  have y1 : (f / 4 % 2 * 4 != 0) = (f / 4 % 2 == 1) := by rw [Bool.eq_iff_iff]; simp; omega
  have v1 : (f / 8 % 2 * 8 != 0) = (f / 8 % 2 == 1) := by rw [Bool.eq_iff_iff]; simp; omega
  have p1 : (c % 2 == 0) = decide (c % 2 = 0) := by rw [Bool.eq_iff_iff]; simp
  obtain ⟨p, hp⟩ : ∃ p, decide (c % 2 = 0) = p := ⟨_, rfl⟩
  obtain ⟨z, hz⟩ : ∃ z, (f % 2 == 1) = z := ⟨_, rfl⟩
  obtain ⟨n, hn⟩ : ∃ z, (f / 2 % 2 == 1) = z := ⟨_, rfl⟩
  obtain ⟨y, hy⟩ : ∃ z, (f / 4 % 2 == 1) = z := ⟨_, rfl⟩
  obtain ⟨v, hv⟩ : ∃ z, (f / 8 % 2 == 1) = z := ⟨_, rfl⟩
  have H := Lib.hid (hd_is c f (by omega) (by omega))
  rw [hz] at z1
  rw [hn] at n1
  rw [hy] at y1
  rw [hv] at v1
  rw [hp] at p1
  have HZ := Lib.hid hz
  have HN := Lib.hid hn
  have HY := Lib.hid hy
  have HV := Lib.hid hv
  have HP := Lib.hid hp
  have HC := Lib.hid (show c / 2 = 3 by omega)
  clear hz hn hy hv hp
  cases y <;> cases z
  all_goals
    go_enter Try.func127, Try.ntmps127
    go_wp2_with fail
    go_ret
    refine ⟨ret_bool ?_, Below.refl _ _⟩
    rw [H.out, HZ.out, HN.out, HY.out, HV.out, HP.out, HC.out]
    clear H HZ HN HY HV HP HC
    clear z1 n1 y1 v1 p1
    first | (revert z n y v p; decide) | (revert n y v p; decide) | (revert n v p; decide)
set_option maxRecDepth 100000 in
set_option maxHeartbeats 2000000 in
theorem holds4 (c f : Int) (w : World) (h : 0 ≤ f) (g : f < 4294967296) (c0 : 8 ≤ c) (c1 : c < 10) :
    Calls Try.prog 127 #[.int .i64 c, .int .u32 f] w fun e w' => e = .returned (.bool (hd c f)) ∧ Below w.heap.size w w' := by
  have a2 := and1_i64 c (by omega) (by omega)
  have a1 : bits .andNot .i64 c 1 = 8 := by rw [clear1 c (by omega) (by omega)]; omega
  have e1 : bits .and .u32 f 1 = f % 2 := mask1 f h g
  have e2 : bits .and .u32 f 2 = f / 2 % 2 * 2 := and_pow f 1 h g (by omega)
  have e3 : bits .and .u32 f 4 = f / 4 % 2 * 4 := and_pow f 2 h g (by omega)
  have e4 : bits .and .u32 f 8 = f / 8 % 2 * 8 := and_pow f 3 h g (by omega)
  have z1 : (f % 2 != 0) = (f % 2 == 1) := by rw [Bool.eq_iff_iff]; simp; omega
  have n1 : (f / 2 % 2 * 2 != 0) = (f / 2 % 2 == 1) := by rw [Bool.eq_iff_iff]; simp; omega
  have y1 : (f / 4 % 2 * 4 != 0) = (f / 4 % 2 == 1) := by rw [Bool.eq_iff_iff]; simp; omega
  have v1 : (f / 8 % 2 * 8 != 0) = (f / 8 % 2 == 1) := by rw [Bool.eq_iff_iff]; simp; omega
  have p1 : (c % 2 == 0) = decide (c % 2 = 0) := by rw [Bool.eq_iff_iff]; simp
  obtain ⟨p, hp⟩ : ∃ p, decide (c % 2 = 0) = p := ⟨_, rfl⟩
  obtain ⟨z, hz⟩ : ∃ z, (f % 2 == 1) = z := ⟨_, rfl⟩
  obtain ⟨n, hn⟩ : ∃ z, (f / 2 % 2 == 1) = z := ⟨_, rfl⟩
  obtain ⟨y, hy⟩ : ∃ z, (f / 4 % 2 == 1) = z := ⟨_, rfl⟩
  obtain ⟨v, hv⟩ : ∃ z, (f / 8 % 2 == 1) = z := ⟨_, rfl⟩
  have H := Lib.hid (hd_is c f (by omega) (by omega))
  rw [hz] at z1
  rw [hn] at n1
  rw [hy] at y1
  rw [hv] at v1
  rw [hp] at p1
  have HZ := Lib.hid hz
  have HN := Lib.hid hn
  have HY := Lib.hid hy
  have HV := Lib.hid hv
  have HP := Lib.hid hp
  have HC := Lib.hid (show c / 2 = 4 by omega)
  clear hz hn hy hv hp
  go_enter Try.func127, Try.ntmps127
  go_wp2_with fail
  go_ret
  refine ⟨ret_bool ?_, Below.refl _ _⟩
  rw [H.out, HZ.out, HN.out, HY.out, HV.out, HP.out, HC.out]
  clear H HZ HN HY HV HP HC
  clear z1 n1 y1 v1 p1
  first | (revert z n y v p; decide) | (revert n y v p; decide) | (revert n v p; decide)
set_option maxRecDepth 100000 in
set_option maxHeartbeats 2000000 in
theorem holds5 (c f : Int) (w : World) (h : 0 ≤ f) (g : f < 4294967296) (c0 : 10 ≤ c) (c1 : c < 12) :
    Calls Try.prog 127 #[.int .i64 c, .int .u32 f] w fun e w' => e = .returned (.bool (hd c f)) ∧ Below w.heap.size w w' := by
  have a2 := and1_i64 c (by omega) (by omega)
  have a1 : bits .andNot .i64 c 1 = 10 := by rw [clear1 c (by omega) (by omega)]; omega
  have e1 : bits .and .u32 f 1 = f % 2 := mask1 f h g
  have e2 : bits .and .u32 f 2 = f / 2 % 2 * 2 := and_pow f 1 h g (by omega)
  have e3 : bits .and .u32 f 4 = f / 4 % 2 * 4 := and_pow f 2 h g (by omega)
  have e4 : bits .and .u32 f 8 = f / 8 % 2 * 8 := and_pow f 3 h g (by omega)
  have z1 : (f % 2 != 0) = (f % 2 == 1) := by rw [Bool.eq_iff_iff]; simp; omega
  have n1 : (f / 2 % 2 * 2 != 0) = (f / 2 % 2 == 1) := by rw [Bool.eq_iff_iff]; simp; omega
  have y1 : (f / 4 % 2 * 4 != 0) = (f / 4 % 2 == 1) := by rw [Bool.eq_iff_iff]; simp; omega
  have v1 : (f / 8 % 2 * 8 != 0) = (f / 8 % 2 == 1) := by rw [Bool.eq_iff_iff]; simp; omega
  have p1 : (c % 2 == 0) = decide (c % 2 = 0) := by rw [Bool.eq_iff_iff]; simp
  obtain ⟨p, hp⟩ : ∃ p, decide (c % 2 = 0) = p := ⟨_, rfl⟩
  obtain ⟨z, hz⟩ : ∃ z, (f % 2 == 1) = z := ⟨_, rfl⟩
  obtain ⟨n, hn⟩ : ∃ z, (f / 2 % 2 == 1) = z := ⟨_, rfl⟩
  obtain ⟨y, hy⟩ : ∃ z, (f / 4 % 2 == 1) = z := ⟨_, rfl⟩
  obtain ⟨v, hv⟩ : ∃ z, (f / 8 % 2 == 1) = z := ⟨_, rfl⟩
  have H := Lib.hid (hd_is c f (by omega) (by omega))
  rw [hz] at z1
  rw [hn] at n1
  rw [hy] at y1
  rw [hv] at v1
  rw [hp] at p1
  have HZ := Lib.hid hz
  have HN := Lib.hid hn
  have HY := Lib.hid hy
  have HV := Lib.hid hv
  have HP := Lib.hid hp
  have HC := Lib.hid (show c / 2 = 5 by omega)
  clear hz hn hy hv hp
  go_enter Try.func127, Try.ntmps127
  go_wp2_with fail
  go_ret
  refine ⟨ret_bool ?_, Below.refl _ _⟩
  rw [H.out, HZ.out, HN.out, HY.out, HV.out, HP.out, HC.out]
  clear H HZ HN HY HV HP HC
  clear z1 n1 y1 v1 p1
  first | (revert z n y v p; decide) | (revert n y v p; decide) | (revert n v p; decide)
set_option maxRecDepth 100000 in
set_option maxHeartbeats 2000000 in
theorem holds6 (c f : Int) (w : World) (h : 0 ≤ f) (g : f < 4294967296) (c0 : 12 ≤ c) (c1 : c < 14) :
    Calls Try.prog 127 #[.int .i64 c, .int .u32 f] w fun e w' => e = .returned (.bool (hd c f)) ∧ Below w.heap.size w w' := by
  have a2 := and1_i64 c (by omega) (by omega)
  have a1 : bits .andNot .i64 c 1 = 12 := by rw [clear1 c (by omega) (by omega)]; omega
  have e1 : bits .and .u32 f 1 = f % 2 := mask1 f h g
  have e2 : bits .and .u32 f 2 = f / 2 % 2 * 2 := and_pow f 1 h g (by omega)
  have e3 : bits .and .u32 f 4 = f / 4 % 2 * 4 := and_pow f 2 h g (by omega)
  have e4 : bits .and .u32 f 8 = f / 8 % 2 * 8 := and_pow f 3 h g (by omega)
  have z1 : (f % 2 != 0) = (f % 2 == 1) := by rw [Bool.eq_iff_iff]; simp; omega
  have n1 : (f / 2 % 2 * 2 != 0) = (f / 2 % 2 == 1) := by rw [Bool.eq_iff_iff]; simp; omega
  have y1 : (f / 4 % 2 * 4 != 0) = (f / 4 % 2 == 1) := by rw [Bool.eq_iff_iff]; simp; omega
  have v1 : (f / 8 % 2 * 8 != 0) = (f / 8 % 2 == 1) := by rw [Bool.eq_iff_iff]; simp; omega
  have p1 : (c % 2 == 0) = decide (c % 2 = 0) := by rw [Bool.eq_iff_iff]; simp
  obtain ⟨p, hp⟩ : ∃ p, decide (c % 2 = 0) = p := ⟨_, rfl⟩
  obtain ⟨z, hz⟩ : ∃ z, (f % 2 == 1) = z := ⟨_, rfl⟩
  obtain ⟨n, hn⟩ : ∃ z, (f / 2 % 2 == 1) = z := ⟨_, rfl⟩
  obtain ⟨y, hy⟩ : ∃ z, (f / 4 % 2 == 1) = z := ⟨_, rfl⟩
  obtain ⟨v, hv⟩ : ∃ z, (f / 8 % 2 == 1) = z := ⟨_, rfl⟩
  have H := Lib.hid (hd_is c f (by omega) (by omega))
  rw [hz] at z1
  rw [hn] at n1
  rw [hy] at y1
  rw [hv] at v1
  rw [hp] at p1
  have HZ := Lib.hid hz
  have HN := Lib.hid hn
  have HY := Lib.hid hy
  have HV := Lib.hid hv
  have HP := Lib.hid hp
  have HC := Lib.hid (show c / 2 = 6 by omega)
  clear hz hn hy hv hp
  cases z
  all_goals
    go_enter Try.func127, Try.ntmps127
    go_wp2_with fail
    go_ret
    refine ⟨ret_bool ?_, Below.refl _ _⟩
    rw [H.out, HZ.out, HN.out, HY.out, HV.out, HP.out, HC.out]
    clear H HZ HN HY HV HP HC
    clear z1 n1 y1 v1 p1
    first | (revert z n y v p; decide) | (revert n y v p; decide) | (revert n v p; decide)
set_option maxRecDepth 100000 in
set_option maxHeartbeats 2000000 in
theorem holds7 (c f : Int) (w : World) (h : 0 ≤ f) (g : f < 4294967296) (c0 : 14 ≤ c) (c1 : c < 16) :
    Calls Try.prog 127 #[.int .i64 c, .int .u32 f] w fun e w' => e = .returned (.bool (hd c f)) ∧ Below w.heap.size w w' := by
  have a2 := and1_i64 c (by omega) (by omega)
  have a1 : bits .andNot .i64 c 1 = 14 := by rw [clear1 c (by omega) (by omega)]; omega
  have e1 : bits .and .u32 f 1 = f % 2 := mask1 f h g
  have e2 : bits .and .u32 f 2 = f / 2 % 2 * 2 := and_pow f 1 h g (by omega)
  have e3 : bits .and .u32 f 4 = f / 4 % 2 * 4 := and_pow f 2 h g (by omega)
  have e4 : bits .and .u32 f 8 = f / 8 % 2 * 8 := and_pow f 3 h g (by omega)
  have z1 : (f % 2 != 0) = (f % 2 == 1) := by rw [Bool.eq_iff_iff]; simp; omega
  have n1 : (f / 2 % 2 * 2 != 0) = (f / 2 % 2 == 1) := by rw [Bool.eq_iff_iff]; simp; omega
  have y1 : (f / 4 % 2 * 4 != 0) = (f / 4 % 2 == 1) := by rw [Bool.eq_iff_iff]; simp; omega
  have v1 : (f / 8 % 2 * 8 != 0) = (f / 8 % 2 == 1) := by rw [Bool.eq_iff_iff]; simp; omega
  have p1 : (c % 2 == 0) = decide (c % 2 = 0) := by rw [Bool.eq_iff_iff]; simp
  obtain ⟨p, hp⟩ : ∃ p, decide (c % 2 = 0) = p := ⟨_, rfl⟩
  obtain ⟨z, hz⟩ : ∃ z, (f % 2 == 1) = z := ⟨_, rfl⟩
  obtain ⟨n, hn⟩ : ∃ z, (f / 2 % 2 == 1) = z := ⟨_, rfl⟩
  obtain ⟨y, hy⟩ : ∃ z, (f / 4 % 2 == 1) = z := ⟨_, rfl⟩
  obtain ⟨v, hv⟩ : ∃ z, (f / 8 % 2 == 1) = z := ⟨_, rfl⟩
  have H := Lib.hid (hd_is c f (by omega) (by omega))
  rw [hz] at z1
  rw [hn] at n1
  rw [hy] at y1
  rw [hv] at v1
  rw [hp] at p1
  have HZ := Lib.hid hz
  have HN := Lib.hid hn
  have HY := Lib.hid hy
  have HV := Lib.hid hv
  have HP := Lib.hid hp
  have HC := Lib.hid (show c / 2 = 7 by omega)
  clear hz hn hy hv hp
  go_enter Try.func127, Try.ntmps127
  go_wp2_with fail
  go_ret
  refine ⟨ret_bool ?_, Below.refl _ _⟩
  rw [H.out, HZ.out, HN.out, HY.out, HV.out, HP.out, HC.out]
  clear H HZ HN HY HV HP HC
  clear z1 n1 y1 v1 p1
  first | (revert z n y v p; decide) | (revert n y v p; decide) | (revert n v p; decide)
set_option maxRecDepth 100000 in
set_option maxHeartbeats 2000000 in
theorem holds_any (c f : Int) (w : World) (h : 0 ≤ f) (g : f < 4294967296) (hc0 : -9223372036854775808 ≤ c) (hc1 : c < 9223372036854775808) :
    Calls Try.prog 127 #[.int .i64 c, .int .u32 f] w fun e w' => e = .returned (.bool (hd c f)) ∧ Below w.heap.size w w' := by
  by_cases hc : c < 0 ∨ 15 < c
  · have H := Lib.hid (hd_else c f hc)
    have a1 := clear1 c hc0 hc1
    obtain ⟨q, hq⟩ : ∃ q, q = c - c % 2 := ⟨_, rfl⟩
    rw [← hq] at a1
    have hq2 : q < 0 ∨ 15 < q := by omega
    clear hq
    rcases hq2 with hq | hq
    all_goals
      go_enter Try.func127, Try.ntmps127
      go_wp2_with fail
      go_ret
      exact ⟨by rw [H.out]; rfl, Below.refl _ _⟩
  · rcases (show (0 ≤ c ∧ c < 2) ∨ (2 ≤ c ∧ c < 4) ∨ (4 ≤ c ∧ c < 6) ∨ (6 ≤ c ∧ c < 8) ∨ (8 ≤ c ∧ c < 10) ∨ (10 ≤ c ∧ c < 12) ∨ (12 ≤ c ∧ c < 14) ∨ (14 ≤ c ∧ c < 16) by omega) with ⟨a, b⟩ | ⟨a, b⟩ | ⟨a, b⟩ | ⟨a, b⟩ | ⟨a, b⟩ | ⟨a, b⟩ | ⟨a, b⟩ | ⟨a, b⟩
    · exact holds0 c f w h g a b
    · exact holds1 c f w h g a b
    · exact holds2 c f w h g a b
    · exact holds3 c f w h g a b
    · exact holds4 c f w h g a b
    · exact holds5 c f w h g a b
    · exact holds6 c f w h g a b
    · exact holds7 c f w h g a b
end Go.Proofs.Ytcjcmnnhmajocab.Fl
namespace Go.Proofs.Ytcjcmnnhmajocab.Fl
open Go.RowKit Kt
set_option linter.unusedVariables false
set_option linter.unusedSimpArgs false
def kinds : Array Value := #[.int .i64 1, .int .i64 2, .int .i64 3, .int .i64 4, .int .i64 5, .int .i64 5, .int .i64 5, .int .i64 3, .int .i64 5, .int .i64 6, .int .i64 7, .int .i64 8, .int .i64 9, .int .i64 10, .int .i64 5, .int .i64 5]
def rkv (o a b f : Int) : Int :=
  if o = 0 then (a + b) % 4294967296
  else if o = 1 then (a + b + f / 4 % 2) % 4294967296
  else if o = 2 then (a - b) % 4294967296
  else if o = 3 then (a - b - f / 4 % 2) % 4294967296
  else if o = 4 then bits .and .u32 a b
  else if o = 5 then bits .or .u32 a b
  else if o = 6 then bits .xor .u32 a b
  else if o = 7 then a
  else if o = 8 then a
  else if o = 9 then a * 2 ^ n5 b % 4294967296
  else if o = 10 then a / 2 ^ n5 b
  else if o = 11 then sg a / 2 ^ n5 b % 4294967296
  else if o = 12 then rol a (n5 b)
  else if o = 13 then a * b % 4294967296
  else if o = 14 then (if b = 0 then 0 else a / b)
  else if o = 15 then (if b = 0 then 0 else a % b)
  else 0
def rkf (o a b f : Int) : Int :=
  if o = 0 then fl 1 a b f
  else if o = 1 then fl 2 a b f
  else if o = 2 then fl 3 a b f
  else if o = 3 then fl 4 a b f
  else if o = 4 then zn (bits .and .u32 a b)
  else if o = 5 then zn (bits .or .u32 a b)
  else if o = 6 then zn (bits .xor .u32 a b)
  else if o = 7 then fl 3 a b f
  else if o = 8 then zn (bits .and .u32 a b)
  else if o = 9 then fl 6 a b f
  else if o = 10 then fl 7 a b f
  else if o = 11 then fl 8 a b f
  else if o = 12 then fl 9 a b f
  else if o = 13 then fl 10 a b f
  else if o = 14 then (if b = 0 then 0 else zn (a / b))
  else if o = 15 then (if b = 0 then 0 else zn (a % b))
  else 0
def rko (o b : Int) : Bool := !(decide (o < 0) || decide (15 < o) || (decide (14 ≤ o) && decide (b = 0)))
theorem bits_lt (op : BinOp) (a b : Int) (h0 : 0 ≤ a) (g0 : a < 4294967296) (h1 : 0 ≤ b) (g1 : b < 4294967296) : 0 ≤ bits op .u32 a b ∧ bits op .u32 a b < 4294967296 := by
  unfold bits
  rw [IntKind.wrap_u32]
  omega
theorem rk_bad (o a b f : Int) (h : o < 0 ∨ 15 < o) : rkv o a b f = 0 ∧ rkf o a b f = 0 ∧ rko o b = false := by
  refine ⟨?_, ?_, ?_⟩
  · unfold rkv; rw [if_neg (by omega), if_neg (by omega), if_neg (by omega), if_neg (by omega), if_neg (by omega), if_neg (by omega), if_neg (by omega), if_neg (by omega), if_neg (by omega), if_neg (by omega), if_neg (by omega), if_neg (by omega), if_neg (by omega), if_neg (by omega), if_neg (by omega), if_neg (by omega)]
  · unfold rkf; rw [if_neg (by omega), if_neg (by omega), if_neg (by omega), if_neg (by omega), if_neg (by omega), if_neg (by omega), if_neg (by omega), if_neg (by omega), if_neg (by omega), if_neg (by omega), if_neg (by omega), if_neg (by omega), if_neg (by omega), if_neg (by omega), if_neg (by omega), if_neg (by omega)]
  · unfold rko; rcases h with h | h <;> simp [h]
theorem ret_rk {a a' c c' : Int} {d d' : Bool} (h : a = a') (g : c = c') (k : d = d') : Ending.returned (.tuple #[.int .u32 a, .int .u32 c, .bool d]) = .returned (.tuple #[.int .u32 a', .int .u32 c', .bool d']) := by rw [h, g, k]
theorem rk_zero (o a f : Int) (h : o = 14 ∨ o = 15) : rkv o a 0 f = 0 ∧ rkf o a 0 f = 0 ∧ rko o 0 = false := by
  rcases h with rfl | rfl <;> exact ⟨rfl, rfl, rfl⟩
end Go.Proofs.Ytcjcmnnhmajocab.Fl
