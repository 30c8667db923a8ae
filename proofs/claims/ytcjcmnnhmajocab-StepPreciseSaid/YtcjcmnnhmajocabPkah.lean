/- What alu's kinds reckon: interp.Reckon. -/
import Derived.Test.YtcjcmnnhmajocabPkaf
import Derived.Test.YtcjcmnnhmajocabPkag
namespace Go.Proofs.Ytcjcmnnhmajocab.Fl
open Go.RowKit
set_option linter.unusedVariables false
set_option linter.unusedSimpArgs false
def hbase (j : Int) (z n y v : Bool) : Bool := if j = 0 then v else if j = 1 then y else if j = 2 then z else if j = 3 then y || z else if j = 4 then n else if j = 5 then n != v else if j = 6 then z || (n != v) else true
def hd (c f : Int) : Bool := if c < 0 ∨ 15 < c then false else if c % 2 = 1 then !(hbase (c / 2) (f % 2 == 1) (f / 2 % 2 == 1) (f / 4 % 2 == 1) (f / 8 % 2 == 1)) else hbase (c / 2) (f % 2 == 1) (f / 2 % 2 == 1) (f / 4 % 2 == 1) (f / 8 % 2 == 1)
theorem ret_bool {a b : Bool} (h : a = b) : Ending.returned (.bool a) = .returned (.bool b) := by rw [h]
theorem nat_and_pow (X i : Nat) : X &&& 2 ^ i = X / 2 ^ i % 2 * 2 ^ i := by
  apply Nat.eq_of_testBit_eq
  intro k
  rw [Nat.testBit_and, Nat.testBit_two_pow]
  by_cases h : i = k
  · subst h
    rw [Nat.testBit_mul_two_pow]
    simp [Nat.testBit_eq_decide_div_mod_eq]
  · rw [Nat.testBit_mul_two_pow]
    by_cases hk : i ≤ k
    · have hlt : X / 2 ^ i % 2 < 2 ^ (k - i) := by
        have h1 : 2 ^ 1 ≤ 2 ^ (k - i) := Nat.pow_le_pow_right (by omega) (by omega)
        have h2 : X / 2 ^ i % 2 < 2 := Nat.mod_lt _ (by omega)
        omega
      simp [h, Nat.testBit_lt_two_pow hlt]
    · simp [h, hk]
theorem and_pow (x : Int) (i : Nat) (h : 0 ≤ x) (g : x < 4294967296) (hi : i < 32) : bits .and .u32 x (2 ^ i) = x / 2 ^ i % 2 * 2 ^ i := by
  obtain ⟨X, rfl⟩ := Int.eq_ofNat_of_zero_le h
  have e : ((2 : Int) ^ i) = ((2 ^ i : Nat) : Int) := by rw [Int.natCast_pow]; rfl
  have hl : 2 ^ i < 4294967296 := Nat.pow_lt_pow_right (a := 2) (by omega) hi
  rw [e, u32_and_nat _ _ (by omega) hl, nat_and_pow, Int.natCast_mul, Int.natCast_emod, Int.natCast_ediv]
  rfl
theorem clear1 (c : Int) (h : -9223372036854775808 ≤ c) (g : c < 9223372036854775808) : bits .andNot .i64 c 1 = c - c % 2 := by
  have hc : (BitVec.ofInt 64 c).toNat = (c % 18446744073709551616).toNat := by rw [BitVec.toNat_ofInt]; rfl
  obtain ⟨X, hX⟩ := Int.eq_ofNat_of_zero_le (show (0 : Int) ≤ c % 18446744073709551616 by omega)
  show IntKind.i64.wrap ((BitVec.ofInt 64 c &&& ~~~BitVec.ofInt 64 1).toNat : Int) = _
  rw [BitVec.toNat_and, hc, hX]
  have e1 : (~~~BitVec.ofInt 64 1).toNat = 18446744073709551614 := by decide
  rw [e1, Int.toNat_natCast, IntKind.wrap_i64]
  have a1 : (X &&& 18446744073709551614) / 2 = X / 2 := by
    have h := Nat.shiftRight_and_distrib (a := X) (b := 18446744073709551614) (i := 1)
    simp only [Nat.shiftRight_eq_div_pow, Nat.pow_one] at h
    rw [h]
    have := Nat.and_two_pow_sub_one_eq_mod (X / 2) 63
    rw [show (18446744073709551614 / 2 : Nat) = 2 ^ 63 - 1 from rfl, this]
    omega
  have a2 : (X &&& 18446744073709551614) % 2 = 0 := by
    have := Nat.and_mod_two_pow (a := X) (b := 18446744073709551614) (n := 1)
    rw [Nat.pow_one] at this
    rw [this]
    show X % 2 &&& 0 = 0
    simp
  omega
theorem hd_else (c f : Int) (h : c < 0 ∨ 15 < c) : hd c f = false := by unfold hd; rw [if_pos h]
theorem hd_ev (j : Nat) (hj : j < 8) (f : Int) : hd (2 * (j : Int)) f = hbase j (f % 2 == 1) (f / 2 % 2 == 1) (f / 4 % 2 == 1) (f / 8 % 2 == 1) := by
  unfold hd; rw [if_neg (by omega), if_neg (by omega), show 2 * (j : Int) / 2 = j by omega]
theorem hd_od (j : Nat) (hj : j < 8) (f : Int) : hd (2 * (j : Int) + 1) f = !hbase j (f % 2 == 1) (f / 2 % 2 == 1) (f / 4 % 2 == 1) (f / 8 % 2 == 1) := by
  unfold hd; rw [if_neg (by omega), if_pos (by omega), show (2 * (j : Int) + 1) / 2 = j by omega]
theorem rows_at (z n y v : Bool) : ∀ j : Fin 8, [Value.bool v, .bool y, .bool z, .bool (y || z), .bool n, .bool (!n == v), .bool (z || (!n == v)), .bool true][j.1] = .bool (hbase j.1 z n y v) := by
  intro j
  match j with
  | ⟨0, _⟩ | ⟨1, _⟩ | ⟨2, _⟩ | ⟨3, _⟩ | ⟨4, _⟩ | ⟨7, _⟩ => rfl
  | ⟨5, _⟩ => cases n <;> cases v <;> rfl
  | ⟨6, _⟩ => cases z <;> cases n <;> cases v <;> rfl
set_option maxRecDepth 100000 in
set_option maxHeartbeats 2000000 in
theorem rholds_ev (j : Nat) (hj : j < 8) (f : Int) (w : World) (h : 0 ≤ f) (g : f < 4294967296) :
    Calls Try.prog 83 #[.int .i64 (2 * (j : Int)), .int .u32 f] w fun e w' => e = .returned (.bool (hd (2 * (j : Int)) f)) ∧ Below w.heap.size w w' := by
  obtain ⟨z, hz⟩ : ∃ z, (f % 2 == 1) = z := ⟨_, rfl⟩
  obtain ⟨n, hn⟩ : ∃ z, (f / 2 % 2 == 1) = z := ⟨_, rfl⟩
  obtain ⟨y, hy⟩ : ∃ z, (f / 4 % 2 == 1) = z := ⟨_, rfl⟩
  obtain ⟨v, hv⟩ : ∃ z, (f / 8 % 2 == 1) = z := ⟨_, rfl⟩
  have H := Lib.hid (hd_ev j hj f)
  have hb := rows_at z n y v ⟨j, hj⟩
  have e1 : (2 * (j : Int)) % 2 = 0 := by omega
  have e2 : (2 * (j : Int)) / 2 = j := by omega
  cases y <;> cases z
  all_goals
    simp only [Bool.false_or, Bool.true_or, Bool.or_false] at hb
    have Hb := Lib.hid hb
    clear hb
    go_enter Try.func83, Try.ntmps83
    go_wp2_with fail
    go_ret
    exact ⟨by rw [H.out, hz, hn, hy, hv, ← Hb.out]; rfl, (Below.refl _ _).alloc (Nat.le_refl _) _⟩
set_option maxRecDepth 100000 in
set_option maxHeartbeats 2000000 in
theorem rholds_od (j : Nat) (hj : j < 8) (f : Int) (w : World) (h : 0 ≤ f) (g : f < 4294967296) :
    Calls Try.prog 83 #[.int .i64 (2 * (j : Int) + 1), .int .u32 f] w fun e w' => e = .returned (.bool (hd (2 * (j : Int) + 1) f)) ∧ Below w.heap.size w w' := by
  obtain ⟨z, hz⟩ : ∃ z, (f % 2 == 1) = z := ⟨_, rfl⟩
  obtain ⟨n, hn⟩ : ∃ z, (f / 2 % 2 == 1) = z := ⟨_, rfl⟩
  obtain ⟨y, hy⟩ : ∃ z, (f / 4 % 2 == 1) = z := ⟨_, rfl⟩
  obtain ⟨v, hv⟩ : ∃ z, (f / 8 % 2 == 1) = z := ⟨_, rfl⟩
  have H := Lib.hid (hd_od j hj f)
  have hb := rows_at z n y v ⟨j, hj⟩
  have e1 : (2 * (j : Int) + 1) % 2 = 1 := by omega
  have e2 : (2 * (j : Int) + 1) / 2 = j := by omega
  cases y <;> cases z
  all_goals
    simp only [Bool.false_or, Bool.true_or, Bool.or_false] at hb
    go_enter Try.func83, Try.ntmps83
    go_wp2_with fail
    go_ret
    exact ⟨by rw [H.out, hz, hn, hy, hv]; rfl, (Below.refl _ _).alloc (Nat.le_refl _) _⟩
set_option maxRecDepth 100000 in
set_option maxHeartbeats 2000000 in
theorem rholds_any (c f : Int) (w : World) (h : 0 ≤ f) (g : f < 4294967296) :
    Calls Try.prog 83 #[.int .i64 c, .int .u32 f] w fun e w' => e = .returned (.bool (hd c f)) ∧ Below w.heap.size w w' := by
  by_cases hc : c < 0 ∨ 15 < c
  · have H := Lib.hid (hd_else c f hc)
    rcases hc with hc | hc
    all_goals
      go_enter Try.func83, Try.ntmps83
      go_wp2_with fail
      go_ret
      exact ⟨by rw [H.out]; rfl, Below.refl _ _⟩
  · rcases (show c % 2 = 0 ∨ c % 2 = 1 by omega) with hp | hp
    · obtain ⟨j, hj⟩ := Int.eq_ofNat_of_zero_le (show 0 ≤ c / 2 by omega)
      obtain rfl : c = 2 * (j : Int) := by omega
      exact rholds_ev j (by omega) f w h g
    · obtain ⟨j, hj⟩ := Int.eq_ofNat_of_zero_le (show 0 ≤ c / 2 by omega)
      obtain rfl : c = 2 * (j : Int) + 1 := by omega
      exact rholds_od j (by omega) f w h g
theorem and1_i64 (c : Int) (h : -9223372036854775808 ≤ c) (g : c < 9223372036854775808) : bits .and .i64 c 1 = c % 2 := by
  have hc : (BitVec.ofInt 64 c).toNat = (c % 18446744073709551616).toNat := by rw [BitVec.toNat_ofInt]; rfl
  obtain ⟨X, hX⟩ := Int.eq_ofNat_of_zero_le (show (0 : Int) ≤ c % 18446744073709551616 by omega)
  show IntKind.i64.wrap ((BitVec.ofInt 64 c &&& BitVec.ofInt 64 1).toNat : Int) = _
  rw [BitVec.toNat_and, hc, hX]
  have e1 : (BitVec.ofInt 64 1).toNat = 1 := by decide
  rw [e1, Int.toNat_natCast, IntKind.wrap_i64, Nat.and_one_is_mod]
  omega
theorem hd_is (c f : Int) (h0 : 0 ≤ c) (h1 : c ≤ 15) : hd c f = (hbase (c / 2) (f % 2 == 1) (f / 2 % 2 == 1) (f / 4 % 2 == 1) (f / 8 % 2 == 1) == decide (c % 2 = 0)) := by
  unfold hd
  rw [if_neg (by omega)]
  rcases (show c % 2 = 0 ∨ c % 2 = 1 by omega) with h | h
  · rw [if_neg (by omega), decide_eq_true h]; simp
  · rw [if_pos h, decide_eq_false (by omega)]; simp
set_option maxRecDepth 100000 in
set_option maxHeartbeats 2000000 in
theorem holds0 (c f : Int) (w : World) (h : 0 ≤ f) (g : f < 4294967296) (c0 : 0 ≤ c) (c1 : c < 2) :
    Calls Try.prog 127 #[.int .i64 c, .int .u32 f] w fun e w' => e = .returned (.bool (hd c f)) ∧ Below w.heap.size w w' := by
  have a2 := and1_i64 c (by omega) (by omega)
  have a1 : bits .andNot .i64 c 1 = 0 := by rw [clear1 c (by omega) (by omega)]; omega
  have e1 : bits .and .u32 f 1 = f % 2 := mask1 f h g
  have e2 : bits .and .u32 f 2 = f / 2 % 2 * 2 := and_pow f 1 h g (by omega)
  have e3 : bits .and .u32 f 4 = f / 4 % 2 * 4 := and_pow f 2 h g (by omega)
  have e4 : bits .and .u32 f 8 = f / 8 % 2 * 8 := and_pow f 3 h g (by omega)
  have z1 : (f % 2 != 0) = (f % 2 == 1) := by rw [Bool.eq_iff_iff]; simp; omega
  have n1 : (f / 2 % 2 * 2 != 0) = (f / 2 % 2 == 1) := by rw [Bool.eq_iff_iff]; simp; omega
  have y1 : (f / 4 % 2 * 4 != 0) = (f / 4 % 2 == 1) := by rw [Bool.eq_iff_iff]; simp; omega
  have v1 : (f / 8 % 2 * 8 != 0) = (f / 8 % 2 == 1) := by rw [Bool.eq_iff_iff]; simp; omega
  have p1 : (c % 2 == 0) = decide (c % 2 = 0) := by rw [Bool.eq_iff_iff]; simp
  obtain ⟨p, hp⟩ : ∃ p, decide (c % 2 = 0) = p := ⟨_, rfl⟩
  obtain ⟨z, hz⟩ : ∃ z, (f % 2 == 1) = z := ⟨_, rfl⟩
  obtain ⟨n, hn⟩ : ∃ z, (f / 2 % 2 == 1) = z := ⟨_, rfl⟩
  obtain ⟨y, hy⟩ : ∃ z, (f / 4 % 2 == 1) = z := ⟨_, rfl⟩
  obtain ⟨v, hv⟩ : ∃ z, (f / 8 % 2 == 1) = z := ⟨_, rfl⟩
  have H := Lib.hid (hd_is c f (by omega) (by omega))
  rw [hz] at z1
  rw [hn] at n1
  rw [hy] at y1
  rw [hv] at v1
  rw [hp] at p1
  have HZ := Lib.hid hz
  have HN := Lib.hid hn
  have HY := Lib.hid hy
  have HV := Lib.hid hv
  have HP := Lib.hid hp
  have HC := Lib.hid (show c / 2 = 0 by omega)
  clear hz hn hy hv hp
  go_enter Try.func127, Try.ntmps127
  go_wp2_with fail
  go_ret
  refine ⟨ret_bool ?_, Below.refl _ _⟩
  rw [H.out, HZ.out, HN.out, HY.out, HV.out, HP.out, HC.out]
  clear H HZ HN HY HV HP HC
  clear z1 n1 y1 v1 p1
  first | (revert z n y v p; decide) | (revert n y v p; decide) | (revert n v p; decide)
set_option maxRecDepth 100000 in
set_option maxHeartbeats 2000000 in
theorem holds1 (c f : Int) (w : World) (h : 0 ≤ f) (g : f < 4294967296) (c0 : 2 ≤ c) (c1 : c < 4) :
    Calls Try.prog 127 #[.int .i64 c, .int .u32 f] w fun e w' => e = .returned (.bool (hd c f)) ∧ Below w.heap.size w w' := by
  have a2 := and1_i64 c (by omega) (by omega)
  have a1 : bits .andNot .i64 c 1 = 2 := by rw [clear1 c (by omega) (by omega)]; omega
  have e1 : bits .and .u32 f 1 = f % 2 := mask1 f h g
  have e2 : bits .and .u32 f 2 = f / 2 % 2 * 2 := and_pow f 1 h g (by omega)
  have e3 : bits .and .u32 f 4 = f / 4 % 2 * 4 := and_pow f 2 h g (by omega)
  have e4 : bits .and .u32 f 8 = f / 8 % 2 * 8 := and_pow f 3 h g (by omega)
  have z1 : (f % 2 != 0) = (f % 2 == 1) := by rw [Bool.eq_iff_iff]; simp; omega
  have n1 : (f / 2 % 2 * 2 != 0) = (f / 2 % 2 == 1) := by rw [Bool.eq_iff_iff]; simp; omega
  have y1 : (f / 4 % 2 * 4 != 0) = (f / 4 % 2 == 1) := by rw [Bool.eq_iff_iff]; simp; omega
  have v1 : (f / 8 % 2 * 8 != 0) = (f / 8 % 2 == 1) := by rw [Bool.eq_iff_iff]; simp; omega
  have p1 : (c % 2 == 0) = decide (c % 2 = 0) := by rw [Bool.eq_iff_iff]; simp
  obtain ⟨p, hp⟩ : ∃ p, decide (c % 2 = 0) = p := ⟨_, rfl⟩
  obtain ⟨z, hz⟩ : ∃ z, (f % 2 == 1) = z := ⟨_, rfl⟩
  obtain ⟨n, hn⟩ : ∃ z, (f / 2 % 2 == 1) = z := ⟨_, rfl⟩
  obtain ⟨y, hy⟩ : ∃ z, (f / 4 % 2 == 1) = z := ⟨_, rfl⟩
  obtain ⟨v, hv⟩ : ∃ z, (f / 8 % 2 == 1) = z := ⟨_, rfl⟩
  have H := Lib.hid (hd_is c f (by omega) (by omega))
  rw [hz] at z1
  rw [hn] at n1
  rw [hy] at y1
  rw [hv] at v1
  rw [hp] at p1
  have HZ := Lib.hid hz
  have HN := Lib.hid hn
  have HY := Lib.hid hy
  have HV := Lib.hid hv
  have HP := Lib.hid hp
  have HC := Lib.hid (show c / 2 = 1 by omega)
  clear hz hn hy hv hp
  go_enter Try.func127, Try.ntmps127
  go_wp2_with fail
  go_ret
  refine ⟨ret_bool ?_, Below.refl _ _⟩
  rw [H.out, HZ.out, HN.out, HY.out, HV.out, HP.out, HC.out]
  clear H HZ HN HY HV HP HC
  clear z1 n1 y1 v1 p1
  first | (revert z n y v p; decide) | (revert n y v p; decide) | (revert n v p; decide)
set_option maxRecDepth 100000 in
set_option maxHeartbeats 2000000 in
theorem holds2 (c f : Int) (w : World) (h : 0 ≤ f) (g : f < 4294967296) (c0 : 4 ≤ c) (c1 : c < 6) :
    Calls Try.prog 127 #[.int .i64 c, .int .u32 f] w fun e w' => e = .returned (.bool (hd c f)) ∧ Below w.heap.size w w' := by
  have a2 := and1_i64 c (by omega) (by omega)
  have a1 : bits .andNot .i64 c 1 = 4 := by rw [clear1 c (by omega) (by omega)]; omega
  have e1 : bits .and .u32 f 1 = f % 2 := mask1 f h g
  have e2 : bits .and .u32 f 2 = f / 2 % 2 * 2 := and_pow f 1 h g (by omega)
  have e3 : bits .and .u32 f 4 = f / 4 % 2 * 4 := and_pow f 2 h g (by omega)
  have e4 : bits .and .u32 f 8 = f / 8 % 2 * 8 := and_pow f 3 h g (by omega)
  have z1 : (f % 2 != 0) = (f % 2 == 1) := by rw [Bool.eq_iff_iff]; simp; omega
  have n1 : (f / 2 % 2 * 2 != 0) = (f / 2 % 2 == 1) := by rw [Bool.eq_iff_iff]; simp; omega
  have y1 : (f / 4 % 2 * 4 != 0) = (f / 4 % 2 == 1) := by rw [Bool.eq_iff_iff]; simp; omega
  have v1 : (f / 8 % 2 * 8 != 0) = (f / 8 % 2 == 1) := by rw [Bool.eq_iff_iff]; simp; omega
  have p1 : (c % 2 == 0) = decide (c % 2 = 0) := by rw [Bool.eq_iff_iff]; simp
  obtain ⟨p, hp⟩ : ∃ p, decide (c % 2 = 0) = p := ⟨_, rfl⟩
  obtain ⟨z, hz⟩ : ∃ z, (f % 2 == 1) = z := ⟨_, rfl⟩
  obtain ⟨n, hn⟩ : ∃ z, (f / 2 % 2 == 1) = z := ⟨_, rfl⟩
  obtain ⟨y, hy⟩ : ∃ z, (f / 4 % 2 == 1) = z := ⟨_, rfl⟩
  obtain ⟨v, hv⟩ : ∃ z, (f / 8 % 2 == 1) = z := ⟨_, rfl⟩
  have H := Lib.hid (hd_is c f (by omega) (by omega))
  rw [hz] at z1
  rw [hn] at n1
  rw [hy] at y1
  rw [hv] at v1
  rw [hp] at p1
  have HZ := Lib.hid hz
  have HN := Lib.hid hn
  have HY := Lib.hid hy
  have HV := Lib.hid hv
  have HP := Lib.hid hp
  have HC := Lib.hid (show c / 2 = 2 by omega)
  clear hz hn hy hv hp
  go_enter Try.func127, Try.ntmps127
  go_wp2_with fail
  go_ret
  refine ⟨ret_bool ?_, Below.refl _ _⟩
  rw [H.out, HZ.out, HN.out, HY.out, HV.out, HP.out, HC.out]
  clear H HZ HN HY HV HP HC
  clear z1 n1 y1 v1 p1
  first | (revert z n y v p; decide) | (revert n y v p; decide) | (revert n v p; decide)
set_option maxRecDepth 100000 in
set_option maxHeartbeats 2000000 in
theorem holds3 (c f : Int) (w : World) (h : 0 ≤ f) (g : f < 4294967296) (c0 : 6 ≤ c) (c1 : c < 8) :
    Calls Try.prog 127 #[.int .i64 c, .int .u32 f] w fun e w' => e = .returned (.bool (hd c f)) ∧ Below w.heap.size w w' := by
  have a2 := and1_i64 c (by omega) (by omega)
  have a1 : bits .andNot .i64 c 1 = 6 := by rw [clear1 c (by omega) (by omega)]; omega
  have e1 : bits .and .u32 f 1 = f % 2 := mask1 f h g
  have e2 : bits .and .u32 f 2 = f / 2 % 2 * 2 := and_pow f 1 h g (by omega)
  have e3 : bits .and .u32 f 4 = f / 4 % 2 * 4 := and_pow f 2 h g (by omega)
  have e4 : bits .and .u32 f 8 = f / 8 % 2 * 8 := and_pow f 3 h g (by omega)
  have z1 : (f % 2 != 0) = (f % 2 == 1) := by rw [Bool.eq_iff_iff]; simp; omega
  have n1 : (f / 2 % 2 * 2 != 0) = (f / 2 % 2 == 1) := by rw [Bool.eq_iff_iff]; simp; omega
  have y1 : (f / 4 % 2 * 4 != 0) = (f / 4 % 2 == 1) := by rw [Bool.eq_iff_iff]; simp; omega
  have v1 : (f / 8 % 2 * 8 != 0) = (f / 8 % 2 == 1) := by rw [Bool.eq_iff_iff]; simp; omega
  have p1 : (c % 2 == 0) = decide (c % 2 = 0) := by rw [Bool.eq_iff_iff]; simp
  obtain ⟨p, hp⟩ : ∃ p, decide (c % 2 = 0) = p := ⟨_, rfl⟩
  obtain ⟨z, hz⟩ : ∃ z, (f % 2 == 1) = z := ⟨_, rfl⟩
  obtain ⟨n, hn⟩ : ∃ z, (f / 2 % 2 == 1) = z := ⟨_, rfl⟩
  obtain ⟨y, hy⟩ : ∃ z, (f / 4 % 2 == 1) = z := ⟨_, rfl⟩
  obtain ⟨v, hv⟩ : ∃ z, (f / 8 % 2 == 1) = z := ⟨_, rfl⟩
  have H := Lib.hid (hd_is c f (by omega) (by omega))
  rw [hz] at z1
  rw [hn] at n1
  rw [hy] at y1
  rw [hv] at v1
  rw [hp] at p1
  have HZ := Lib.hid hz
  have HN := Lib.hid hn
  have HY := Lib.hid hy
  have HV := Lib.hid hv
  have HP := Lib.hid hp
  have HC := Lib.hid (show c / 2 = 3 by omega)
  clear hz hn hy hv hp
  cases y <;> cases z
  all_goals
    go_enter Try.func127, Try.ntmps127
    go_wp2_with fail
    go_ret
    refine ⟨ret_bool ?_, Below.refl _ _⟩
    rw [H.out, HZ.out, HN.out, HY.out, HV.out, HP.out, HC.out]
    clear H HZ HN HY HV HP HC
    clear z1 n1 y1 v1 p1
    first | (revert z n y v p; decide) | (revert n y v p; decide) | (revert n v p; decide)
set_option maxRecDepth 100000 in
set_option maxHeartbeats 2000000 in
theorem holds4 (c f : Int) (w : World) (h : 0 ≤ f) (g : f < 4294967296) (c0 : 8 ≤ c) (c1 : c < 10) :
    Calls Try.prog 127 #[.int .i64 c, .int .u32 f] w fun e w' => e = .returned (.bool (hd c f)) ∧ Below w.heap.size w w' := by
  have a2 := and1_i64 c (by omega) (by omega)
  have a1 : bits .andNot .i64 c 1 = 8 := by rw [clear1 c (by omega) (by omega)]; omega
  have e1 : bits .and .u32 f 1 = f % 2 := mask1 f h g
  have e2 : bits .and .u32 f 2 = f / 2 % 2 * 2 := and_pow f 1 h g (by omega)
  have e3 : bits .and .u32 f 4 = f / 4 % 2 * 4 := and_pow f 2 h g (by omega)
  have e4 : bits .and .u32 f 8 = f / 8 % 2 * 8 := and_pow f 3 h g (by omega)
  have z1 : (f % 2 != 0) = (f % 2 == 1) := by rw [Bool.eq_iff_iff]; simp; omega
  have n1 : (f / 2 % 2 * 2 != 0) = (f / 2 % 2 == 1) := by rw [Bool.eq_iff_iff]; simp; omega
  have y1 : (f / 4 % 2 * 4 != 0) = (f / 4 % 2 == 1) := by rw [Bool.eq_iff_iff]; simp; omega
  have v1 : (f / 8 % 2 * 8 != 0) = (f / 8 % 2 == 1) := by rw [Bool.eq_iff_iff]; simp; omega
  have p1 : (c % 2 == 0) = decide (c % 2 = 0) := by rw [Bool.eq_iff_iff]; simp
  obtain ⟨p, hp⟩ : ∃ p, decide (c % 2 = 0) = p := ⟨_, rfl⟩
  obtain ⟨z, hz⟩ : ∃ z, (f % 2 == 1) = z := ⟨_, rfl⟩
  obtain ⟨n, hn⟩ : ∃ z, (f / 2 % 2 == 1) = z := ⟨_, rfl⟩
  obtain ⟨y, hy⟩ : ∃ z, (f / 4 % 2 == 1) = z := ⟨_, rfl⟩
  obtain ⟨v, hv⟩ : ∃ z, (f / 8 % 2 == 1) = z := ⟨_, rfl⟩
  have H := Lib.hid (hd_is c f (by omega) (by omega))
  rw [hz] at z1
  rw [hn] at n1
  rw [hy] at y1
  rw [hv] at v1
  rw [hp] at p1
  have HZ := Lib.hid hz
  have HN := Lib.hid hn
  have HY := Lib.hid hy
  have HV := Lib.hid hv
  have HP := Lib.hid hp
  have HC := Lib.hid (show c / 2 = 4 by omega)
  clear hz hn hy hv hp
  go_enter Try.func127, Try.ntmps127
  go_wp2_with fail
  go_ret
  refine ⟨ret_bool ?_, Below.refl _ _⟩
  rw [H.out, HZ.out, HN.out, HY.out, HV.out, HP.out, HC.out]
  clear H HZ HN HY HV HP HC
  clear z1 n1 y1 v1 p1
  first | (revert z n y v p; decide) | (revert n y v p; decide) | (revert n v p; decide)
set_option maxRecDepth 100000 in
set_option maxHeartbeats 2000000 in
theorem holds5 (c f : Int) (w : World) (h : 0 ≤ f) (g : f < 4294967296) (c0 : 10 ≤ c) (c1 : c < 12) :
    Calls Try.prog 127 #[.int .i64 c, .int .u32 f] w fun e w' => e = .returned (.bool (hd c f)) ∧ Below w.heap.size w w' := by
  have a2 := and1_i64 c (by omega) (by omega)
  have a1 : bits .andNot .i64 c 1 = 10 := by rw [clear1 c (by omega) (by omega)]; omega
  have e1 : bits .and .u32 f 1 = f % 2 := mask1 f h g
  have e2 : bits .and .u32 f 2 = f / 2 % 2 * 2 := and_pow f 1 h g (by omega)
  have e3 : bits .and .u32 f 4 = f / 4 % 2 * 4 := and_pow f 2 h g (by omega)
  have e4 : bits .and .u32 f 8 = f / 8 % 2 * 8 := and_pow f 3 h g (by omega)
  have z1 : (f % 2 != 0) = (f % 2 == 1) := by rw [Bool.eq_iff_iff]; simp; omega
  have n1 : (f / 2 % 2 * 2 != 0) = (f / 2 % 2 == 1) := by rw [Bool.eq_iff_iff]; simp; omega
  have y1 : (f / 4 % 2 * 4 != 0) = (f / 4 % 2 == 1) := by rw [Bool.eq_iff_iff]; simp; omega
  have v1 : (f / 8 % 2 * 8 != 0) = (f / 8 % 2 == 1) := by rw [Bool.eq_iff_iff]; simp; omega
  have p1 : (c % 2 == 0) = decide (c % 2 = 0) := by rw [Bool.eq_iff_iff]; simp
  obtain ⟨p, hp⟩ : ∃ p, decide (c % 2 = 0) = p := ⟨_, rfl⟩
  obtain ⟨z, hz⟩ : ∃ z, (f % 2 == 1) = z := ⟨_, rfl⟩
  obtain ⟨n, hn⟩ : ∃ z, (f / 2 % 2 == 1) = z := ⟨_, rfl⟩
  obtain ⟨y, hy⟩ : ∃ z, (f / 4 % 2 == 1) = z := ⟨_, rfl⟩
  obtain ⟨v, hv⟩ : ∃ z, (f / 8 % 2 == 1) = z := ⟨_, rfl⟩
  have H := Lib.hid (hd_is c f (by omega) (by omega))
  rw [hz] at z1
  rw [hn] at n1
  rw [hy] at y1
  rw [hv] at v1
  rw [hp] at p1
  have HZ := Lib.hid hz
  have HN := Lib.hid hn
  have HY := Lib.hid hy
  have HV := Lib.hid hv
  have HP := Lib.hid hp
  have HC := Lib.hid (show c / 2 = 5 by omega)
  clear hz hn hy hv hp
  go_enter Try.func127, Try.ntmps127
  go_wp2_with fail
  go_ret
  refine ⟨ret_bool ?_, Below.refl _ _⟩
  rw [H.out, HZ.out, HN.out, HY.out, HV.out, HP.out, HC.out]
  clear H HZ HN HY HV HP HC
  clear z1 n1 y1 v1 p1
  first | (revert z n y v p; decide) | (revert n y v p; decide) | (revert n v p; decide)
set_option maxRecDepth 100000 in
set_option maxHeartbeats 2000000 in
theorem holds6 (c f : Int) (w : World) (h : 0 ≤ f) (g : f < 4294967296) (c0 : 12 ≤ c) (c1 : c < 14) :
    Calls Try.prog 127 #[.int .i64 c, .int .u32 f] w fun e w' => e = .returned (.bool (hd c f)) ∧ Below w.heap.size w w' := by
  have a2 := and1_i64 c (by omega) (by omega)
  have a1 : bits .andNot .i64 c 1 = 12 := by rw [clear1 c (by omega) (by omega)]; omega
  have e1 : bits .and .u32 f 1 = f % 2 := mask1 f h g
  have e2 : bits .and .u32 f 2 = f / 2 % 2 * 2 := and_pow f 1 h g (by omega)
  have e3 : bits .and .u32 f 4 = f / 4 % 2 * 4 := and_pow f 2 h g (by omega)
  have e4 : bits .and .u32 f 8 = f / 8 % 2 * 8 := and_pow f 3 h g (by omega)
  have z1 : (f % 2 != 0) = (f % 2 == 1) := by rw [Bool.eq_iff_iff]; simp; omega
  have n1 : (f / 2 % 2 * 2 != 0) = (f / 2 % 2 == 1) := by rw [Bool.eq_iff_iff]; simp; omega
  have y1 : (f / 4 % 2 * 4 != 0) = (f / 4 % 2 == 1) := by rw [Bool.eq_iff_iff]; simp; omega
  have v1 : (f / 8 % 2 * 8 != 0) = (f / 8 % 2 == 1) := by rw [Bool.eq_iff_iff]; simp; omega
  have p1 : (c % 2 == 0) = decide (c % 2 = 0) := by rw [Bool.eq_iff_iff]; simp
  obtain ⟨p, hp⟩ : ∃ p, decide (c % 2 = 0) = p := ⟨_, rfl⟩
  obtain ⟨z, hz⟩ : ∃ z, (f % 2 == 1) = z := ⟨_, rfl⟩
  obtain ⟨n, hn⟩ : ∃ z, (f / 2 % 2 == 1) = z := ⟨_, rfl⟩
  obtain ⟨y, hy⟩ : ∃ z, (f / 4 % 2 == 1) = z := ⟨_, rfl⟩
  obtain ⟨v, hv⟩ : ∃ z, (f / 8 % 2 == 1) = z := ⟨_, rfl⟩
  have H := Lib.hid (hd_is c f (by omega) (by omega))
  rw [hz] at z1
  rw [hn] at n1
  rw [hy] at y1
  rw [hv] at v1
  rw [hp] at p1
  have HZ := Lib.hid hz
  have HN := Lib.hid hn
  have HY := Lib.hid hy
  have HV := Lib.hid hv
  have HP := Lib.hid hp
  have HC := Lib.hid (show c / 2 = 6 by omega)
  clear hz hn hy hv hp
  cases z
  all_goals
    go_enter Try.func127, Try.ntmps127
    go_wp2_with fail
    go_ret
    refine ⟨ret_bool ?_, Below.refl _ _⟩
    rw [H.out, HZ.out, HN.out, HY.out, HV.out, HP.out, HC.out]
    clear H HZ HN HY HV HP HC
    clear z1 n1 y1 v1 p1
    first | (revert z n y v p; decide) | (revert n y v p; decide) | (revert n v p; decide)
set_option maxRecDepth 100000 in
set_option maxHeartbeats 2000000 in
theorem holds7 (c f : Int) (w : World) (h : 0 ≤ f) (g : f < 4294967296) (c0 : 14 ≤ c) (c1 : c < 16) :
    Calls Try.prog 127 #[.int .i64 c, .int .u32 f] w fun e w' => e = .returned (.bool (hd c f)) ∧ Below w.heap.size w w' := by
  have a2 := and1_i64 c (by omega) (by omega)
  have a1 : bits .andNot .i64 c 1 = 14 := by rw [clear1 c (by omega) (by omega)]; omega
  have e1 : bits .and .u32 f 1 = f % 2 := mask1 f h g
  have e2 : bits .and .u32 f 2 = f / 2 % 2 * 2 := and_pow f 1 h g (by omega)
  have e3 : bits .and .u32 f 4 = f / 4 % 2 * 4 := and_pow f 2 h g (by omega)
  have e4 : bits .and .u32 f 8 = f / 8 % 2 * 8 := and_pow f 3 h g (by omega)
  have z1 : (f % 2 != 0) = (f % 2 == 1) := by rw [Bool.eq_iff_iff]; simp; omega
  have n1 : (f / 2 % 2 * 2 != 0) = (f / 2 % 2 == 1) := by rw [Bool.eq_iff_iff]; simp; omega
  have y1 : (f / 4 % 2 * 4 != 0) = (f / 4 % 2 == 1) := by rw [Bool.eq_iff_iff]; simp; omega
  have v1 : (f / 8 % 2 * 8 != 0) = (f / 8 % 2 == 1) := by rw [Bool.eq_iff_iff]; simp; omega
  have p1 : (c % 2 == 0) = decide (c % 2 = 0) := by rw [Bool.eq_iff_iff]; simp
  obtain ⟨p, hp⟩ : ∃ p, decide (c % 2 = 0) = p := ⟨_, rfl⟩
  obtain ⟨z, hz⟩ : ∃ z, (f % 2 == 1) = z := ⟨_, rfl⟩
  obtain ⟨n, hn⟩ : ∃ z, (f / 2 % 2 == 1) = z := ⟨_, rfl⟩
  obtain ⟨y, hy⟩ : ∃ z, (f / 4 % 2 == 1) = z := ⟨_, rfl⟩
  obtain ⟨v, hv⟩ : ∃ z, (f / 8 % 2 == 1) = z := ⟨_, rfl⟩
  have H := Lib.hid (hd_is c f (by omega) (by omega))
  rw [hz] at z1
  rw [hn] at n1
  rw [hy] at y1
  rw [hv] at v1
  rw [hp] at p1
  have HZ := Lib.hid hz
  have HN := Lib.hid hn
  have HY := Lib.hid hy
  have HV := Lib.hid hv
  have HP := Lib.hid hp
  have HC := Lib.hid (show c / 2 = 7 by omega)
  clear hz hn hy hv hp
  go_enter Try.func127, Try.ntmps127
  go_wp2_with fail
  go_ret
  refine ⟨ret_bool ?_, Below.refl _ _⟩
  rw [H.out, HZ.out, HN.out, HY.out, HV.out, HP.out, HC.out]
  clear H HZ HN HY HV HP HC
  clear z1 n1 y1 v1 p1
  first | (revert z n y v p; decide) | (revert n y v p; decide) | (revert n v p; decide)
set_option maxRecDepth 100000 in
set_option maxHeartbeats 2000000 in
theorem holds_any (c f : Int) (w : World) (h : 0 ≤ f) (g : f < 4294967296) (hc0 : -9223372036854775808 ≤ c) (hc1 : c < 9223372036854775808) :
    Calls Try.prog 127 #[.int .i64 c, .int .u32 f] w fun e w' => e = .returned (.bool (hd c f)) ∧ Below w.heap.size w w' := by
  by_cases hc : c < 0 ∨ 15 < c
  · have H := Lib.hid (hd_else c f hc)
    have a1 := clear1 c hc0 hc1
    obtain ⟨q, hq⟩ : ∃ q, q = c - c % 2 := ⟨_, rfl⟩
    rw [← hq] at a1
    have hq2 : q < 0 ∨ 15 < q := by omega
    clear hq
    rcases hq2 with hq | hq
    all_goals
      go_enter Try.func127, Try.ntmps127
      go_wp2_with fail
      go_ret
      exact ⟨by rw [H.out]; rfl, Below.refl _ _⟩
  · rcases (show (0 ≤ c ∧ c < 2) ∨ (2 ≤ c ∧ c < 4) ∨ (4 ≤ c ∧ c < 6) ∨ (6 ≤ c ∧ c < 8) ∨ (8 ≤ c ∧ c < 10) ∨ (10 ≤ c ∧ c < 12) ∨ (12 ≤ c ∧ c < 14) ∨ (14 ≤ c ∧ c < 16) by omega) with ⟨a, b⟩ | ⟨a, b⟩ | ⟨a, b⟩ | ⟨a, b⟩ | ⟨a, b⟩ | ⟨a, b⟩ | ⟨a, b⟩ | ⟨a, b⟩
    · exact holds0 c f w h g a b
    · exact holds1 c f w h g a b
    · exact holds2 c f w h g a b
    · exact holds3 c f w h g a b
    · exact holds4 c f w h g a b
    · exact holds5 c f w h g a b
    · exact holds6 c f w h g a b
    · exact holds7 c f w h g a b
end Go.Proofs.Ytcjcmnnhmajocab.Fl
namespace Go.Proofs.Ytcjcmnnhmajocab.Fl
open Go.RowKit Kt
set_option linter.unusedVariables false
set_option linter.unusedSimpArgs false
def kinds : Array Value := #[.int .i64 1, .int .i64 2, .int .i64 3, .int .i64 4, .int .i64 5, .int .i64 5, .int .i64 5, .int .i64 3, .int .i64 5, .int .i64 6, .int .i64 7, .int .i64 8, .int .i64 9, .int .i64 10, .int .i64 5, .int .i64 5]
def kindF (o : Int) : Int := if o = 0 then 1 else if o = 1 then 2 else if o = 2 then 3 else if o = 3 then 4 else if o = 7 then 3 else if o = 9 then 6 else if o = 10 then 7 else if o = 11 then 8 else if o = 12 then 9 else if o = 13 then 10 else 5
theorem kinds_at (o : Int) (h : 0 ≤ o) (g : o < 16) : kinds[o.toNat]? = some (.int .i64 (kindF o)) := by
  rcases (show o = 0 ∨ o = 1 ∨ o = 2 ∨ o = 3 ∨ o = 4 ∨ o = 5 ∨ o = 6 ∨ o = 7 ∨ o = 8 ∨ o = 9 ∨ o = 10 ∨ o = 11 ∨ o = 12 ∨ o = 13 ∨ o = 14 ∨ o = 15 by omega) with rfl | rfl | rfl | rfl | rfl | rfl | rfl | rfl | rfl | rfl | rfl | rfl | rfl | rfl | rfl | rfl <;> rfl
theorem kinds_size : kinds.size = 16 := rfl
theorem kinds_one : kinds.all (·.oneCell') = true := by kernel_rfl
theorem info_kinds : (Try.prog.info? 99).map (fun i => (i.zero.map (·.cells.size), i.size)) = some (some 16, 16) := by kernel_rfl
set_option maxRecDepth 100000 in
set_option maxHeartbeats 2000000 in
theorem made_any (o : Int) (w : World) (h : 0 ≤ o) (g : o < 16) : Calls Try.prog 206 #[.int .i64 o] w fun e w' => e = .returned (.int .i64 (kindF o)) ∧ Below w.heap.size w w' := by
  have ht := kinds_at o h g
  obtain ⟨i, hi, hzz⟩ := Option.map_eq_some_iff.1 info_kinds
  simp only [Prod.mk.injEq] at hzz
  obtain ⟨hz1, hz2⟩ := hzz
  obtain ⟨z, hz, hzs⟩ := Option.map_eq_some_iff.1 hz1
  have HI := Lib.hid hi
  have HZ := Lib.hid hz
  have HS := Lib.hid hzs
  have HN := Lib.hid hz2
  clear hi hz hzs hz2 hz1
  go_enter Try.func206, Try.ntmps206
  go_wp2_with (first
    | ((with_reducible refine wpList_value (o := ⟨some 4, _, _, _, _, _⟩) (v := .agg kinds) ?_ ?_ ?_); (rfl); (kernel_rfl))
    | ((with_reducible refine wpList_lay (o2 := ⟨some 3, _, _, _, _, _⟩) (o3 := ⟨none, _, _, _, _, _⟩) ?_ ?_ 99 ?_ (.tmp 3) (.tmp 4) ?_ ?_ i z HI.out HZ.out 16 HS.out HN.out kinds kinds_size kinds_one ?_ ?_ ?_); (rfl); (rfl); (rfl); (rfl); (rfl); (rfl); (rfl)))
  go_ret
  exact ⟨rfl, (Below.refl _ _).alloc (Nat.le_refl _) _⟩
def rkv (o a b f : Int) : Int :=
  if o = 0 then (a + b) % 4294967296
  else if o = 1 then (a + b + f / 4 % 2) % 4294967296
  else if o = 2 then (a - b) % 4294967296
  else if o = 3 then (a - b - f / 4 % 2) % 4294967296
  else if o = 4 then bits .and .u32 a b
  else if o = 5 then bits .or .u32 a b
  else if o = 6 then bits .xor .u32 a b
  else if o = 7 then a
  else if o = 8 then a
  else if o = 9 then a * 2 ^ n5 b % 4294967296
  else if o = 10 then a / 2 ^ n5 b
  else if o = 11 then sg a / 2 ^ n5 b % 4294967296
  else if o = 12 then rol a (n5 b)
  else if o = 13 then a * b % 4294967296
  else if o = 14 then (if b = 0 then 0 else a / b)
  else if o = 15 then (if b = 0 then 0 else a % b)
  else 0
def rkf (o a b f : Int) : Int :=
  if o = 0 then fl 1 a b f
  else if o = 1 then fl 2 a b f
  else if o = 2 then fl 3 a b f
  else if o = 3 then fl 4 a b f
  else if o = 4 then zn (bits .and .u32 a b)
  else if o = 5 then zn (bits .or .u32 a b)
  else if o = 6 then zn (bits .xor .u32 a b)
  else if o = 7 then fl 3 a b f
  else if o = 8 then zn (bits .and .u32 a b)
  else if o = 9 then fl 6 a b f
  else if o = 10 then fl 7 a b f
  else if o = 11 then fl 8 a b f
  else if o = 12 then fl 9 a b f
  else if o = 13 then fl 10 a b f
  else if o = 14 then (if b = 0 then 0 else zn (a / b))
  else if o = 15 then (if b = 0 then 0 else zn (a % b))
  else 0
def rko (o b : Int) : Bool := !(decide (o < 0) || decide (15 < o) || (decide (14 ≤ o) && decide (b = 0)))
theorem bits_lt (op : BinOp) (a b : Int) (h0 : 0 ≤ a) (g0 : a < 4294967296) (h1 : 0 ≤ b) (g1 : b < 4294967296) : 0 ≤ bits op .u32 a b ∧ bits op .u32 a b < 4294967296 := by
  unfold bits
  rw [IntKind.wrap_u32]
  omega
theorem rk_bad (o a b f : Int) (h : o < 0 ∨ 15 < o) : rkv o a b f = 0 ∧ rkf o a b f = 0 ∧ rko o b = false := by
  refine ⟨?_, ?_, ?_⟩
  · unfold rkv; rw [if_neg (by omega), if_neg (by omega), if_neg (by omega), if_neg (by omega), if_neg (by omega), if_neg (by omega), if_neg (by omega), if_neg (by omega), if_neg (by omega), if_neg (by omega), if_neg (by omega), if_neg (by omega), if_neg (by omega), if_neg (by omega), if_neg (by omega), if_neg (by omega)]
  · unfold rkf; rw [if_neg (by omega), if_neg (by omega), if_neg (by omega), if_neg (by omega), if_neg (by omega), if_neg (by omega), if_neg (by omega), if_neg (by omega), if_neg (by omega), if_neg (by omega), if_neg (by omega), if_neg (by omega), if_neg (by omega), if_neg (by omega), if_neg (by omega), if_neg (by omega)]
  · unfold rko; rcases h with h | h <;> simp [h]
theorem ret_rk {a a' c c' : Int} {d d' : Bool} (h : a = a') (g : c = c') (k : d = d') : Ending.returned (.tuple #[.int .u32 a, .int .u32 c, .bool d]) = .returned (.tuple #[.int .u32 a', .int .u32 c', .bool d']) := by rw [h, g, k]
theorem and_pow4 (f : Int) (h : 0 ≤ f) (g : f < 4294967296) : bits .and .u32 f 4 = f / 4 % 2 * 4 := and_pow f 2 h g (by omega)
set_option maxRecDepth 100000 in
set_option maxHeartbeats 2000000 in
theorem keep_any (o a x : Int) (w : World) : Calls Try.prog 207 #[.int .i64 o, .int .u32 a, .int .u32 x] w fun e w' => e = .returned (.int .u32 (if o = 7 ∨ o = 8 then a else x)) ∧ w = w' := by
  by_cases h7 : o = 7
  · subst h7
    go_enter Try.func207, Try.ntmps207
    go_wp2
    go_ret
    exact ⟨rfl, rfl⟩
  · by_cases h8 : o = 8
    · subst h8
      go_enter Try.func207, Try.ntmps207
      go_wp2
      go_ret
      exact ⟨rfl, rfl⟩
    · have e7 : (o == 7) = false := by simp [h7]
      have e8 : (o == 8) = false := by simp [h8]
      go_enter Try.func207, Try.ntmps207
      go_wp2
      go_ret
      exact ⟨ret_int rfl, rfl⟩
theorem kd0 : kindF 0 = 1 := rfl
theorem kd1 : kindF 1 = 2 := rfl
theorem kd2 : kindF 2 = 3 := rfl
theorem kd3 : kindF 3 = 4 := rfl
theorem kd4 : kindF 4 = 5 := rfl
theorem kd5 : kindF 5 = 5 := rfl
theorem kd6 : kindF 6 = 5 := rfl
theorem kd7 : kindF 7 = 3 := rfl
theorem kd8 : kindF 8 = 5 := rfl
theorem kd9 : kindF 9 = 6 := rfl
theorem kd10 : kindF 10 = 7 := rfl
theorem kd11 : kindF 11 = 8 := rfl
theorem kd12 : kindF 12 = 9 := rfl
theorem kd13 : kindF 13 = 10 := rfl
theorem kd14 : kindF 14 = 5 := rfl
theorem kd15 : kindF 15 = 5 := rfl
set_option maxRecDepth 100000 in
set_option maxHeartbeats 2000000 in
theorem rk0_any (a b f : Int) (w : World) (h0 : 0 ≤ a) (g0 : a < 4294967296) (h1 : 0 ≤ b) (g1 : b < 4294967296) (h2 : 0 ≤ f) (g2 : f < 4294967296) :
    Calls Try.prog 187 #[.int .i64 0, .int .u32 a, .int .u32 b, .int .u32 f] w fun e w' => e = .returned (.tuple #[.int .u32 (rkv 0 a b f), .int .u32 (rkf 0 a b f), .bool (rko 0 b)]) ∧ Below w.heap.size w w' := by
  go_enter Try.func187, Try.ntmps187
  go_wp2_with (first
    | (go_at_call 206; refine (made_any _ _ (by omega) (by omega)).mono ?_; rintro e w1 ⟨rfl, hb1⟩; simp only [kd0])
    | (go_at_call 125; refine (flags_any _ _ _ _ _ (by omega) (by omega) (by omega) (by omega) (by omega) (by omega)).mono ?_; rintro e w' ⟨rfl, rfl⟩)
    | (go_at_call 207; refine (keep_any _ _ _ _).mono ?_; rintro e w' ⟨rfl, rfl⟩)
    | (go_at_call 185; refine (rol_any _ _ _ (by omega) (by omega) (by omega) (by omega)).mono ?_; rintro e w' ⟨rfl, rfl⟩))
  go_ret3
  refine ⟨ret_rk ?_ ?_ ?_, hb1⟩
  all_goals (try rfl)
set_option maxRecDepth 100000 in
set_option maxHeartbeats 2000000 in
theorem rk1_any (a b f : Int) (w : World) (h0 : 0 ≤ a) (g0 : a < 4294967296) (h1 : 0 ≤ b) (g1 : b < 4294967296) (h2 : 0 ≤ f) (g2 : f < 4294967296) :
    Calls Try.prog 187 #[.int .i64 1, .int .u32 a, .int .u32 b, .int .u32 f] w fun e w' => e = .returned (.tuple #[.int .u32 (rkv 1 a b f), .int .u32 (rkf 1 a b f), .bool (rko 1 b)]) ∧ Below w.heap.size w w' := by
  have e1 := and_pow4 f h2 g2
  go_enter Try.func187, Try.ntmps187
  go_wp2_with (first
    | (go_at_call 206; refine (made_any _ _ (by omega) (by omega)).mono ?_; rintro e w1 ⟨rfl, hb1⟩; simp only [kd1])
    | (go_at_call 125; refine (flags_any _ _ _ _ _ (by omega) (by omega) (by omega) (by omega) (by omega) (by omega)).mono ?_; rintro e w' ⟨rfl, rfl⟩)
    | (go_at_call 207; refine (keep_any _ _ _ _).mono ?_; rintro e w' ⟨rfl, rfl⟩)
    | (go_at_call 185; refine (rol_any _ _ _ (by omega) (by omega) (by omega) (by omega)).mono ?_; rintro e w' ⟨rfl, rfl⟩))
  go_ret3
  refine ⟨ret_rk ?_ ?_ ?_, hb1⟩
  all_goals (try rfl)
set_option maxRecDepth 100000 in
set_option maxHeartbeats 2000000 in
theorem rk2_any (a b f : Int) (w : World) (h0 : 0 ≤ a) (g0 : a < 4294967296) (h1 : 0 ≤ b) (g1 : b < 4294967296) (h2 : 0 ≤ f) (g2 : f < 4294967296) :
    Calls Try.prog 187 #[.int .i64 2, .int .u32 a, .int .u32 b, .int .u32 f] w fun e w' => e = .returned (.tuple #[.int .u32 (rkv 2 a b f), .int .u32 (rkf 2 a b f), .bool (rko 2 b)]) ∧ Below w.heap.size w w' := by
  go_enter Try.func187, Try.ntmps187
  go_wp2_with (first
    | (go_at_call 206; refine (made_any _ _ (by omega) (by omega)).mono ?_; rintro e w1 ⟨rfl, hb1⟩; simp only [kd2])
    | (go_at_call 125; refine (flags_any _ _ _ _ _ (by omega) (by omega) (by omega) (by omega) (by omega) (by omega)).mono ?_; rintro e w' ⟨rfl, rfl⟩)
    | (go_at_call 207; refine (keep_any _ _ _ _).mono ?_; rintro e w' ⟨rfl, rfl⟩)
    | (go_at_call 185; refine (rol_any _ _ _ (by omega) (by omega) (by omega) (by omega)).mono ?_; rintro e w' ⟨rfl, rfl⟩))
  go_ret3
  refine ⟨ret_rk ?_ ?_ ?_, hb1⟩
  all_goals (try rfl)
set_option maxRecDepth 100000 in
set_option maxHeartbeats 2000000 in
theorem rk3_any (a b f : Int) (w : World) (h0 : 0 ≤ a) (g0 : a < 4294967296) (h1 : 0 ≤ b) (g1 : b < 4294967296) (h2 : 0 ≤ f) (g2 : f < 4294967296) :
    Calls Try.prog 187 #[.int .i64 3, .int .u32 a, .int .u32 b, .int .u32 f] w fun e w' => e = .returned (.tuple #[.int .u32 (rkv 3 a b f), .int .u32 (rkf 3 a b f), .bool (rko 3 b)]) ∧ Below w.heap.size w w' := by
  have e1 := and_pow4 f h2 g2
  go_enter Try.func187, Try.ntmps187
  go_wp2_with (first
    | (go_at_call 206; refine (made_any _ _ (by omega) (by omega)).mono ?_; rintro e w1 ⟨rfl, hb1⟩; simp only [kd3])
    | (go_at_call 125; refine (flags_any _ _ _ _ _ (by omega) (by omega) (by omega) (by omega) (by omega) (by omega)).mono ?_; rintro e w' ⟨rfl, rfl⟩)
    | (go_at_call 207; refine (keep_any _ _ _ _).mono ?_; rintro e w' ⟨rfl, rfl⟩)
    | (go_at_call 185; refine (rol_any _ _ _ (by omega) (by omega) (by omega) (by omega)).mono ?_; rintro e w' ⟨rfl, rfl⟩))
  go_ret3
  refine ⟨ret_rk ?_ ?_ ?_, hb1⟩
  all_goals (try rfl)
set_option maxRecDepth 100000 in
set_option maxHeartbeats 2000000 in
theorem rk4_any (a b f : Int) (w : World) (h0 : 0 ≤ a) (g0 : a < 4294967296) (h1 : 0 ≤ b) (g1 : b < 4294967296) (h2 : 0 ≤ f) (g2 : f < 4294967296) :
    Calls Try.prog 187 #[.int .i64 4, .int .u32 a, .int .u32 b, .int .u32 f] w fun e w' => e = .returned (.tuple #[.int .u32 (rkv 4 a b f), .int .u32 (rkf 4 a b f), .bool (rko 4 b)]) ∧ Below w.heap.size w w' := by
  have bb := bits_lt .and a b h0 g0 h1 g1
  go_enter Try.func187, Try.ntmps187
  go_wp2_with (first
    | (go_at_call 206; refine (made_any _ _ (by omega) (by omega)).mono ?_; rintro e w1 ⟨rfl, hb1⟩; simp only [kd4])
    | (go_at_call 125; refine (flags_any _ _ _ _ _ (by omega) (by omega) (by omega) (by omega) (by omega) (by omega)).mono ?_; rintro e w' ⟨rfl, rfl⟩)
    | (go_at_call 207; refine (keep_any _ _ _ _).mono ?_; rintro e w' ⟨rfl, rfl⟩)
    | (go_at_call 185; refine (rol_any _ _ _ (by omega) (by omega) (by omega) (by omega)).mono ?_; rintro e w' ⟨rfl, rfl⟩))
  go_ret3
  refine ⟨ret_rk ?_ ?_ ?_, hb1⟩
  all_goals (try rfl)
set_option maxRecDepth 100000 in
set_option maxHeartbeats 2000000 in
theorem rk5_any (a b f : Int) (w : World) (h0 : 0 ≤ a) (g0 : a < 4294967296) (h1 : 0 ≤ b) (g1 : b < 4294967296) (h2 : 0 ≤ f) (g2 : f < 4294967296) :
    Calls Try.prog 187 #[.int .i64 5, .int .u32 a, .int .u32 b, .int .u32 f] w fun e w' => e = .returned (.tuple #[.int .u32 (rkv 5 a b f), .int .u32 (rkf 5 a b f), .bool (rko 5 b)]) ∧ Below w.heap.size w w' := by
  have bb := bits_lt .or a b h0 g0 h1 g1
  go_enter Try.func187, Try.ntmps187
  go_wp2_with (first
    | (go_at_call 206; refine (made_any _ _ (by omega) (by omega)).mono ?_; rintro e w1 ⟨rfl, hb1⟩; simp only [kd5])
    | (go_at_call 125; refine (flags_any _ _ _ _ _ (by omega) (by omega) (by omega) (by omega) (by omega) (by omega)).mono ?_; rintro e w' ⟨rfl, rfl⟩)
    | (go_at_call 207; refine (keep_any _ _ _ _).mono ?_; rintro e w' ⟨rfl, rfl⟩)
    | (go_at_call 185; refine (rol_any _ _ _ (by omega) (by omega) (by omega) (by omega)).mono ?_; rintro e w' ⟨rfl, rfl⟩))
  go_ret3
  refine ⟨ret_rk ?_ ?_ ?_, hb1⟩
  all_goals (try rfl)
set_option maxRecDepth 100000 in
set_option maxHeartbeats 2000000 in
theorem rk6_any (a b f : Int) (w : World) (h0 : 0 ≤ a) (g0 : a < 4294967296) (h1 : 0 ≤ b) (g1 : b < 4294967296) (h2 : 0 ≤ f) (g2 : f < 4294967296) :
    Calls Try.prog 187 #[.int .i64 6, .int .u32 a, .int .u32 b, .int .u32 f] w fun e w' => e = .returned (.tuple #[.int .u32 (rkv 6 a b f), .int .u32 (rkf 6 a b f), .bool (rko 6 b)]) ∧ Below w.heap.size w w' := by
  have bb := bits_lt .xor a b h0 g0 h1 g1
  go_enter Try.func187, Try.ntmps187
  go_wp2_with (first
    | (go_at_call 206; refine (made_any _ _ (by omega) (by omega)).mono ?_; rintro e w1 ⟨rfl, hb1⟩; simp only [kd6])
    | (go_at_call 125; refine (flags_any _ _ _ _ _ (by omega) (by omega) (by omega) (by omega) (by omega) (by omega)).mono ?_; rintro e w' ⟨rfl, rfl⟩)
    | (go_at_call 207; refine (keep_any _ _ _ _).mono ?_; rintro e w' ⟨rfl, rfl⟩)
    | (go_at_call 185; refine (rol_any _ _ _ (by omega) (by omega) (by omega) (by omega)).mono ?_; rintro e w' ⟨rfl, rfl⟩))
  go_ret3
  refine ⟨ret_rk ?_ ?_ ?_, hb1⟩
  all_goals (try rfl)
set_option maxRecDepth 100000 in
set_option maxHeartbeats 2000000 in
theorem rk7_any (a b f : Int) (w : World) (h0 : 0 ≤ a) (g0 : a < 4294967296) (h1 : 0 ≤ b) (g1 : b < 4294967296) (h2 : 0 ≤ f) (g2 : f < 4294967296) :
    Calls Try.prog 187 #[.int .i64 7, .int .u32 a, .int .u32 b, .int .u32 f] w fun e w' => e = .returned (.tuple #[.int .u32 (rkv 7 a b f), .int .u32 (rkf 7 a b f), .bool (rko 7 b)]) ∧ Below w.heap.size w w' := by
  go_enter Try.func187, Try.ntmps187
  go_wp2_with (first
    | (go_at_call 206; refine (made_any _ _ (by omega) (by omega)).mono ?_; rintro e w1 ⟨rfl, hb1⟩; simp only [kd7])
    | (go_at_call 125; refine (flags_any _ _ _ _ _ (by omega) (by omega) (by omega) (by omega) (by omega) (by omega)).mono ?_; rintro e w' ⟨rfl, rfl⟩)
    | (go_at_call 207; refine (keep_any _ _ _ _).mono ?_; rintro e w' ⟨rfl, rfl⟩)
    | (go_at_call 185; refine (rol_any _ _ _ (by omega) (by omega) (by omega) (by omega)).mono ?_; rintro e w' ⟨rfl, rfl⟩))
  go_ret3
  refine ⟨ret_rk ?_ ?_ ?_, hb1⟩
  all_goals (try rfl)
set_option maxRecDepth 100000 in
set_option maxHeartbeats 2000000 in
theorem rk8_any (a b f : Int) (w : World) (h0 : 0 ≤ a) (g0 : a < 4294967296) (h1 : 0 ≤ b) (g1 : b < 4294967296) (h2 : 0 ≤ f) (g2 : f < 4294967296) :
    Calls Try.prog 187 #[.int .i64 8, .int .u32 a, .int .u32 b, .int .u32 f] w fun e w' => e = .returned (.tuple #[.int .u32 (rkv 8 a b f), .int .u32 (rkf 8 a b f), .bool (rko 8 b)]) ∧ Below w.heap.size w w' := by
  have bb := bits_lt .and a b h0 g0 h1 g1
  go_enter Try.func187, Try.ntmps187
  go_wp2_with (first
    | (go_at_call 206; refine (made_any _ _ (by omega) (by omega)).mono ?_; rintro e w1 ⟨rfl, hb1⟩; simp only [kd8])
    | (go_at_call 125; refine (flags_any _ _ _ _ _ (by omega) (by omega) (by omega) (by omega) (by omega) (by omega)).mono ?_; rintro e w' ⟨rfl, rfl⟩)
    | (go_at_call 207; refine (keep_any _ _ _ _).mono ?_; rintro e w' ⟨rfl, rfl⟩)
    | (go_at_call 185; refine (rol_any _ _ _ (by omega) (by omega) (by omega) (by omega)).mono ?_; rintro e w' ⟨rfl, rfl⟩))
  go_ret3
  refine ⟨ret_rk ?_ ?_ ?_, hb1⟩
  all_goals (try rfl)
set_option maxRecDepth 100000 in
set_option maxHeartbeats 2000000 in
theorem rk9_any (a b f : Int) (w : World) (h0 : 0 ≤ a) (g0 : a < 4294967296) (h1 : 0 ≤ b) (g1 : b < 4294967296) (h2 : 0 ≤ f) (g2 : f < 4294967296) :
    Calls Try.prog 187 #[.int .i64 9, .int .u32 a, .int .u32 b, .int .u32 f] w fun e w' => e = .returned (.tuple #[.int .u32 (rkv 9 a b f), .int .u32 (rkf 9 a b f), .bool (rko 9 b)]) ∧ Below w.heap.size w w' := by
  have e3 := mask31 b h1 g1
  go_enter Try.func187, Try.ntmps187
  go_wp2_with (first
    | (go_at_call 206; refine (made_any _ _ (by omega) (by omega)).mono ?_; rintro e w1 ⟨rfl, hb1⟩; simp only [kd9])
    | (go_at_call 125; refine (flags_any _ _ _ _ _ (by omega) (by omega) (by omega) (by omega) (by omega) (by omega)).mono ?_; rintro e w' ⟨rfl, rfl⟩)
    | (go_at_call 207; refine (keep_any _ _ _ _).mono ?_; rintro e w' ⟨rfl, rfl⟩)
    | (go_at_call 185; refine (rol_any _ _ _ (by omega) (by omega) (by omega) (by omega)).mono ?_; rintro e w' ⟨rfl, rfl⟩))
  go_ret3
  refine ⟨ret_rk ?_ ?_ ?_, hb1⟩
  all_goals (try rfl)
set_option maxRecDepth 100000 in
set_option maxHeartbeats 2000000 in
theorem rk10_any (a b f : Int) (w : World) (h0 : 0 ≤ a) (g0 : a < 4294967296) (h1 : 0 ≤ b) (g1 : b < 4294967296) (h2 : 0 ≤ f) (g2 : f < 4294967296) :
    Calls Try.prog 187 #[.int .i64 10, .int .u32 a, .int .u32 b, .int .u32 f] w fun e w' => e = .returned (.tuple #[.int .u32 (rkv 10 a b f), .int .u32 (rkf 10 a b f), .bool (rko 10 b)]) ∧ Below w.heap.size w w' := by
  have e3 := mask31 b h1 g1
  go_enter Try.func187, Try.ntmps187
  go_wp2_with (first
    | (go_at_call 206; refine (made_any _ _ (by omega) (by omega)).mono ?_; rintro e w1 ⟨rfl, hb1⟩; simp only [kd10])
    | (go_at_call 125; refine (flags_any _ _ _ _ _ (by omega) (by omega) (by omega) (by omega) (by omega) (by omega)).mono ?_; rintro e w' ⟨rfl, rfl⟩)
    | (go_at_call 207; refine (keep_any _ _ _ _).mono ?_; rintro e w' ⟨rfl, rfl⟩)
    | (go_at_call 185; refine (rol_any _ _ _ (by omega) (by omega) (by omega) (by omega)).mono ?_; rintro e w' ⟨rfl, rfl⟩))
  go_ret3
  refine ⟨ret_rk ?_ ?_ ?_, hb1⟩
  all_goals (try rfl)
set_option maxRecDepth 100000 in
set_option maxHeartbeats 2000000 in
theorem rk11_any (a b f : Int) (w : World) (h0 : 0 ≤ a) (g0 : a < 4294967296) (h1 : 0 ≤ b) (g1 : b < 4294967296) (h2 : 0 ≤ f) (g2 : f < 4294967296) :
    Calls Try.prog 187 #[.int .i64 11, .int .u32 a, .int .u32 b, .int .u32 f] w fun e w' => e = .returned (.tuple #[.int .u32 (rkv 11 a b f), .int .u32 (rkf 11 a b f), .bool (rko 11 b)]) ∧ Below w.heap.size w w' := by
  have e3 := mask31 b h1 g1
  go_enter Try.func187, Try.ntmps187
  go_wp2_with (first
    | (go_at_call 206; refine (made_any _ _ (by omega) (by omega)).mono ?_; rintro e w1 ⟨rfl, hb1⟩; simp only [kd11])
    | (go_at_call 125; refine (flags_any _ _ _ _ _ (by omega) (by omega) (by omega) (by omega) (by omega) (by omega)).mono ?_; rintro e w' ⟨rfl, rfl⟩)
    | (go_at_call 207; refine (keep_any _ _ _ _).mono ?_; rintro e w' ⟨rfl, rfl⟩)
    | (go_at_call 185; refine (rol_any _ _ _ (by omega) (by omega) (by omega) (by omega)).mono ?_; rintro e w' ⟨rfl, rfl⟩))
  go_ret3
  refine ⟨ret_rk ?_ ?_ ?_, hb1⟩
  all_goals (try rfl)
  all_goals (rw [wrap32_sg a h0 g0]; rfl)
set_option maxRecDepth 100000 in
set_option maxHeartbeats 2000000 in
theorem rk12_any (a b f : Int) (w : World) (h0 : 0 ≤ a) (g0 : a < 4294967296) (h1 : 0 ≤ b) (g1 : b < 4294967296) (h2 : 0 ≤ f) (g2 : f < 4294967296) :
    Calls Try.prog 187 #[.int .i64 12, .int .u32 a, .int .u32 b, .int .u32 f] w fun e w' => e = .returned (.tuple #[.int .u32 (rkv 12 a b f), .int .u32 (rkf 12 a b f), .bool (rko 12 b)]) ∧ Below w.heap.size w w' := by
  have e3 := mask31 b h1 g1
  go_enter Try.func187, Try.ntmps187
  go_wp2_with (first
    | (go_at_call 206; refine (made_any _ _ (by omega) (by omega)).mono ?_; rintro e w1 ⟨rfl, hb1⟩; simp only [kd12])
    | (go_at_call 125; refine (flags_any _ _ _ _ _ (by omega) (by omega) (by omega) (by omega) (by omega) (by omega)).mono ?_; rintro e w' ⟨rfl, rfl⟩)
    | (go_at_call 207; refine (keep_any _ _ _ _).mono ?_; rintro e w' ⟨rfl, rfl⟩)
    | (go_at_call 185; refine (rol_any _ _ _ (by omega) (by omega) (by omega) (by omega)).mono ?_; rintro e w' ⟨rfl, rfl⟩))
  go_ret3
  refine ⟨ret_rk ?_ ?_ ?_, hb1⟩
  all_goals (try rfl)
set_option maxRecDepth 100000 in
set_option maxHeartbeats 2000000 in
theorem rk13_any (a b f : Int) (w : World) (h0 : 0 ≤ a) (g0 : a < 4294967296) (h1 : 0 ≤ b) (g1 : b < 4294967296) (h2 : 0 ≤ f) (g2 : f < 4294967296) :
    Calls Try.prog 187 #[.int .i64 13, .int .u32 a, .int .u32 b, .int .u32 f] w fun e w' => e = .returned (.tuple #[.int .u32 (rkv 13 a b f), .int .u32 (rkf 13 a b f), .bool (rko 13 b)]) ∧ Below w.heap.size w w' := by
  go_enter Try.func187, Try.ntmps187
  go_wp2_with (first
    | (go_at_call 206; refine (made_any _ _ (by omega) (by omega)).mono ?_; rintro e w1 ⟨rfl, hb1⟩; simp only [kd13])
    | (go_at_call 125; refine (flags_any _ _ _ _ _ (by omega) (by omega) (by omega) (by omega) (by omega) (by omega)).mono ?_; rintro e w' ⟨rfl, rfl⟩)
    | (go_at_call 207; refine (keep_any _ _ _ _).mono ?_; rintro e w' ⟨rfl, rfl⟩)
    | (go_at_call 185; refine (rol_any _ _ _ (by omega) (by omega) (by omega) (by omega)).mono ?_; rintro e w' ⟨rfl, rfl⟩))
  go_ret3
  refine ⟨ret_rk ?_ ?_ ?_, hb1⟩
  all_goals (try rfl)
set_option maxRecDepth 100000 in
set_option maxHeartbeats 2000000 in
theorem rk14_any (a b f : Int) (w : World) (h0 : 0 ≤ a) (g0 : a < 4294967296) (h1 : 0 ≤ b) (g1 : b < 4294967296) (h2 : 0 ≤ f) (g2 : f < 4294967296) (hb : 1 ≤ b) :
    Calls Try.prog 187 #[.int .i64 14, .int .u32 a, .int .u32 b, .int .u32 f] w fun e w' => e = .returned (.tuple #[.int .u32 (rkv 14 a b f), .int .u32 (rkf 14 a b f), .bool (rko 14 b)]) ∧ Below w.heap.size w w' := by
  have bb : 0 ≤ a / b ∧ a / b ≤ a := ⟨Int.ediv_nonneg h0 h1, Int.ediv_le_self _ h0⟩
  go_enter Try.func187, Try.ntmps187
  go_wp2_with (first
    | (go_at_call 206; refine (made_any _ _ (by omega) (by omega)).mono ?_; rintro e w1 ⟨rfl, hb1⟩; simp only [kd14])
    | (go_at_call 125; refine (flags_any _ _ _ _ _ (by omega) (by omega) (by omega) (by omega) (by omega) (by omega)).mono ?_; rintro e w' ⟨rfl, rfl⟩)
    | (go_at_call 207; refine (keep_any _ _ _ _).mono ?_; rintro e w' ⟨rfl, rfl⟩)
    | (go_at_call 185; refine (rol_any _ _ _ (by omega) (by omega) (by omega) (by omega)).mono ?_; rintro e w' ⟨rfl, rfl⟩))
  go_ret3
  refine ⟨ret_rk ?_ ?_ ?_, hb1⟩
  all_goals (try rfl)
  · show a / b = if b = 0 then 0 else a / b
    rw [if_neg (by omega)]
  · show zn (a / b) = if b = 0 then 0 else zn (a / b)
    rw [if_neg (by omega)]
  · show true = !(decide (b = 0))
    rw [decide_eq_false (by omega)]; rfl
set_option maxRecDepth 100000 in
set_option maxHeartbeats 2000000 in
theorem rk15_any (a b f : Int) (w : World) (h0 : 0 ≤ a) (g0 : a < 4294967296) (h1 : 0 ≤ b) (g1 : b < 4294967296) (h2 : 0 ≤ f) (g2 : f < 4294967296) (hb : 1 ≤ b) :
    Calls Try.prog 187 #[.int .i64 15, .int .u32 a, .int .u32 b, .int .u32 f] w fun e w' => e = .returned (.tuple #[.int .u32 (rkv 15 a b f), .int .u32 (rkf 15 a b f), .bool (rko 15 b)]) ∧ Below w.heap.size w w' := by
  have bb : 0 ≤ a % b ∧ a % b < b := ⟨Int.emod_nonneg _ (by omega), Int.emod_lt_of_pos _ (by omega)⟩
  go_enter Try.func187, Try.ntmps187
  go_wp2_with (first
    | (go_at_call 206; refine (made_any _ _ (by omega) (by omega)).mono ?_; rintro e w1 ⟨rfl, hb1⟩; simp only [kd15])
    | (go_at_call 125; refine (flags_any _ _ _ _ _ (by omega) (by omega) (by omega) (by omega) (by omega) (by omega)).mono ?_; rintro e w' ⟨rfl, rfl⟩)
    | (go_at_call 207; refine (keep_any _ _ _ _).mono ?_; rintro e w' ⟨rfl, rfl⟩)
    | (go_at_call 185; refine (rol_any _ _ _ (by omega) (by omega) (by omega) (by omega)).mono ?_; rintro e w' ⟨rfl, rfl⟩))
  go_ret3
  refine ⟨ret_rk ?_ ?_ ?_, hb1⟩
  all_goals (try rfl)
  · show a % b = if b = 0 then 0 else a % b
    rw [if_neg (by omega)]
  · show zn (a % b) = if b = 0 then 0 else zn (a % b)
    rw [if_neg (by omega)]
  · show true = !(decide (b = 0))
    rw [decide_eq_false (by omega)]; rfl
set_option maxRecDepth 100000 in
set_option maxHeartbeats 2000000 in
theorem made_bad (o : Int) (w : World) (h : o < 0 ∨ 15 < o) : Calls Try.prog 206 #[.int .i64 o] w fun e w' => e = .returned (.int .i64 (-1)) ∧ Below w.heap.size w w' := by
  obtain ⟨i, hi, hzz⟩ := Option.map_eq_some_iff.1 info_kinds
  simp only [Prod.mk.injEq] at hzz
  obtain ⟨hz1, hz2⟩ := hzz
  obtain ⟨z, hz, hzs⟩ := Option.map_eq_some_iff.1 hz1
  have HI := Lib.hid hi
  have HZ := Lib.hid hz
  have HS := Lib.hid hzs
  have HN := Lib.hid hz2
  clear hi hz hzs hz2 hz1
  rcases h with h | h
  all_goals
    go_enter Try.func206, Try.ntmps206
    go_wp2_with (first
      | ((with_reducible refine wpList_value (o := ⟨some 4, _, _, _, _, _⟩) (v := .agg kinds) ?_ ?_ ?_); (rfl); (kernel_rfl))
      | ((with_reducible refine wpList_lay (o2 := ⟨some 3, _, _, _, _, _⟩) (o3 := ⟨none, _, _, _, _, _⟩) ?_ ?_ 99 ?_ (.tmp 3) (.tmp 4) ?_ ?_ i z HI.out HZ.out 16 HS.out HN.out kinds kinds_size kinds_one ?_ ?_ ?_); (rfl); (rfl); (rfl); (rfl); (rfl); (rfl); (rfl)))
    go_ret
    exact ⟨rfl, (Below.refl _ _).alloc (Nat.le_refl _) _⟩
set_option maxRecDepth 100000 in
set_option maxHeartbeats 2000000 in
theorem rkbad_any (o : Int) (h : o < 0 ∨ 15 < o) (a b f : Int) (w : World) (h0 : 0 ≤ a) (g0 : a < 4294967296) (h1 : 0 ≤ b) (g1 : b < 4294967296) (h2 : 0 ≤ f) (g2 : f < 4294967296) :
    Calls Try.prog 187 #[.int .i64 o, .int .u32 a, .int .u32 b, .int .u32 f] w fun e w' => e = .returned (.tuple #[.int .u32 (rkv o a b f), .int .u32 (rkf o a b f), .bool (rko o b)]) ∧ Below w.heap.size w w' := by
  have H := Lib.hid (rk_bad o a b f h)
  have hm := Lib.hid (made_bad o w h)
  clear h
  go_enter Try.func187, Try.ntmps187
  go_wp2_with (go_at_call 206; refine hm.out.mono ?_; rintro e w1 ⟨rfl, hb1⟩)
  go_ret3
  exact ⟨by rw [H.out.1, H.out.2.1, H.out.2.2]; rfl, hb1⟩
theorem rk_zero (o a f : Int) (h : o = 14 ∨ o = 15) : rkv o a 0 f = 0 ∧ rkf o a 0 f = 0 ∧ rko o 0 = false := by
  rcases h with rfl | rfl <;> exact ⟨rfl, rfl, rfl⟩
set_option maxRecDepth 100000 in
set_option maxHeartbeats 2000000 in
theorem rkzero_any (o : Int) (h : o = 14 ∨ o = 15) (a f : Int) (w : World) (h0 : 0 ≤ a) (g0 : a < 4294967296) (h2 : 0 ≤ f) (g2 : f < 4294967296) :
    Calls Try.prog 187 #[.int .i64 o, .int .u32 a, .int .u32 0, .int .u32 f] w fun e w' => e = .returned (.tuple #[.int .u32 (rkv o a 0 f), .int .u32 (rkf o a 0 f), .bool (rko o 0)]) ∧ Below w.heap.size w w' := by
  have H := Lib.hid (rk_zero o a f h)
  have hk : kindF o = 5 := by rcases h with rfl | rfl <;> rfl
  rcases h with rfl | rfl
  all_goals
    go_enter Try.func187, Try.ntmps187
    go_wp2_with (go_at_call 206; refine (made_any _ _ (by omega) (by omega)).mono ?_; rintro e w1 ⟨rfl, hb1⟩; rw [hk])
    go_ret3
    exact ⟨by rw [H.out.1, H.out.2.1, H.out.2.2]; rfl, hb1⟩
theorem reckon_any (o : Int) (a b f : Int) (w : World) (h0 : 0 ≤ a) (g0 : a < 4294967296) (h1 : 0 ≤ b) (g1 : b < 4294967296) (h2 : 0 ≤ f) (g2 : f < 4294967296) :
    Calls Try.prog 187 #[.int .i64 o, .int .u32 a, .int .u32 b, .int .u32 f] w fun e w' => e = .returned (.tuple #[.int .u32 (rkv o a b f), .int .u32 (rkf o a b f), .bool (rko o b)]) ∧ Below w.heap.size w w' := by
  by_cases hb : o < 0 ∨ 15 < o
  · exact rkbad_any o hb a b f w h0 g0 h1 g1 h2 g2
  by_cases hz : b = 0
  · by_cases ho : o = 14 ∨ o = 15
    · subst hz; exact rkzero_any o ho a f w h0 g0 h2 g2
    · rcases (show o = 0 ∨ o = 1 ∨ o = 2 ∨ o = 3 ∨ o = 4 ∨ o = 5 ∨ o = 6 ∨ o = 7 ∨ o = 8 ∨ o = 9 ∨ o = 10 ∨ o = 11 ∨ o = 12 ∨ o = 13 by omega) with rfl | rfl | rfl | rfl | rfl | rfl | rfl | rfl | rfl | rfl | rfl | rfl | rfl | rfl
      · exact rk0_any a b f w h0 g0 h1 g1 h2 g2
      · exact rk1_any a b f w h0 g0 h1 g1 h2 g2
      · exact rk2_any a b f w h0 g0 h1 g1 h2 g2
      · exact rk3_any a b f w h0 g0 h1 g1 h2 g2
      · exact rk4_any a b f w h0 g0 h1 g1 h2 g2
      · exact rk5_any a b f w h0 g0 h1 g1 h2 g2
      · exact rk6_any a b f w h0 g0 h1 g1 h2 g2
      · exact rk7_any a b f w h0 g0 h1 g1 h2 g2
      · exact rk8_any a b f w h0 g0 h1 g1 h2 g2
      · exact rk9_any a b f w h0 g0 h1 g1 h2 g2
      · exact rk10_any a b f w h0 g0 h1 g1 h2 g2
      · exact rk11_any a b f w h0 g0 h1 g1 h2 g2
      · exact rk12_any a b f w h0 g0 h1 g1 h2 g2
      · exact rk13_any a b f w h0 g0 h1 g1 h2 g2
  · rcases (show o = 0 ∨ o = 1 ∨ o = 2 ∨ o = 3 ∨ o = 4 ∨ o = 5 ∨ o = 6 ∨ o = 7 ∨ o = 8 ∨ o = 9 ∨ o = 10 ∨ o = 11 ∨ o = 12 ∨ o = 13 ∨ o = 14 ∨ o = 15 by omega) with rfl | rfl | rfl | rfl | rfl | rfl | rfl | rfl | rfl | rfl | rfl | rfl | rfl | rfl | rfl | rfl
    · exact rk0_any a b f w h0 g0 h1 g1 h2 g2
    · exact rk1_any a b f w h0 g0 h1 g1 h2 g2
    · exact rk2_any a b f w h0 g0 h1 g1 h2 g2
    · exact rk3_any a b f w h0 g0 h1 g1 h2 g2
    · exact rk4_any a b f w h0 g0 h1 g1 h2 g2
    · exact rk5_any a b f w h0 g0 h1 g1 h2 g2
    · exact rk6_any a b f w h0 g0 h1 g1 h2 g2
    · exact rk7_any a b f w h0 g0 h1 g1 h2 g2
    · exact rk8_any a b f w h0 g0 h1 g1 h2 g2
    · exact rk9_any a b f w h0 g0 h1 g1 h2 g2
    · exact rk10_any a b f w h0 g0 h1 g1 h2 g2
    · exact rk11_any a b f w h0 g0 h1 g1 h2 g2
    · exact rk12_any a b f w h0 g0 h1 g1 h2 g2
    · exact rk13_any a b f w h0 g0 h1 g1 h2 g2
    · exact rk14_any a b f w h0 g0 h1 g1 h2 g2 (by omega)
    · exact rk15_any a b f w h0 g0 h1 g1 h2 g2 (by omega)
end Go.Proofs.Ytcjcmnnhmajocab.Fl
