/- The reference's flags of shifts. -/
import Derived.Test.YtcjcmnnhmajocabPoab
namespace Go.Proofs.Ytcjcmnnhmajocab.Fl
open Go.RowKit
set_option linter.unusedVariables false
theorem and_step (A B i : Nat) : (A &&& B) / 2 ^ i = 2 * ((A &&& B) / 2 ^ (i + 1)) + (A / 2 ^ i % 2) * (B / 2 ^ i % 2) := by
  have h := Nat.shiftRight_and_distrib (a := A) (b := B) (i := i)
  simp only [Nat.shiftRight_eq_div_pow] at h
  have h2 := Nat.and_mod_two_pow (a := A / 2 ^ i) (b := B / 2 ^ i) (n := 1)
  rw [Nat.pow_succ, ← Nat.div_div_eq_div_mul, h]
  have e : (A / 2 ^ i &&& B / 2 ^ i) % 2 = (A / 2 ^ i % 2) * (B / 2 ^ i % 2) := by
    rw [Nat.pow_one] at h2; rw [h2]
    rcases Nat.mod_two_eq_zero_or_one (A / 2 ^ i) with p | p <;> rcases Nat.mod_two_eq_zero_or_one (B / 2 ^ i) with q | q <;> rw [p, q] <;> rfl
  omega
theorem or_step (A B i : Nat) : (A ||| B) / 2 ^ i = 2 * ((A ||| B) / 2 ^ (i + 1)) + (A / 2 ^ i % 2 + B / 2 ^ i % 2 - (A / 2 ^ i % 2) * (B / 2 ^ i % 2)) := by
  have h := Nat.shiftRight_or_distrib (a := A) (b := B) (i := i)
  simp only [Nat.shiftRight_eq_div_pow] at h
  have h2 := Nat.or_mod_two_pow (a := A / 2 ^ i) (b := B / 2 ^ i) (n := 1)
  rw [Nat.pow_succ, ← Nat.div_div_eq_div_mul, h]
  have e : (A / 2 ^ i ||| B / 2 ^ i) % 2 = A / 2 ^ i % 2 + B / 2 ^ i % 2 - (A / 2 ^ i % 2) * (B / 2 ^ i % 2) := by
    rw [Nat.pow_one] at h2; rw [h2]
    rcases Nat.mod_two_eq_zero_or_one (A / 2 ^ i) with p | p <;> rcases Nat.mod_two_eq_zero_or_one (B / 2 ^ i) with q | q <;> rw [p, q] <;> rfl
  omega
theorem xor_step (A B i : Nat) : (A ^^^ B) / 2 ^ i = 2 * ((A ^^^ B) / 2 ^ (i + 1)) + (A / 2 ^ i % 2 + B / 2 ^ i % 2) % 2 := by
  have h := Nat.shiftRight_xor_distrib (a := A) (b := B) (i := i)
  simp only [Nat.shiftRight_eq_div_pow] at h
  have h2 := Nat.xor_mod_two_pow (a := A / 2 ^ i) (b := B / 2 ^ i) (n := 1)
  rw [Nat.pow_succ, ← Nat.div_div_eq_div_mul, h]
  have e : (A / 2 ^ i ^^^ B / 2 ^ i) % 2 = (A / 2 ^ i % 2 + B / 2 ^ i % 2) % 2 := by
    rw [Nat.pow_one] at h2; rw [h2]
    rcases Nat.mod_two_eq_zero_or_one (A / 2 ^ i) with p | p <;> rcases Nat.mod_two_eq_zero_or_one (B / 2 ^ i) with q | q <;> rw [p, q] <;> rfl
  omega
theorem tdiv_neg (y : Int) (h : y < 0) : (y - 1).tdiv 2 = y / 2 := by
  obtain ⟨n, hn⟩ := Int.eq_ofNat_of_zero_le (show 0 ≤ -(y - 1) by omega)
  have : y - 1 = -(n : Int) := by omega
  rw [this, Int.neg_tdiv, Int.tdiv_eq_ediv_of_nonneg (by omega)]
  omega
theorem div_div_pow (x : Int) (i : Nat) : x / 2 ^ i / 2 = x / 2 ^ (i + 1) := by
  rw [Int.ediv_ediv_of_nonneg (Int.le_of_lt (two_pow_pos i)), Int.pow_succ]
theorem div_pow_bd (x : Int) (i : Nat) (h : -4294967296 ≤ x) (g : x < 4294967296) : -4294967296 ≤ x / 2 ^ i ∧ x / 2 ^ i < 4294967296 := by
  induction i with
  | zero => simp; omega
  | succ i ih => rw [← div_div_pow]; omega
set_option maxHeartbeats 1000000 in
theorem half_any (x : Int) (n : Nat) (w : World) (h : -4294967296 ≤ x) (g : x < 4294967296) (hn : n < 4294967296) :
    Calls Try.prog 145 #[.int .i64 x, .int .u32 n] w fun e w' => e = .returned (.int .i64 (x / 2 ^ n)) ∧ w = w' := by
  go_enter Try.func145, Try.ntmps145
  go_wp2
  go_loop [0, 1] (fun s r => ∃ i : Nat, i ≤ n ∧ s = .int .i64 (x / 2 ^ i) ∧ r = .int .u32 ((n - i : Nat) : Int)) (fun _ r => (intOf r).toNat)
  case atStart => exact ⟨0, by omega, by simp, rfl⟩
  case round =>
    obtain ⟨i, hi, rfl, rfl⟩ := hrel
    obtain ⟨j, hj⟩ : ∃ j, j = n - i := ⟨_, rfl⟩
    rw [← hj]
    have hbd := div_pow_bd x i h g
    have H := Lib.hid (div_div_pow x i)
    have HD := Lib.hid (tdiv_neg (x / 2 ^ i))
    obtain ⟨y, hy⟩ : ∃ y, y = x / 2 ^ i := ⟨_, rfl⟩
    rw [← hy] at hbd H HD ⊢
    have Hy := Lib.hid hy
    have Hj := Lib.hid hj
    have hj2 : j ≤ n := by omega
    clear hy hj h g
    by_cases hz : j = 0
    · subst hz
      go_wp2
      go_ret
      have : i = n := by have := Hj.out; omega
      exact ⟨by rw [Hy.out, this]; rfl, rfl⟩
    · have hj1 : 1 ≤ j := by omega
      clear hz
      by_cases hneg : y < 0
      · go_wp2
        go_round
        case rel => exact ⟨i + 1, by have := Hj.out; omega, by rw [← H.out, ← HD.out hneg], by have := Hj.out; go_num⟩
        case measure => simp [intOf]; omega
      · have h0 : 0 ≤ y := by omega
        clear hneg
        go_wp2
        go_round
        case rel => exact ⟨i + 1, by have := Hj.out; omega, by rw [← H.out], by have := Hj.out; go_num⟩
        case measure => simp [intOf]; omega
set_option maxHeartbeats 1000000 in
theorem double_any (x : Int) (n : Nat) (w : World) (h : 0 ≤ x) (g : x < 4294967296) (hn : n < 32) :
    Calls Try.prog 144 #[.int .u32 x, .int .u32 n] w fun e w' => e = .returned (.int .u64 (x * 2 ^ n)) ∧ w = w' := by
  go_enter Try.func144, Try.ntmps144
  go_wp2
  go_loop [1, 5] (fun r s => ∃ i : Nat, i ≤ n ∧ s = .int .u64 (x * 2 ^ i) ∧ r = .int .u32 ((n - i : Nat) : Int)) (fun r _ => (intOf r).toNat)
  case atStart => exact ⟨0, by omega, by simp, rfl⟩
  case round =>
    obtain ⟨i, hi, rfl, rfl⟩ := hrel
    obtain ⟨j, hj⟩ : ∃ j, j = n - i := ⟨_, rfl⟩
    rw [← hj]
    have hb : x * 2 ^ i ≤ 4294967295 * 2147483648 := by
      have e31 : (2 : Int) ^ i ≤ 2147483648 := by
        have := Nat.pow_le_pow_right (n := 2) (by omega) (show i ≤ 31 by omega)
        have t := Int.ofNat_le.2 this
        rw [Int.natCast_pow] at t
        exact t
      exact Int.mul_le_mul (by omega) e31 (Int.le_of_lt (two_pow_pos i)) (by omega)
    have hb0 : 0 ≤ x * 2 ^ i := Int.mul_nonneg h (Int.le_of_lt (two_pow_pos i))
    have H := Lib.hid (show 2 * (x * 2 ^ i) = x * 2 ^ (i + 1) by rw [Int.pow_succ, ← Int.mul_assoc x, Int.mul_comm 2])
    obtain ⟨y, hy⟩ : ∃ y, y = x * 2 ^ i := ⟨_, rfl⟩
    rw [← hy] at hb hb0 H ⊢
    have Hy := Lib.hid hy
    have Hj := Lib.hid hj
    have hj2 : j ≤ n := by omega
    clear hy hj h g
    by_cases hz : j = 0
    · subst hz
      go_wp2
      go_ret
      have : i = n := by have := Hj.out; omega
      exact ⟨by rw [Hy.out, this]; rfl, rfl⟩
    · have hj1 : 1 ≤ j := by omega
      clear hz
      go_wp2
      go_round
      case rel => exact ⟨i + 1, by have := Hj.out; omega, by rw [← H.out], by have := Hj.out; go_num⟩
      case measure => simp [intOf]; omega
set_option maxHeartbeats 1000000 in
theorem word_any (x : Int) (w : World) (h : -4611686018427387904 ≤ x) (g : x < 4611686018427387904) :
    Calls Try.prog 141 #[.int .i64 x] w fun e w' => e = .returned (.int .u32 (x % 4294967296)) ∧ w = w' := by
  have h1 := Int.tmod_lt_of_pos x (show (0 : Int) < 4294967296 by omega)
  have h2 : -4294967296 < x.tmod 4294967296 := Int.lt_tmod_of_pos x (by omega)
  have H := Lib.hid (show x.tmod 4294967296 % 4294967296 = x % 4294967296 by
    have := Int.mul_tdiv_add_tmod x 4294967296
    omega)
  go_enter Try.func141, Try.ntmps141
  go_wp2
  go_ret
  exact ⟨ret_int (by rw [← H.out]), rfl⟩
set_option maxHeartbeats 1000000 in
theorem signed_any (x : Int) (w : World) (h : 0 ≤ x) (g : x < 4294967296) :
    Calls Try.prog 143 #[.int .u32 x] w fun e w' => e = .returned (.int .i64 (sg x)) ∧ w = w' := by
  by_cases hc : 2147483648 ≤ x
  all_goals
    go_enter Try.func143, Try.ntmps143
    go_wp2
    go_ret
    exact ⟨ret_int (by unfold sg; split <;> omega), rfl⟩
def isV (b : Bool) (f : Int) : Int := if b then f else 0
set_option maxHeartbeats 1000000 in
theorem is_any (b : Bool) (f : Int) (w : World) : Calls Try.prog 85 #[.bool b, .int .u32 f] w fun e w' => e = .returned (.int .u32 (isV b f)) ∧ w = w' := by
  cases b <;> (go_enter Try.func85, Try.ntmps85; go_wp2; go_ret; exact ⟨rfl, rfl⟩)
set_option maxHeartbeats 1000000 in
theorem past_any (x : Int) (w : World) : Calls Try.prog 142 #[.int .i64 x] w fun e w' => e = .returned (.bool (past x)) ∧ w = w' := by
  by_cases hc : 2147483648 ≤ x
  · go_enter Try.func142, Try.ntmps142
    go_wp2
    go_ret
    exact ⟨by simp [past, hc], rfl⟩
  · have h2 : x < 2147483648 := by omega
    clear hc
    go_enter Try.func142, Try.ntmps142
    go_wp2
    go_ret
    exact ⟨by simp [past], rfl⟩
set_option maxHeartbeats 1000000 in
theorem value_any (x : Int) (w : World) (h : 0 ≤ x) (g : x < 4294967296) :
    Calls Try.prog 140 #[.int .u32 x] w fun e w' => e = .returned (.int .u32 (zn x)) ∧ w = w' := by
  have hq1 : 0 ≤ (if (x == 0) = true then (1 : Int) else 0) ∧ (if (x == 0) = true then (1 : Int) else 0) ≤ 1 := by split <;> omega
  by_cases hx : x = 0
  · subst hx
    go_enter Try.func140, Try.ntmps140
    go_wp2_with (go_at_call 85; refine (is_any _ _ _).mono ?_; rintro e w' ⟨rfl, rfl⟩)
    go_ret
    exact ⟨ret_int (by decide), rfl⟩
  · have hb : (x == 0) = false := by simp [hx]
    by_cases hs : 2147483648 ≤ x
    all_goals
      go_enter Try.func140, Try.ntmps140
      go_wp2_with (go_at_call 85; refine (is_any _ _ _).mono ?_; rintro e w' ⟨rfl, rfl⟩)
      go_ret
      exact ⟨ret_int (by first | (unfold zn isV; rw [if_neg hx, if_pos hs]; rfl) | (rw [show decide (2147483648 ≤ x) = false from decide_eq_false (by omega)]; unfold zn isV; rw [if_neg hx, if_neg (show ¬ 2147483648 ≤ x by omega)]; rfl)), rfl⟩
theorem rol_step (x : Int) (i : Nat) (hi : i < 31) (h : 0 ≤ x) (g : x < 4294967296) : 2 * rol x i % 4294967296 + rol x i / 2147483648 = rol x (i + 1) := by
  obtain ⟨X, rfl⟩ := Int.eq_ofNat_of_zero_le h
  have e32 : (2 : Int) ^ i * 2 ^ (32 - i) = 4294967296 := pow_split i (by omega)
  obtain ⟨p, hp⟩ : ∃ p, p = (2 : Int) ^ i := ⟨_, rfl⟩
  obtain ⟨q, hq⟩ : ∃ q, q = (2 : Int) ^ (32 - (i + 1)) := ⟨_, rfl⟩
  have hpp : 0 < p := by rw [hp]; exact two_pow_pos i
  have hqp : 0 < q := by rw [hq]; exact two_pow_pos _
  have eq2 : (2 : Int) ^ (32 - i) = 2 * q := by rw [hq, show 32 - i = (32 - (i + 1)) + 1 by omega, Int.pow_succ, Int.mul_comm]
  have ep2 : (2 : Int) ^ (i + 1) = 2 * p := by rw [hp, Int.pow_succ, Int.mul_comm]
  have epq : p * q = 2147483648 := by
    rw [eq2, ← hp] at e32
    have : 2 * (p * q) = 4294967296 := by rw [← e32, ← Int.mul_assoc, ← Int.mul_assoc, Int.mul_comm 2]
    omega
  -- X = u * (2 q) + r ; r = t * q + s
  unfold rol
  rw [eq2, ep2, ← hp, ← hq]
  have d1 := Int.mul_ediv_add_emod (X : Int) (2 * q)
  have m1 := Int.emod_nonneg (X : Int) (show 2 * q ≠ 0 by omega)
  have m2 := Int.emod_lt_of_pos (X : Int) (show 0 < 2 * q by omega)
  obtain ⟨u, hu⟩ : ∃ u, u = (X : Int) / (2 * q) := ⟨_, rfl⟩
  obtain ⟨r, hr⟩ : ∃ r, r = (X : Int) % (2 * q) := ⟨_, rfl⟩
  rw [← hu, ← hr] at d1
  rw [← hr] at m1 m2
  -- X * p % 2^32 = r * p
  have a1 : (X : Int) * p % 4294967296 = r * p := by
    have : (X : Int) * p = r * p + 4294967296 * u := by
      rw [← d1, Int.add_mul]
      have : 2 * q * u * p = 4294967296 * u := by
        rw [show 2 * q * u * p = 2 * (p * q) * u by ac_rfl, epq]; omega
      omega
    rw [this, Int.add_mul_emod_self_left]
    exact Int.emod_eq_of_lt (Int.mul_nonneg m1 (Int.le_of_lt hpp)) (by
      have : r * p < 2 * q * p := Int.mul_lt_mul_of_pos_right m2 hpp
      have e : 2 * q * p = 2 * (p * q) := by ac_rfl
      rw [e, epq] at this; omega)
  have hu2 : u < p := by
    have : u * (2 * q) ≤ X := by
      have e : 2 * q * u = u * (2 * q) := by ac_rfl
      omega
    have h2 : u * (2 * q) < p * (2 * q) := by
      have e : p * (2 * q) = 2 * (p * q) := by ac_rfl
      rw [e, epq]; omega
    exact Int.lt_of_mul_lt_mul_right h2 (by omega)
  have hu0 : 0 ≤ u := by rw [hu]; exact Int.ediv_nonneg h (by omega)
  obtain ⟨t, ht⟩ : ∃ t, t = r / q := ⟨_, rfl⟩
  obtain ⟨v, hv⟩ : ∃ v, v = r % q := ⟨_, rfl⟩
  have d2 := Int.mul_ediv_add_emod r q
  have n1 := Int.emod_nonneg r (show q ≠ 0 by omega)
  have n2 := Int.emod_lt_of_pos r hqp
  rw [← ht, ← hv] at d2
  rw [← hv] at n1 n2
  have ht0 : 0 ≤ t := by rw [ht]; exact Int.ediv_nonneg m1 (by omega)
  have ht1 : t < 2 := by
    have : q * t < q * 2 := by omega
    exact Int.lt_of_mul_lt_mul_left this (by omega)
  have p1 : 0 ≤ v * p := Int.mul_nonneg n1 (by omega)
  have p2 : v * p + p ≤ 2147483648 := by
    have := Int.mul_le_mul_of_nonneg_right (show v + 1 ≤ q by omega) (show 0 ≤ p by omega)
    rw [Int.add_mul, Int.one_mul, Int.mul_comm q, epq] at this
    exact this
  have b1 : r * p = t * 2147483648 + v * p := by
    rw [← d2, Int.add_mul]
    have : q * t * p = t * (p * q) := by ac_rfl
    rw [this, epq]
  have b2 : (X : Int) / q = 2 * u + t := by
    have : (X : Int) = v + q * (2 * u + t) := by
      rw [← d1, ← d2, Int.mul_add]
      have : 2 * q * u = q * (2 * u) := by ac_rfl
      omega
    rw [this, Int.add_mul_ediv_left _ _ (by omega), Int.ediv_eq_zero_of_lt n1 n2]
    omega
  have b3 : (X : Int) * (2 * p) % 4294967296 = 2 * (v * p) := by
    have : (X : Int) * (2 * p) = 2 * (v * p) + 4294967296 * (2 * u + t) := by
      have e1 : (X : Int) = v + q * (2 * u + t) := by
        rw [← d1, ← d2, Int.mul_add]
        have : 2 * q * u = q * (2 * u) := by ac_rfl
        omega
      rw [e1, Int.add_mul]
      have e2 : q * (2 * u + t) * (2 * p) = 2 * (p * q) * (2 * u + t) := by ac_rfl
      have e3 : v * (2 * p) = 2 * (v * p) := by ac_rfl
      rw [e2, e3, epq]
      omega
    rw [this, Int.add_mul_emod_self_left]
    omega
  rw [a1, b1, b2, b3]
  obtain ⟨V, hV⟩ : ∃ V, V = v * p := ⟨_, rfl⟩
  rw [← hV] at p1 p2 ⊢
  clear d1 d2 a1 b1 b2 b3 epq e32 eq2 ep2
  rcases (show t = 0 ∨ t = 1 by omega) with rfl | rfl <;> omega
set_option maxHeartbeats 1000000 in
theorem turned_any (x : Int) (n : Nat) (w : World) (h : 0 ≤ x) (g : x < 4294967296) (hn : n < 32) :
    Calls Try.prog 146 #[.int .u32 x, .int .u32 n] w fun e w' => e = .returned (.int .u32 (rol x n)) ∧ w = w' := by
  have r0 : rol x 0 = x := by
    have a1 : x * 2 ^ 0 = x := by omega
    have a2 : x / 2 ^ (32 - 0) = 0 := Int.ediv_eq_zero_of_lt h g
    unfold rol; rw [a1, a2]; omega
  go_enter Try.func146, Try.ntmps146
  go_wp2
  go_loop [0, 1] (fun s r => ∃ i : Nat, i ≤ n ∧ s = .int .u32 (rol x i) ∧ r = .int .u32 ((n - i : Nat) : Int)) (fun _ r => (intOf r).toNat)
  case atStart => exact ⟨0, by omega, by rw [r0], rfl⟩
  case round =>
    obtain ⟨i, hi, rfl, rfl⟩ := hrel
    clear r0
    obtain ⟨j, hj⟩ : ∃ j, j = n - i := ⟨_, rfl⟩
    rw [← hj]
    have hb := rol_lt x i (by omega) h g
    by_cases hz : j = 0
    · obtain ⟨y, hy⟩ : ∃ y, y = rol x i := ⟨_, rfl⟩
      rw [← hy] at hb ⊢
      have Hy := Lib.hid hy
      have Hj := Lib.hid hj
      clear hy hj h g
      subst hz
      go_wp2_with fail
      go_ret
      have : i = n := by have := Hj.out; omega
      exact ⟨by rw [Hy.out, this]; rfl, rfl⟩
    · have hj1 : 1 ≤ j := by omega
      have H := Lib.hid (rol_step x i (by omega) h g)
      have hb2 := rol_lt x (i + 1) (by omega) h g
      have hst := rol_step x i (by omega) h g
      obtain ⟨y, hy⟩ : ∃ y, y = rol x i := ⟨_, rfl⟩
      obtain ⟨z, hzz⟩ : ∃ z, z = rol x (i + 1) := ⟨_, rfl⟩
      rw [← hy] at hb H hst ⊢
      rw [← hzz] at hb2 hst
      have hs1 : 0 ≤ 2 * y % 4294967296 + y / 2147483648 := by omega
      have hs2 : 2 * y % 4294967296 + y / 2147483648 < 4294967296 := by omega
      have Hy := Lib.hid hy
      have Hj := Lib.hid hj
      have hj2 : j ≤ n := by omega
      clear hy hj h g hz hst hzz hb2
      go_wp2_with (go_at_call 141; refine (word_any _ _ (by omega) (by omega)).mono ?_; rintro e w' ⟨rfl, rfl⟩)
      go_round
      case rel => exact ⟨i + 1, by have := Hj.out; omega, by rw [← H.out], by have := Hj.out; go_num⟩
      case measure => simp [intOf]; omega
theorem half_i (x n : Int) (w : World) (h : -4294967296 ≤ x) (g : x < 4294967296) (hn0 : 0 ≤ n) (hn : n < 4294967296) :
    Calls Try.prog 145 #[.int .i64 x, .int .u32 n] w fun e w' => e = .returned (.int .i64 (x / 2 ^ n.toNat)) ∧ w = w' := by
  obtain ⟨N, rfl⟩ := Int.eq_ofNat_of_zero_le hn0
  exact half_any x N w h g (by omega)
theorem double_i (x n : Int) (w : World) (h : 0 ≤ x) (g : x < 4294967296) (hn0 : 0 ≤ n) (hn : n < 32) :
    Calls Try.prog 144 #[.int .u32 x, .int .u32 n] w fun e w' => e = .returned (.int .u64 (x * 2 ^ n.toNat)) ∧ w = w' := by
  obtain ⟨N, rfl⟩ := Int.eq_ofNat_of_zero_le hn0
  exact double_any x N w h g (by omega)
theorem turned_i (x n : Int) (w : World) (h : 0 ≤ x) (g : x < 4294967296) (hn0 : 0 ≤ n) (hn : n < 32) :
    Calls Try.prog 146 #[.int .u32 x, .int .u32 n] w fun e w' => e = .returned (.int .u32 (rol x n.toNat)) ∧ w = w' := by
  obtain ⟨N, rfl⟩ := Int.eq_ofNat_of_zero_le hn0
  exact turned_any x N w h g (by omega)
theorem mul_pow_bd (x : Int) (n : Nat) (h : 0 ≤ x) (g : x < 4294967296) (hn : n < 32) : 0 ≤ x * 2 ^ n ∧ x * 2 ^ n < 9223372036854775808 := by
  have e31 : (2 : Int) ^ n ≤ 2147483648 := by
    have := Nat.pow_le_pow_right (n := 2) (by omega) (show n ≤ 31 by omega)
    have t := Int.ofNat_le.2 this
    rw [Int.natCast_pow] at t
    exact t
  have : x * 2 ^ n ≤ 4294967295 * 2147483648 := Int.mul_le_mul (by omega) e31 (Int.le_of_lt (two_pow_pos n)) (by omega)
  exact ⟨Int.mul_nonneg h (Int.le_of_lt (two_pow_pos n)), by omega⟩
end Go.Proofs.Ytcjcmnnhmajocab.Fl
namespace Go.Proofs.Ytcjcmnnhmajocab.Fl
open Go.RowKit
set_option linter.unusedVariables false
set_option linter.unusedSimpArgs false
theorem o4 (old : Int) : old % 16 / 4 % 2 = old / 4 % 2 := by omega
set_option maxRecDepth 100000 in
set_option maxHeartbeats 1000000 in
theorem rf1_any (a b old : Int) (w : World) (h0 : 0 ≤ a) (g0 : a < 4294967296) (h1 : 0 ≤ b) (g1 : b < 4294967296) (h2 : 0 ≤ old) (g2 : old < 4294967296) :
    Calls Try.prog 84 #[.int .i64 1, .int .u32 a, .int .u32 b, .int .u32 old] w fun e w' => e = .returned (.int .u32 (fl 1 a b old)) ∧ w = w' := by
  have hm : 0 ≤ a * b := Int.mul_nonneg h0 h1
  have hm' : a * b < 18446744065119617026 := by
    have h : a * b ≤ 4294967295 * 4294967295 := Int.mul_le_mul (by omega) (by omega) h1 (by omega)
    omega
  have sa : -2147483648 ≤ sg a ∧ sg a < 2147483648 := by unfold sg; split <;> omega
  have sb : -2147483648 ≤ sg b ∧ sg b < 2147483648 := by unfold sg; split <;> omega
  have sa1 := sa.1
  have sa2 := sa.2
  have sb1 := sb.1
  have sb2 := sb.2
  clear sa sb
  go_enter Try.func84, Try.ntmps84
  go_wp2_with (first
    | (go_at_call 141; refine (word_any _ _ (by omega) (by omega)).mono ?_; rintro e w' ⟨rfl, rfl⟩)
    | (go_at_call 140; refine (value_any _ _ (by omega) (by omega)).mono ?_; rintro e w' ⟨rfl, rfl⟩)
    | (go_at_call 85; refine (is_any _ _ _).mono ?_; rintro e w' ⟨rfl, rfl⟩)
    | (go_at_call 142; refine (past_any _ _).mono ?_; rintro e w' ⟨rfl, rfl⟩)
    | (go_at_call 145; refine (half_i _ _ _ (by omega) (by omega) (by omega) (by omega)).mono ?_; rintro e w' ⟨rfl, rfl⟩)
    | (go_at_call 144; refine (double_i _ _ _ (by omega) (by omega) (by omega) (by omega)).mono ?_; rintro e w' ⟨rfl, rfl⟩)
    | (go_at_call 146; refine (turned_i _ _ _ (by omega) (by omega) (by omega) (by omega)).mono ?_; rintro e w' ⟨rfl, rfl⟩)
    | (go_at_call 143; refine (signed_any _ _ (by omega) (by omega)).mono ?_; rintro e w' ⟨rfl, rfl⟩))
  go_ret
  exact ⟨ret_int (by show _ = fAdd a b 0; unfold fAdd; have hz := zn_lt ((a + b + 0) % 4294967296); simp only [Int.add_zero, isV, decide_eq_true_eq] at *; split <;> split <;> omega), rfl⟩
set_option maxRecDepth 100000 in
set_option maxHeartbeats 1000000 in
theorem rf2_any (a b old : Int) (w : World) (h0 : 0 ≤ a) (g0 : a < 4294967296) (h1 : 0 ≤ b) (g1 : b < 4294967296) (h2 : 0 ≤ old) (g2 : old < 4294967296) :
    Calls Try.prog 84 #[.int .i64 2, .int .u32 a, .int .u32 b, .int .u32 old] w fun e w' => e = .returned (.int .u32 (fl 2 a b old)) ∧ w = w' := by
  have hm : 0 ≤ a * b := Int.mul_nonneg h0 h1
  have hm' : a * b < 18446744065119617026 := by
    have h : a * b ≤ 4294967295 * 4294967295 := Int.mul_le_mul (by omega) (by omega) h1 (by omega)
    omega
  have sa : -2147483648 ≤ sg a ∧ sg a < 2147483648 := by unfold sg; split <;> omega
  have sb : -2147483648 ≤ sg b ∧ sg b < 2147483648 := by unfold sg; split <;> omega
  have sa1 := sa.1
  have sa2 := sa.2
  have sb1 := sb.1
  have sb2 := sb.2
  clear sa sb
  go_enter Try.func84, Try.ntmps84
  go_wp2_with (first
    | (go_at_call 141; refine (word_any _ _ (by omega) (by omega)).mono ?_; rintro e w' ⟨rfl, rfl⟩)
    | (go_at_call 140; refine (value_any _ _ (by omega) (by omega)).mono ?_; rintro e w' ⟨rfl, rfl⟩)
    | (go_at_call 85; refine (is_any _ _ _).mono ?_; rintro e w' ⟨rfl, rfl⟩)
    | (go_at_call 142; refine (past_any _ _).mono ?_; rintro e w' ⟨rfl, rfl⟩)
    | (go_at_call 145; refine (half_i _ _ _ (by omega) (by omega) (by omega) (by omega)).mono ?_; rintro e w' ⟨rfl, rfl⟩)
    | (go_at_call 144; refine (double_i _ _ _ (by omega) (by omega) (by omega) (by omega)).mono ?_; rintro e w' ⟨rfl, rfl⟩)
    | (go_at_call 146; refine (turned_i _ _ _ (by omega) (by omega) (by omega) (by omega)).mono ?_; rintro e w' ⟨rfl, rfl⟩)
    | (go_at_call 143; refine (signed_any _ _ (by omega) (by omega)).mono ?_; rintro e w' ⟨rfl, rfl⟩))
  go_ret
  exact ⟨ret_int (by rw [o4]; show _ = fAdd a b (old / 4 % 2); unfold fAdd; have hz := zn_lt ((a + b + old / 4 % 2) % 4294967296); simp only [isV, decide_eq_true_eq] at *; split <;> split <;> omega), rfl⟩
set_option maxRecDepth 100000 in
set_option maxHeartbeats 1000000 in
theorem rf3_any (a b old : Int) (w : World) (h0 : 0 ≤ a) (g0 : a < 4294967296) (h1 : 0 ≤ b) (g1 : b < 4294967296) (h2 : 0 ≤ old) (g2 : old < 4294967296) :
    Calls Try.prog 84 #[.int .i64 3, .int .u32 a, .int .u32 b, .int .u32 old] w fun e w' => e = .returned (.int .u32 (fl 3 a b old)) ∧ w = w' := by
  have hm : 0 ≤ a * b := Int.mul_nonneg h0 h1
  have hm' : a * b < 18446744065119617026 := by
    have h : a * b ≤ 4294967295 * 4294967295 := Int.mul_le_mul (by omega) (by omega) h1 (by omega)
    omega
  have sa : -2147483648 ≤ sg a ∧ sg a < 2147483648 := by unfold sg; split <;> omega
  have sb : -2147483648 ≤ sg b ∧ sg b < 2147483648 := by unfold sg; split <;> omega
  have sa1 := sa.1
  have sa2 := sa.2
  have sb1 := sb.1
  have sb2 := sb.2
  clear sa sb
  go_enter Try.func84, Try.ntmps84
  go_wp2_with (first
    | (go_at_call 141; refine (word_any _ _ (by omega) (by omega)).mono ?_; rintro e w' ⟨rfl, rfl⟩)
    | (go_at_call 140; refine (value_any _ _ (by omega) (by omega)).mono ?_; rintro e w' ⟨rfl, rfl⟩)
    | (go_at_call 85; refine (is_any _ _ _).mono ?_; rintro e w' ⟨rfl, rfl⟩)
    | (go_at_call 142; refine (past_any _ _).mono ?_; rintro e w' ⟨rfl, rfl⟩)
    | (go_at_call 145; refine (half_i _ _ _ (by omega) (by omega) (by omega) (by omega)).mono ?_; rintro e w' ⟨rfl, rfl⟩)
    | (go_at_call 144; refine (double_i _ _ _ (by omega) (by omega) (by omega) (by omega)).mono ?_; rintro e w' ⟨rfl, rfl⟩)
    | (go_at_call 146; refine (turned_i _ _ _ (by omega) (by omega) (by omega) (by omega)).mono ?_; rintro e w' ⟨rfl, rfl⟩)
    | (go_at_call 143; refine (signed_any _ _ (by omega) (by omega)).mono ?_; rintro e w' ⟨rfl, rfl⟩))
  go_ret
  exact ⟨ret_int (by show _ = fSub a b 0; unfold fSub; have hz := zn_lt ((a - b - 0) % 4294967296); simp only [Int.sub_zero, Int.add_zero, isV, decide_eq_true_eq] at *; split <;> split <;> omega), rfl⟩
set_option maxRecDepth 100000 in
set_option maxHeartbeats 1000000 in
theorem rf4_any (a b old : Int) (w : World) (h0 : 0 ≤ a) (g0 : a < 4294967296) (h1 : 0 ≤ b) (g1 : b < 4294967296) (h2 : 0 ≤ old) (g2 : old < 4294967296) :
    Calls Try.prog 84 #[.int .i64 4, .int .u32 a, .int .u32 b, .int .u32 old] w fun e w' => e = .returned (.int .u32 (fl 4 a b old)) ∧ w = w' := by
  have hm : 0 ≤ a * b := Int.mul_nonneg h0 h1
  have hm' : a * b < 18446744065119617026 := by
    have h : a * b ≤ 4294967295 * 4294967295 := Int.mul_le_mul (by omega) (by omega) h1 (by omega)
    omega
  have sa : -2147483648 ≤ sg a ∧ sg a < 2147483648 := by unfold sg; split <;> omega
  have sb : -2147483648 ≤ sg b ∧ sg b < 2147483648 := by unfold sg; split <;> omega
  have sa1 := sa.1
  have sa2 := sa.2
  have sb1 := sb.1
  have sb2 := sb.2
  clear sa sb
  go_enter Try.func84, Try.ntmps84
  go_wp2_with (first
    | (go_at_call 141; refine (word_any _ _ (by omega) (by omega)).mono ?_; rintro e w' ⟨rfl, rfl⟩)
    | (go_at_call 140; refine (value_any _ _ (by omega) (by omega)).mono ?_; rintro e w' ⟨rfl, rfl⟩)
    | (go_at_call 85; refine (is_any _ _ _).mono ?_; rintro e w' ⟨rfl, rfl⟩)
    | (go_at_call 142; refine (past_any _ _).mono ?_; rintro e w' ⟨rfl, rfl⟩)
    | (go_at_call 145; refine (half_i _ _ _ (by omega) (by omega) (by omega) (by omega)).mono ?_; rintro e w' ⟨rfl, rfl⟩)
    | (go_at_call 144; refine (double_i _ _ _ (by omega) (by omega) (by omega) (by omega)).mono ?_; rintro e w' ⟨rfl, rfl⟩)
    | (go_at_call 146; refine (turned_i _ _ _ (by omega) (by omega) (by omega) (by omega)).mono ?_; rintro e w' ⟨rfl, rfl⟩)
    | (go_at_call 143; refine (signed_any _ _ (by omega) (by omega)).mono ?_; rintro e w' ⟨rfl, rfl⟩))
  go_ret
  exact ⟨ret_int (by rw [o4]; show _ = fSub a b (old / 4 % 2); unfold fSub; have hz := zn_lt ((a - b - old / 4 % 2) % 4294967296); simp only [isV, decide_eq_true_eq] at *; split <;> split <;> omega), rfl⟩
set_option maxRecDepth 100000 in
set_option maxHeartbeats 1000000 in
theorem rf5_any (a b old : Int) (w : World) (h0 : 0 ≤ a) (g0 : a < 4294967296) (h1 : 0 ≤ b) (g1 : b < 4294967296) (h2 : 0 ≤ old) (g2 : old < 4294967296) :
    Calls Try.prog 84 #[.int .i64 5, .int .u32 a, .int .u32 b, .int .u32 old] w fun e w' => e = .returned (.int .u32 (fl 5 a b old)) ∧ w = w' := by
  have hm : 0 ≤ a * b := Int.mul_nonneg h0 h1
  have hm' : a * b < 18446744065119617026 := by
    have h : a * b ≤ 4294967295 * 4294967295 := Int.mul_le_mul (by omega) (by omega) h1 (by omega)
    omega
  have sa : -2147483648 ≤ sg a ∧ sg a < 2147483648 := by unfold sg; split <;> omega
  have sb : -2147483648 ≤ sg b ∧ sg b < 2147483648 := by unfold sg; split <;> omega
  have sa1 := sa.1
  have sa2 := sa.2
  have sb1 := sb.1
  have sb2 := sb.2
  clear sa sb
  go_enter Try.func84, Try.ntmps84
  go_wp2_with (first
    | (go_at_call 141; refine (word_any _ _ (by omega) (by omega)).mono ?_; rintro e w' ⟨rfl, rfl⟩)
    | (go_at_call 140; refine (value_any _ _ (by omega) (by omega)).mono ?_; rintro e w' ⟨rfl, rfl⟩)
    | (go_at_call 85; refine (is_any _ _ _).mono ?_; rintro e w' ⟨rfl, rfl⟩)
    | (go_at_call 142; refine (past_any _ _).mono ?_; rintro e w' ⟨rfl, rfl⟩)
    | (go_at_call 145; refine (half_i _ _ _ (by omega) (by omega) (by omega) (by omega)).mono ?_; rintro e w' ⟨rfl, rfl⟩)
    | (go_at_call 144; refine (double_i _ _ _ (by omega) (by omega) (by omega) (by omega)).mono ?_; rintro e w' ⟨rfl, rfl⟩)
    | (go_at_call 146; refine (turned_i _ _ _ (by omega) (by omega) (by omega) (by omega)).mono ?_; rintro e w' ⟨rfl, rfl⟩)
    | (go_at_call 143; refine (signed_any _ _ (by omega) (by omega)).mono ?_; rintro e w' ⟨rfl, rfl⟩))
  go_ret
  exact ⟨ret_int (by rfl), rfl⟩
set_option maxRecDepth 100000 in
set_option maxHeartbeats 1000000 in
theorem rf10_any (a b old : Int) (w : World) (h0 : 0 ≤ a) (g0 : a < 4294967296) (h1 : 0 ≤ b) (g1 : b < 4294967296) (h2 : 0 ≤ old) (g2 : old < 4294967296) :
    Calls Try.prog 84 #[.int .i64 10, .int .u32 a, .int .u32 b, .int .u32 old] w fun e w' => e = .returned (.int .u32 (fl 10 a b old)) ∧ w = w' := by
  have hm : 0 ≤ a * b := Int.mul_nonneg h0 h1
  have hm' : a * b < 18446744065119617026 := by
    have h : a * b ≤ 4294967295 * 4294967295 := Int.mul_le_mul (by omega) (by omega) h1 (by omega)
    omega
  have sa : -2147483648 ≤ sg a ∧ sg a < 2147483648 := by unfold sg; split <;> omega
  have sb : -2147483648 ≤ sg b ∧ sg b < 2147483648 := by unfold sg; split <;> omega
  have sa1 := sa.1
  have sa2 := sa.2
  have sb1 := sb.1
  have sb2 := sb.2
  clear sa sb
  go_enter Try.func84, Try.ntmps84
  go_wp2_with (first
    | (go_at_call 141; refine (word_any _ _ (by omega) (by omega)).mono ?_; rintro e w' ⟨rfl, rfl⟩)
    | (go_at_call 140; refine (value_any _ _ (by omega) (by omega)).mono ?_; rintro e w' ⟨rfl, rfl⟩)
    | (go_at_call 85; refine (is_any _ _ _).mono ?_; rintro e w' ⟨rfl, rfl⟩)
    | (go_at_call 142; refine (past_any _ _).mono ?_; rintro e w' ⟨rfl, rfl⟩)
    | (go_at_call 145; refine (half_i _ _ _ (by omega) (by omega) (by omega) (by omega)).mono ?_; rintro e w' ⟨rfl, rfl⟩)
    | (go_at_call 144; refine (double_i _ _ _ (by omega) (by omega) (by omega) (by omega)).mono ?_; rintro e w' ⟨rfl, rfl⟩)
    | (go_at_call 146; refine (turned_i _ _ _ (by omega) (by omega) (by omega) (by omega)).mono ?_; rintro e w' ⟨rfl, rfl⟩)
    | (go_at_call 143; refine (signed_any _ _ (by omega) (by omega)).mono ?_; rintro e w' ⟨rfl, rfl⟩))
  go_ret
  exact ⟨ret_int (by show _ = zn (a * b % 4294967296) + (if 4294967296 ≤ a * b then 12 else 0); have hz := zn_lt (a * b % 4294967296); simp only [isV, decide_eq_true_eq] at *; split <;> omega), rfl⟩
set_option maxRecDepth 100000 in
set_option maxHeartbeats 1000000 in
theorem rf11_any (a b old : Int) (w : World) (h0 : 0 ≤ a) (g0 : a < 4294967296) (h1 : 0 ≤ b) (g1 : b < 4294967296) (h2 : 0 ≤ old) (g2 : old < 4294967296) :
    Calls Try.prog 84 #[.int .i64 11, .int .u32 a, .int .u32 b, .int .u32 old] w fun e w' => e = .returned (.int .u32 (fl 11 a b old)) ∧ w = w' := by
  have hm : 0 ≤ a * b := Int.mul_nonneg h0 h1
  have hm' : a * b < 18446744065119617026 := by
    have h : a * b ≤ 4294967295 * 4294967295 := Int.mul_le_mul (by omega) (by omega) h1 (by omega)
    omega
  have sa : -2147483648 ≤ sg a ∧ sg a < 2147483648 := by unfold sg; split <;> omega
  have sb : -2147483648 ≤ sg b ∧ sg b < 2147483648 := by unfold sg; split <;> omega
  have sa1 := sa.1
  have sa2 := sa.2
  have sb1 := sb.1
  have sb2 := sb.2
  clear sa sb
  go_enter Try.func84, Try.ntmps84
  go_wp2_with (first
    | (go_at_call 141; refine (word_any _ _ (by omega) (by omega)).mono ?_; rintro e w' ⟨rfl, rfl⟩)
    | (go_at_call 140; refine (value_any _ _ (by omega) (by omega)).mono ?_; rintro e w' ⟨rfl, rfl⟩)
    | (go_at_call 85; refine (is_any _ _ _).mono ?_; rintro e w' ⟨rfl, rfl⟩)
    | (go_at_call 142; refine (past_any _ _).mono ?_; rintro e w' ⟨rfl, rfl⟩)
    | (go_at_call 145; refine (half_i _ _ _ (by omega) (by omega) (by omega) (by omega)).mono ?_; rintro e w' ⟨rfl, rfl⟩)
    | (go_at_call 144; refine (double_i _ _ _ (by omega) (by omega) (by omega) (by omega)).mono ?_; rintro e w' ⟨rfl, rfl⟩)
    | (go_at_call 146; refine (turned_i _ _ _ (by omega) (by omega) (by omega) (by omega)).mono ?_; rintro e w' ⟨rfl, rfl⟩)
    | (go_at_call 143; refine (signed_any _ _ (by omega) (by omega)).mono ?_; rintro e w' ⟨rfl, rfl⟩))
  go_ret
  exact ⟨ret_int (by rw [o4]; show _ = zn ((a + 1) % 4294967296) + old / 4 % 2 * 4 + (if past (sg a + 1) then 8 else 0); have hz := zn_lt ((a + 1) % 4294967296); simp only [isV] at *; split <;> omega), rfl⟩
set_option maxRecDepth 100000 in
set_option maxHeartbeats 1000000 in
theorem rf12_any (a b old : Int) (w : World) (h0 : 0 ≤ a) (g0 : a < 4294967296) (h1 : 0 ≤ b) (g1 : b < 4294967296) (h2 : 0 ≤ old) (g2 : old < 4294967296) :
    Calls Try.prog 84 #[.int .i64 12, .int .u32 a, .int .u32 b, .int .u32 old] w fun e w' => e = .returned (.int .u32 (fl 12 a b old)) ∧ w = w' := by
  have hm : 0 ≤ a * b := Int.mul_nonneg h0 h1
  have hm' : a * b < 18446744065119617026 := by
    have h : a * b ≤ 4294967295 * 4294967295 := Int.mul_le_mul (by omega) (by omega) h1 (by omega)
    omega
  have sa : -2147483648 ≤ sg a ∧ sg a < 2147483648 := by unfold sg; split <;> omega
  have sb : -2147483648 ≤ sg b ∧ sg b < 2147483648 := by unfold sg; split <;> omega
  have sa1 := sa.1
  have sa2 := sa.2
  have sb1 := sb.1
  have sb2 := sb.2
  clear sa sb
  go_enter Try.func84, Try.ntmps84
  go_wp2_with (first
    | (go_at_call 141; refine (word_any _ _ (by omega) (by omega)).mono ?_; rintro e w' ⟨rfl, rfl⟩)
    | (go_at_call 140; refine (value_any _ _ (by omega) (by omega)).mono ?_; rintro e w' ⟨rfl, rfl⟩)
    | (go_at_call 85; refine (is_any _ _ _).mono ?_; rintro e w' ⟨rfl, rfl⟩)
    | (go_at_call 142; refine (past_any _ _).mono ?_; rintro e w' ⟨rfl, rfl⟩)
    | (go_at_call 145; refine (half_i _ _ _ (by omega) (by omega) (by omega) (by omega)).mono ?_; rintro e w' ⟨rfl, rfl⟩)
    | (go_at_call 144; refine (double_i _ _ _ (by omega) (by omega) (by omega) (by omega)).mono ?_; rintro e w' ⟨rfl, rfl⟩)
    | (go_at_call 146; refine (turned_i _ _ _ (by omega) (by omega) (by omega) (by omega)).mono ?_; rintro e w' ⟨rfl, rfl⟩)
    | (go_at_call 143; refine (signed_any _ _ (by omega) (by omega)).mono ?_; rintro e w' ⟨rfl, rfl⟩))
  go_ret
  exact ⟨ret_int (by rw [o4]; show _ = zn ((a - 1) % 4294967296) + old / 4 % 2 * 4 + (if past (sg a - 1) then 8 else 0); have hz := zn_lt ((a - 1) % 4294967296); simp only [isV] at *; split <;> omega), rfl⟩
end Go.Proofs.Ytcjcmnnhmajocab.Fl
namespace Go.Proofs.Ytcjcmnnhmajocab.Fl
open Go.RowKit
set_option linter.unusedVariables false
set_option linter.unusedSimpArgs false
theorem sg_par (a : Int) (j : Nat) (hj : j ≤ 30) : sg a / 2 ^ j % 4294967296 % 2 = a / 2 ^ j % 2 := by
  have e : (4294967296 : Int) = 2 ^ j * (2 * 2 ^ (31 - j)) := by
    rw [show (2 : Int) * 2 ^ (31 - j) = 2 ^ (32 - j) by rw [show 32 - j = (31 - j) + 1 by omega, Int.pow_succ, Int.mul_comm], pow_split j (by omega)]
  unfold sg
  split
  · have : (a - 4294967296) / 2 ^ j = a / 2 ^ j - 2 * 2 ^ (31 - j) := by
      have h := Int.add_mul_ediv_left a (-(2 * 2 ^ (31 - j))) (show (2 : Int) ^ j ≠ 0 by have := two_pow_pos j; omega)
      rw [Int.mul_neg, ← e] at h
      rw [Int.sub_eq_add_neg, h]; omega
    rw [this]; omega
  · omega
set_option maxRecDepth 100000 in
set_option maxHeartbeats 1000000 in
theorem rf6_any (a b old : Int) (w : World) (h0 : 0 ≤ a) (g0 : a < 4294967296) (h1 : 0 ≤ b) (g1 : b < 4294967296) (h2 : 0 ≤ old) (g2 : old < 4294967296) (hn : 1 ≤ b % 32) (hn2 : b % 32 < 32) :
    Calls Try.prog 84 #[.int .i64 6, .int .u32 a, .int .u32 b, .int .u32 old] w fun e w' => e = .returned (.int .u32 (fl 6 a b old)) ∧ w = w' := by
  have hm : 0 ≤ a * b := Int.mul_nonneg h0 h1
  have hm' : a * b < 18446744065119617026 := by
    have h : a * b ≤ 4294967295 * 4294967295 := Int.mul_le_mul (by omega) (by omega) h1 (by omega)
    omega
  have sa : -2147483648 ≤ sg a ∧ sg a < 2147483648 := by unfold sg; split <;> omega
  have sb : -2147483648 ≤ sg b ∧ sg b < 2147483648 := by unfold sg; split <;> omega
  have sa1 := sa.1
  have sa2 := sa.2
  have sb1 := sb.1
  have sb2 := sb.2
  clear sa sb
  have d1 := div_pow_le a (b % 32).toNat h0
  have d2 := div_pow_le a ((b % 32).toNat - 1) h0
  have d4 := rol_lt a (b % 32).toNat (by omega) h0 g0
  have d5 := mul_pow_bd a (b % 32).toNat h0 g0 (by omega)
  have d6 := div_pow_bd (sg a) ((b % 32).toNat - 1) (by omega) (by omega)
  have d7 := div_pow_bd (sg a / 2 ^ ((b % 32).toNat - 1)) 1 d6.1 d6.2
  have e1 : (1 : Int).toNat = 1 := rfl
  go_enter Try.func84, Try.ntmps84
  go_wp2_with (first
    | (go_at_call 141; refine (word_any _ _ (by omega) (by omega)).mono ?_; rintro e w' ⟨rfl, rfl⟩)
    | (go_at_call 140; refine (value_any _ _ (by omega) (by omega)).mono ?_; rintro e w' ⟨rfl, rfl⟩)
    | (go_at_call 85; refine (is_any _ _ _).mono ?_; rintro e w' ⟨rfl, rfl⟩)
    | (go_at_call 142; refine (past_any _ _).mono ?_; rintro e w' ⟨rfl, rfl⟩)
    | (go_at_call 145; refine (half_i _ _ _ (by omega) (by omega) (by omega) (by omega)).mono ?_; rintro e w' ⟨rfl, rfl⟩)
    | (go_at_call 144; refine (double_i _ _ _ (by omega) (by omega) (by omega) (by omega)).mono ?_; rintro e w' ⟨rfl, rfl⟩)
    | (go_at_call 146; refine (turned_i _ _ _ (by omega) (by omega) (by omega) (by omega)).mono ?_; rintro e w' ⟨rfl, rfl⟩)
    | (go_at_call 143; refine (signed_any _ _ (by omega) (by omega)).mono ?_; rintro e w' ⟨rfl, rfl⟩))
  go_ret
  exact ⟨ret_int (by rw [fl_6 a b old hn]; show _ = zn (a * 2 ^ (b % 32).toNat % 4294967296) + (if a * 2 ^ (b % 32).toNat / 4294967296 % 2 = 1 then 4 else 0); have hz := zn_lt (a * 2 ^ (b % 32).toNat % 4294967296); simp only [isV, beq_iff_eq]; split <;> omega), rfl⟩
set_option maxRecDepth 100000 in
set_option maxHeartbeats 1000000 in
theorem rf7_any (a b old : Int) (w : World) (h0 : 0 ≤ a) (g0 : a < 4294967296) (h1 : 0 ≤ b) (g1 : b < 4294967296) (h2 : 0 ≤ old) (g2 : old < 4294967296) (hn : 1 ≤ b % 32) (hn2 : b % 32 < 32) :
    Calls Try.prog 84 #[.int .i64 7, .int .u32 a, .int .u32 b, .int .u32 old] w fun e w' => e = .returned (.int .u32 (fl 7 a b old)) ∧ w = w' := by
  have hm : 0 ≤ a * b := Int.mul_nonneg h0 h1
  have hm' : a * b < 18446744065119617026 := by
    have h : a * b ≤ 4294967295 * 4294967295 := Int.mul_le_mul (by omega) (by omega) h1 (by omega)
    omega
  have sa : -2147483648 ≤ sg a ∧ sg a < 2147483648 := by unfold sg; split <;> omega
  have sb : -2147483648 ≤ sg b ∧ sg b < 2147483648 := by unfold sg; split <;> omega
  have sa1 := sa.1
  have sa2 := sa.2
  have sb1 := sb.1
  have sb2 := sb.2
  clear sa sb
  have d1 := div_pow_le a (b % 32).toNat h0
  have d2 := div_pow_le a ((b % 32).toNat - 1) h0
  have d4 := rol_lt a (b % 32).toNat (by omega) h0 g0
  have d5 := mul_pow_bd a (b % 32).toNat h0 g0 (by omega)
  have d6 := div_pow_bd (sg a) ((b % 32).toNat - 1) (by omega) (by omega)
  have d7 := div_pow_bd (sg a / 2 ^ ((b % 32).toNat - 1)) 1 d6.1 d6.2
  have e1 : (1 : Int).toNat = 1 := rfl
  go_enter Try.func84, Try.ntmps84
  go_wp2_with (first
    | (go_at_call 141; refine (word_any _ _ (by omega) (by omega)).mono ?_; rintro e w' ⟨rfl, rfl⟩)
    | (go_at_call 140; refine (value_any _ _ (by omega) (by omega)).mono ?_; rintro e w' ⟨rfl, rfl⟩)
    | (go_at_call 85; refine (is_any _ _ _).mono ?_; rintro e w' ⟨rfl, rfl⟩)
    | (go_at_call 142; refine (past_any _ _).mono ?_; rintro e w' ⟨rfl, rfl⟩)
    | (go_at_call 145; refine (half_i _ _ _ (by omega) (by omega) (by omega) (by omega)).mono ?_; rintro e w' ⟨rfl, rfl⟩)
    | (go_at_call 144; refine (double_i _ _ _ (by omega) (by omega) (by omega) (by omega)).mono ?_; rintro e w' ⟨rfl, rfl⟩)
    | (go_at_call 146; refine (turned_i _ _ _ (by omega) (by omega) (by omega) (by omega)).mono ?_; rintro e w' ⟨rfl, rfl⟩)
    | (go_at_call 143; refine (signed_any _ _ (by omega) (by omega)).mono ?_; rintro e w' ⟨rfl, rfl⟩))
  go_ret
  exact ⟨ret_int (by rw [fl_7 a b old hn]; show _ = zn (a / 2 ^ (b % 32).toNat) + (if a / 2 ^ ((b % 32).toNat - 1) % 2 = 1 then 4 else 0); have hz := zn_lt (a / 2 ^ (b % 32).toNat); simp only [isV, beq_iff_eq]; split <;> omega), rfl⟩
set_option maxRecDepth 100000 in
set_option maxHeartbeats 1000000 in
theorem rf8_any (a b old : Int) (w : World) (h0 : 0 ≤ a) (g0 : a < 4294967296) (h1 : 0 ≤ b) (g1 : b < 4294967296) (h2 : 0 ≤ old) (g2 : old < 4294967296) (hn : 1 ≤ b % 32) (hn2 : b % 32 < 32) :
    Calls Try.prog 84 #[.int .i64 8, .int .u32 a, .int .u32 b, .int .u32 old] w fun e w' => e = .returned (.int .u32 (fl 8 a b old)) ∧ w = w' := by
  have hm : 0 ≤ a * b := Int.mul_nonneg h0 h1
  have hm' : a * b < 18446744065119617026 := by
    have h : a * b ≤ 4294967295 * 4294967295 := Int.mul_le_mul (by omega) (by omega) h1 (by omega)
    omega
  have sa : -2147483648 ≤ sg a ∧ sg a < 2147483648 := by unfold sg; split <;> omega
  have sb : -2147483648 ≤ sg b ∧ sg b < 2147483648 := by unfold sg; split <;> omega
  have sa1 := sa.1
  have sa2 := sa.2
  have sb1 := sb.1
  have sb2 := sb.2
  clear sa sb
  have d1 := div_pow_le a (b % 32).toNat h0
  have d2 := div_pow_le a ((b % 32).toNat - 1) h0
  have d4 := rol_lt a (b % 32).toNat (by omega) h0 g0
  have d5 := mul_pow_bd a (b % 32).toNat h0 g0 (by omega)
  have d6 := div_pow_bd (sg a) ((b % 32).toNat - 1) (by omega) (by omega)
  have d7 := div_pow_bd (sg a / 2 ^ ((b % 32).toNat - 1)) 1 d6.1 d6.2
  have e1 : (1 : Int).toNat = 1 := rfl
  go_enter Try.func84, Try.ntmps84
  go_wp2_with (first
    | (go_at_call 141; refine (word_any _ _ (by omega) (by omega)).mono ?_; rintro e w' ⟨rfl, rfl⟩)
    | (go_at_call 140; refine (value_any _ _ (by omega) (by omega)).mono ?_; rintro e w' ⟨rfl, rfl⟩)
    | (go_at_call 85; refine (is_any _ _ _).mono ?_; rintro e w' ⟨rfl, rfl⟩)
    | (go_at_call 142; refine (past_any _ _).mono ?_; rintro e w' ⟨rfl, rfl⟩)
    | (go_at_call 145; refine (half_i _ _ _ (by omega) (by omega) (by omega) (by omega)).mono ?_; rintro e w' ⟨rfl, rfl⟩)
    | (go_at_call 144; refine (double_i _ _ _ (by omega) (by omega) (by omega) (by omega)).mono ?_; rintro e w' ⟨rfl, rfl⟩)
    | (go_at_call 146; refine (turned_i _ _ _ (by omega) (by omega) (by omega) (by omega)).mono ?_; rintro e w' ⟨rfl, rfl⟩)
    | (go_at_call 143; refine (signed_any _ _ (by omega) (by omega)).mono ?_; rintro e w' ⟨rfl, rfl⟩))
  go_ret
  exact ⟨ret_int (by rw [fl_8 a b old hn]; show _ = zn (sg a / 2 ^ (b % 32).toNat % 4294967296) + (if a / 2 ^ ((b % 32).toNat - 1) % 2 = 1 then 4 else 0); rw [div_div_pow, show (b % 32).toNat - 1 + 1 = (b % 32).toNat by omega]; have hp := sg_par a ((b % 32).toNat - 1) (by omega); have hz := zn_lt (sg a / 2 ^ (b % 32).toNat % 4294967296); simp only [isV, beq_iff_eq]; split <;> split <;> omega), rfl⟩
set_option maxRecDepth 100000 in
set_option maxHeartbeats 1000000 in
theorem rf9_any (a b old : Int) (w : World) (h0 : 0 ≤ a) (g0 : a < 4294967296) (h1 : 0 ≤ b) (g1 : b < 4294967296) (h2 : 0 ≤ old) (g2 : old < 4294967296) (hn : 1 ≤ b % 32) (hn2 : b % 32 < 32) :
    Calls Try.prog 84 #[.int .i64 9, .int .u32 a, .int .u32 b, .int .u32 old] w fun e w' => e = .returned (.int .u32 (fl 9 a b old)) ∧ w = w' := by
  have hm : 0 ≤ a * b := Int.mul_nonneg h0 h1
  have hm' : a * b < 18446744065119617026 := by
    have h : a * b ≤ 4294967295 * 4294967295 := Int.mul_le_mul (by omega) (by omega) h1 (by omega)
    omega
  have sa : -2147483648 ≤ sg a ∧ sg a < 2147483648 := by unfold sg; split <;> omega
  have sb : -2147483648 ≤ sg b ∧ sg b < 2147483648 := by unfold sg; split <;> omega
  have sa1 := sa.1
  have sa2 := sa.2
  have sb1 := sb.1
  have sb2 := sb.2
  clear sa sb
  have d1 := div_pow_le a (b % 32).toNat h0
  have d2 := div_pow_le a ((b % 32).toNat - 1) h0
  have d4 := rol_lt a (b % 32).toNat (by omega) h0 g0
  have d5 := mul_pow_bd a (b % 32).toNat h0 g0 (by omega)
  have d6 := div_pow_bd (sg a) ((b % 32).toNat - 1) (by omega) (by omega)
  have d7 := div_pow_bd (sg a / 2 ^ ((b % 32).toNat - 1)) 1 d6.1 d6.2
  have e1 : (1 : Int).toNat = 1 := rfl
  go_enter Try.func84, Try.ntmps84
  go_wp2_with (first
    | (go_at_call 141; refine (word_any _ _ (by omega) (by omega)).mono ?_; rintro e w' ⟨rfl, rfl⟩)
    | (go_at_call 140; refine (value_any _ _ (by omega) (by omega)).mono ?_; rintro e w' ⟨rfl, rfl⟩)
    | (go_at_call 85; refine (is_any _ _ _).mono ?_; rintro e w' ⟨rfl, rfl⟩)
    | (go_at_call 142; refine (past_any _ _).mono ?_; rintro e w' ⟨rfl, rfl⟩)
    | (go_at_call 145; refine (half_i _ _ _ (by omega) (by omega) (by omega) (by omega)).mono ?_; rintro e w' ⟨rfl, rfl⟩)
    | (go_at_call 144; refine (double_i _ _ _ (by omega) (by omega) (by omega) (by omega)).mono ?_; rintro e w' ⟨rfl, rfl⟩)
    | (go_at_call 146; refine (turned_i _ _ _ (by omega) (by omega) (by omega) (by omega)).mono ?_; rintro e w' ⟨rfl, rfl⟩)
    | (go_at_call 143; refine (signed_any _ _ (by omega) (by omega)).mono ?_; rintro e w' ⟨rfl, rfl⟩))
  go_ret
  exact ⟨ret_int (by rw [o4, fl_9 a b old hn]; show _ = old % 16 - old / 4 % 2 * 4 + (if rol a (b % 32).toNat % 2 = 1 then 4 else 0); simp only [isV, beq_iff_eq]; split <;> omega), rfl⟩
set_option maxRecDepth 100000 in
set_option maxHeartbeats 2000000 in
theorem rf69_any (k : Int) (hk : 6 ≤ k) (hk' : k ≤ 9) (a b old : Int) (w : World) (h0 : 0 ≤ a) (g0 : a < 4294967296) (h1 : 0 ≤ b) (g1 : b < 4294967296) (h2 : 0 ≤ old) (g2 : old < 4294967296) (hn : b % 32 = 0) :
    Calls Try.prog 84 #[.int .i64 k, .int .u32 a, .int .u32 b, .int .u32 old] w fun e w' => e = .returned (.int .u32 (fl k a b old)) ∧ w = w' := by
  have H := Lib.hid (fl_0 k a b old hk hk' hn)
  rcases (show k = 6 ∨ k = 7 ∨ k = 8 ∨ k = 9 by omega) with rfl | rfl | rfl | rfl
  all_goals
    go_enter Try.func84, Try.ntmps84
    go_wp2_with fail
    go_ret
    exact ⟨ret_int H.out.symm, rfl⟩
set_option maxRecDepth 100000 in
set_option maxHeartbeats 2000000 in
theorem rfx_any (k : Int) (hk : k < 1 ∨ 12 < k) (a b old : Int) (w : World) (h0 : 0 ≤ a) (g0 : a < 4294967296) (h1 : 0 ≤ b) (g1 : b < 4294967296) (h2 : 0 ≤ old) (g2 : old < 4294967296) :
    Calls Try.prog 84 #[.int .i64 k, .int .u32 a, .int .u32 b, .int .u32 old] w fun e w' => e = .returned (.int .u32 (fl k a b old)) ∧ w = w' := by
  have H := Lib.hid (fl_else k a b old hk)
  rcases hk with hk | hk
  all_goals
    go_enter Try.func84, Try.ntmps84
    go_wp2_with fail
    all_goals go_ret
    all_goals exact ⟨ret_int H.out.symm, rfl⟩
theorem rflags_any (k a b old : Int) (w : World) (h0 : 0 ≤ a) (g0 : a < 4294967296) (h1 : 0 ≤ b) (g1 : b < 4294967296) (h2 : 0 ≤ old) (g2 : old < 4294967296) :
    Calls Try.prog 84 #[.int .i64 k, .int .u32 a, .int .u32 b, .int .u32 old] w fun e w' => e = .returned (.int .u32 (fl k a b old)) ∧ w = w' := by
  by_cases hx : k < 1 ∨ 12 < k
  · exact rfx_any k hx a b old w h0 g0 h1 g1 h2 g2
  by_cases hk : 6 ≤ k ∧ k ≤ 9
  · by_cases hn : b % 32 = 0
    · exact rf69_any k hk.1 hk.2 a b old w h0 g0 h1 g1 h2 g2 hn
    · rcases (show k = 6 ∨ k = 7 ∨ k = 8 ∨ k = 9 by omega) with rfl | rfl | rfl | rfl
      · exact rf6_any a b old w h0 g0 h1 g1 h2 g2 (by omega) (by omega)
      · exact rf7_any a b old w h0 g0 h1 g1 h2 g2 (by omega) (by omega)
      · exact rf8_any a b old w h0 g0 h1 g1 h2 g2 (by omega) (by omega)
      · exact rf9_any a b old w h0 g0 h1 g1 h2 g2 (by omega) (by omega)
  · rcases (show k = 1 ∨ k = 2 ∨ k = 3 ∨ k = 4 ∨ k = 5 ∨ k = 10 ∨ k = 11 ∨ k = 12 by omega) with rfl | rfl | rfl | rfl | rfl | rfl | rfl | rfl
    · exact rf1_any a b old w h0 g0 h1 g1 h2 g2
    · exact rf2_any a b old w h0 g0 h1 g1 h2 g2
    · exact rf3_any a b old w h0 g0 h1 g1 h2 g2
    · exact rf4_any a b old w h0 g0 h1 g1 h2 g2
    · exact rf5_any a b old w h0 g0 h1 g1 h2 g2
    · exact rf10_any a b old w h0 g0 h1 g1 h2 g2
    · exact rf11_any a b old w h0 g0 h1 g1 h2 g2
    · exact rf12_any a b old w h0 g0 h1 g1 h2 g2
end Go.Proofs.Ytcjcmnnhmajocab.Fl
