import Derived.Test.YtcjcmnnhmajocaaHostL
import Derived.Test.YtcjcmnnhmajocaaHostKa
import Derived.Test.YtcjcmnnhmajocaaHostKb
import Derived.Test.YtcjcmnnhmajocaaHostKc
namespace Go.Proofs.Ytcjcmnnhmajocaa.Ho
open Go.RowKit Kt
set_option linter.unusedVariables false
set_option linter.unusedSimpArgs false
def sumw (o d a b c n : Int) : Int := (o + 256 * d + 4096 * a + 65536 * b + 1048576 * c + 65536 * n) % 4294967296
def yeq (q : Nat) (v k1 x1 o d a b c n k x : Int) : Bool := eqc (v % 256) (pick (hD q) (v / 256 % 16)) (pick (hA q) (v / 256 / 16 % 16)) (pick (hB q) (v / 256 / 16 / 16 % 16)) (pick (hC q) (v / 256 / 16 / 16 / 16 % 16))
    (pick (decide (nb q ≠ 0)) (v / 256 / 16 / 16 % 65536)) (pick (decide (1 < wd q)) k1) (pick (decide (2 < wd q)) x1) o d a b c n k x
theorem dgood_any {q : Nat} {v k x : Int} (h : good q v) : dres q v k x = .tuple #[.agg #[.int .i64 (v % 256), .int .i64 (pick (hD q) (v / 256 % 16)), .int .i64 (pick (hA q) (v / 256 / 16 % 16)), .int .i64 (pick (hB q) (v / 256 / 16 / 16 % 16)), .int .i64 (pick (hC q) (v / 256 / 16 / 16 / 16 % 16)),
    .int .i64 (pick (decide (nb q ≠ 0)) (v / 256 / 16 / 16 % 65536)), .int .u32 (pick (decide (1 < wd q)) k), .int .u32 (pick (decide (2 < wd q)) x)], .int .i64 (wd q), .int .i64 0] := by rw [dres_good h]; rfl
theorem yeq_iff (q : Nat) (v k1 x1 o d a b c n k x : Int) : yeq q v k1 x1 o d a b c n k x = true ↔ (v % 256 = o ∧ pick (hD q) (v / 256 % 16) = d ∧ pick (hA q) (v / 256 / 16 % 16) = a ∧ pick (hB q) (v / 256 / 16 / 16 % 16) = b ∧ pick (hC q) (v / 256 / 16 / 16 / 16 % 16) = c ∧
    pick (decide (nb q ≠ 0)) (v / 256 / 16 / 16 % 65536) = n ∧ pick (decide (1 < wd q)) k1 = k ∧ pick (decide (2 < wd q)) x1 = x) := eqc_iff _ _ _ _ _ _ _ _ _ _ _ _ _ _ _ _
theorem rmath_1 {o d a b c n k x : Int} (p0 : 0 ≤ o) (p1 : o < 256) (hd : 0 ≤ d ∧ d < 16) (ha : 0 ≤ a ∧ a < 16) (hb : 0 ≤ b ∧ b < 16) (hc : 0 ≤ c ∧ c < 16) (hn : 0 ≤ n ∧ n < 65536) : EOK 1 o d a b c n k x ↔ (good 1 (sumw o d a b c n) ∧ yeq 1 (sumw o d a b c n) k x o d a b c n k x = true) := by
  unfold sumw
  generalize hv : (o + 256 * d + 4096 * a + 65536 * b + 1048576 * c + 65536 * n) % 4294967296 = v
  rw [eok_1, good_1, yeq_iff]
  change _ ↔ (_ ∧ (v % 256 = o ∧ v / 256 % 16 = d ∧ v / 256 / 16 % 16 = a ∧ v / 256 / 16 / 16 % 16 = b ∧ 0 = c ∧ 0 = n ∧ 0 = k ∧ 0 = x))
  omega
theorem rmath_2 {o d a b c n k x : Int} (p0 : 0 ≤ o) (p1 : o < 256) (hd : 0 ≤ d ∧ d < 16) (ha : 0 ≤ a ∧ a < 16) (hb : 0 ≤ b ∧ b < 16) (hc : 0 ≤ c ∧ c < 16) (hn : 0 ≤ n ∧ n < 65536) : EOK 2 o d a b c n k x ↔ (good 2 (sumw o d a b c n) ∧ yeq 2 (sumw o d a b c n) k x o d a b c n k x = true) := by
  unfold sumw
  generalize hv : (o + 256 * d + 4096 * a + 65536 * b + 1048576 * c + 65536 * n) % 4294967296 = v
  rw [eok_2, good_2, yeq_iff]
  change _ ↔ (_ ∧ (v % 256 = o ∧ v / 256 % 16 = d ∧ v / 256 / 16 % 16 = a ∧ 0 = b ∧ 0 = c ∧ 0 = n ∧ 0 = k ∧ 0 = x))
  omega
theorem rmath_3 {o d a b c n k x : Int} (p0 : 0 ≤ o) (p1 : o < 256) (hd : 0 ≤ d ∧ d < 16) (ha : 0 ≤ a ∧ a < 16) (hb : 0 ≤ b ∧ b < 16) (hc : 0 ≤ c ∧ c < 16) (hn : 0 ≤ n ∧ n < 65536) : EOK 3 o d a b c n k x ↔ (good 3 (sumw o d a b c n) ∧ yeq 3 (sumw o d a b c n) k x o d a b c n k x = true) := by
  unfold sumw
  generalize hv : (o + 256 * d + 4096 * a + 65536 * b + 1048576 * c + 65536 * n) % 4294967296 = v
  rw [eok_3, good_3, yeq_iff]
  change _ ↔ (_ ∧ (v % 256 = o ∧ v / 256 % 16 = d ∧ v / 256 / 16 % 16 = a ∧ v / 256 / 16 / 16 % 16 = b ∧ v / 256 / 16 / 16 / 16 % 16 = c ∧ 0 = n ∧ 0 = k ∧ 0 = x))
  omega
theorem rmath_4 {o d a b c n k x : Int} (p0 : 0 ≤ o) (p1 : o < 256) (hd : 0 ≤ d ∧ d < 16) (ha : 0 ≤ a ∧ a < 16) (hb : 0 ≤ b ∧ b < 16) (hc : 0 ≤ c ∧ c < 16) (hn : 0 ≤ n ∧ n < 65536) : EOK 4 o d a b c n k x ↔ (good 4 (sumw o d a b c n) ∧ yeq 4 (sumw o d a b c n) k x o d a b c n k x = true) := by
  unfold sumw
  generalize hv : (o + 256 * d + 4096 * a + 65536 * b + 1048576 * c + 65536 * n) % 4294967296 = v
  rw [eok_4, good_4, yeq_iff]
  change _ ↔ (_ ∧ (v % 256 = o ∧ v / 256 % 16 = d ∧ v / 256 / 16 % 16 = a ∧ 0 = b ∧ 0 = c ∧ v / 256 / 16 / 16 % 65536 = n ∧ k = k ∧ 0 = x))
  omega
theorem rmath_5 {o d a b c n k x : Int} (p0 : 0 ≤ o) (p1 : o < 256) (hd : 0 ≤ d ∧ d < 16) (ha : 0 ≤ a ∧ a < 16) (hb : 0 ≤ b ∧ b < 16) (hc : 0 ≤ c ∧ c < 16) (hn : 0 ≤ n ∧ n < 65536) : EOK 5 o d a b c n k x ↔ (good 5 (sumw o d a b c n) ∧ yeq 5 (sumw o d a b c n) k x o d a b c n k x = true) := by
  unfold sumw
  generalize hv : (o + 256 * d + 4096 * a + 65536 * b + 1048576 * c + 65536 * n) % 4294967296 = v
  rw [eok_5, good_5, yeq_iff]
  change _ ↔ (_ ∧ (v % 256 = o ∧ v / 256 % 16 = d ∧ 0 = a ∧ 0 = b ∧ 0 = c ∧ 0 = n ∧ 0 = k ∧ 0 = x))
  omega
theorem rmath_6 {o d a b c n k x : Int} (p0 : 0 ≤ o) (p1 : o < 256) (hd : 0 ≤ d ∧ d < 16) (ha : 0 ≤ a ∧ a < 16) (hb : 0 ≤ b ∧ b < 16) (hc : 0 ≤ c ∧ c < 16) (hn : 0 ≤ n ∧ n < 65536) : EOK 6 o d a b c n k x ↔ (good 6 (sumw o d a b c n) ∧ yeq 6 (sumw o d a b c n) k x o d a b c n k x = true) := by
  unfold sumw
  generalize hv : (o + 256 * d + 4096 * a + 65536 * b + 1048576 * c + 65536 * n) % 4294967296 = v
  rw [eok_6, good_6, yeq_iff]
  change _ ↔ (_ ∧ (v % 256 = o ∧ 0 = d ∧ v / 256 / 16 % 16 = a ∧ 0 = b ∧ 0 = c ∧ v / 256 / 16 / 16 % 65536 = n ∧ k = k ∧ 0 = x))
  omega
theorem rmath_7 {o d a b c n k x : Int} (p0 : 0 ≤ o) (p1 : o < 256) (hd : 0 ≤ d ∧ d < 16) (ha : 0 ≤ a ∧ a < 16) (hb : 0 ≤ b ∧ b < 16) (hc : 0 ≤ c ∧ c < 16) (hn : 0 ≤ n ∧ n < 65536) : EOK 7 o d a b c n k x ↔ (good 7 (sumw o d a b c n) ∧ yeq 7 (sumw o d a b c n) k x o d a b c n k x = true) := by
  unfold sumw
  generalize hv : (o + 256 * d + 4096 * a + 65536 * b + 1048576 * c + 65536 * n) % 4294967296 = v
  rw [eok_7, good_7, yeq_iff]
  change _ ↔ (_ ∧ (v % 256 = o ∧ 0 = d ∧ 0 = a ∧ 0 = b ∧ 0 = c ∧ v / 256 / 16 / 16 % 65536 = n ∧ k = k ∧ 0 = x))
  omega
theorem rmath_8 {o d a b c n k x : Int} (p0 : 0 ≤ o) (p1 : o < 256) (hd : 0 ≤ d ∧ d < 16) (ha : 0 ≤ a ∧ a < 16) (hb : 0 ≤ b ∧ b < 16) (hc : 0 ≤ c ∧ c < 16) (hn : 0 ≤ n ∧ n < 65536) : EOK 8 o d a b c n k x ↔ (good 8 (sumw o d a b c n) ∧ yeq 8 (sumw o d a b c n) k x o d a b c n k x = true) := by
  unfold sumw
  generalize hv : (o + 256 * d + 4096 * a + 65536 * b + 1048576 * c + 65536 * n) % 4294967296 = v
  rw [eok_8, good_8, yeq_iff]
  change _ ↔ (_ ∧ (v % 256 = o ∧ v / 256 % 16 = d ∧ 0 = a ∧ 0 = b ∧ 0 = c ∧ 0 = n ∧ k = k ∧ 0 = x))
  omega
theorem rmath_9 {o d a b c n k x : Int} (p0 : 0 ≤ o) (p1 : o < 256) (hd : 0 ≤ d ∧ d < 16) (ha : 0 ≤ a ∧ a < 16) (hb : 0 ≤ b ∧ b < 16) (hc : 0 ≤ c ∧ c < 16) (hn : 0 ≤ n ∧ n < 65536) : EOK 9 o d a b c n k x ↔ (good 9 (sumw o d a b c n) ∧ yeq 9 (sumw o d a b c n) k x o d a b c n k x = true) := by
  unfold sumw
  generalize hv : (o + 256 * d + 4096 * a + 65536 * b + 1048576 * c + 65536 * n) % 4294967296 = v
  rw [eok_9, good_9, yeq_iff]
  change _ ↔ (_ ∧ (v % 256 = o ∧ 0 = d ∧ v / 256 / 16 % 16 = a ∧ 0 = b ∧ 0 = c ∧ v / 256 / 16 / 16 % 65536 = n ∧ 0 = k ∧ 0 = x))
  omega
theorem rmath_10 {o d a b c n k x : Int} (p0 : 0 ≤ o) (p1 : o < 256) (hd : 0 ≤ d ∧ d < 16) (ha : 0 ≤ a ∧ a < 16) (hb : 0 ≤ b ∧ b < 16) (hc : 0 ≤ c ∧ c < 16) (hn : 0 ≤ n ∧ n < 65536) : EOK 10 o d a b c n k x ↔ (good 10 (sumw o d a b c n) ∧ yeq 10 (sumw o d a b c n) k x o d a b c n k x = true) := by
  unfold sumw
  generalize hv : (o + 256 * d + 4096 * a + 65536 * b + 1048576 * c + 65536 * n) % 4294967296 = v
  rw [eok_10, good_10, yeq_iff]
  change _ ↔ (_ ∧ (v % 256 = o ∧ v / 256 % 16 = d ∧ 0 = a ∧ 0 = b ∧ 0 = c ∧ v / 256 / 16 / 16 % 65536 = n ∧ 0 = k ∧ 0 = x))
  omega
theorem rmath_11 {o d a b c n k x : Int} (p0 : 0 ≤ o) (p1 : o < 256) (hd : 0 ≤ d ∧ d < 16) (ha : 0 ≤ a ∧ a < 16) (hb : 0 ≤ b ∧ b < 16) (hc : 0 ≤ c ∧ c < 16) (hn : 0 ≤ n ∧ n < 65536) : EOK 11 o d a b c n k x ↔ (good 11 (sumw o d a b c n) ∧ yeq 11 (sumw o d a b c n) k x o d a b c n k x = true) := by
  unfold sumw
  generalize hv : (o + 256 * d + 4096 * a + 65536 * b + 1048576 * c + 65536 * n) % 4294967296 = v
  rw [eok_11, good_11, yeq_iff]
  change _ ↔ (_ ∧ (v % 256 = o ∧ 0 = d ∧ v / 256 / 16 % 16 = a ∧ 0 = b ∧ 0 = c ∧ v / 256 / 16 / 16 % 65536 = n ∧ 0 = k ∧ 0 = x))
  omega
theorem rmath_12 {o d a b c n k x : Int} (p0 : 0 ≤ o) (p1 : o < 256) (hd : 0 ≤ d ∧ d < 16) (ha : 0 ≤ a ∧ a < 16) (hb : 0 ≤ b ∧ b < 16) (hc : 0 ≤ c ∧ c < 16) (hn : 0 ≤ n ∧ n < 65536) : EOK 12 o d a b c n k x ↔ (good 12 (sumw o d a b c n) ∧ yeq 12 (sumw o d a b c n) k x o d a b c n k x = true) := by
  unfold sumw
  generalize hv : (o + 256 * d + 4096 * a + 65536 * b + 1048576 * c + 65536 * n) % 4294967296 = v
  rw [eok_12, good_12, yeq_iff]
  change _ ↔ (_ ∧ (v % 256 = o ∧ v / 256 % 16 = d ∧ 0 = a ∧ 0 = b ∧ 0 = c ∧ v / 256 / 16 / 16 % 65536 = n ∧ 0 = k ∧ 0 = x))
  omega
theorem rmath_13 {o d a b c n k x : Int} (p0 : 0 ≤ o) (p1 : o < 256) (hd : 0 ≤ d ∧ d < 16) (ha : 0 ≤ a ∧ a < 16) (hb : 0 ≤ b ∧ b < 16) (hc : 0 ≤ c ∧ c < 16) (hn : 0 ≤ n ∧ n < 65536) : EOK 13 o d a b c n k x ↔ (good 13 (sumw o d a b c n) ∧ yeq 13 (sumw o d a b c n) k x o d a b c n k x = true) := by
  unfold sumw
  generalize hv : (o + 256 * d + 4096 * a + 65536 * b + 1048576 * c + 65536 * n) % 4294967296 = v
  rw [eok_13, good_13, yeq_iff]
  change _ ↔ (_ ∧ (v % 256 = o ∧ 0 = d ∧ v / 256 / 16 % 16 = a ∧ 0 = b ∧ 0 = c ∧ v / 256 / 16 / 16 % 65536 = n ∧ 0 = k ∧ 0 = x))
  omega
theorem rmath_14 {o d a b c n k x : Int} (p0 : 0 ≤ o) (p1 : o < 256) (hd : 0 ≤ d ∧ d < 16) (ha : 0 ≤ a ∧ a < 16) (hb : 0 ≤ b ∧ b < 16) (hc : 0 ≤ c ∧ c < 16) (hn : 0 ≤ n ∧ n < 65536) : EOK 14 o d a b c n k x ↔ (good 14 (sumw o d a b c n) ∧ yeq 14 (sumw o d a b c n) k x o d a b c n k x = true) := by
  unfold sumw
  generalize hv : (o + 256 * d + 4096 * a + 65536 * b + 1048576 * c + 65536 * n) % 4294967296 = v
  rw [eok_14, good_14, yeq_iff]
  change _ ↔ (_ ∧ (v % 256 = o ∧ v / 256 % 16 = d ∧ 0 = a ∧ 0 = b ∧ 0 = c ∧ v / 256 / 16 / 16 % 65536 = n ∧ k = k ∧ x = x))
  omega
theorem rmath_15 {o d a b c n k x : Int} (p0 : 0 ≤ o) (p1 : o < 256) (hd : 0 ≤ d ∧ d < 16) (ha : 0 ≤ a ∧ a < 16) (hb : 0 ≤ b ∧ b < 16) (hc : 0 ≤ c ∧ c < 16) (hn : 0 ≤ n ∧ n < 65536) : EOK 15 o d a b c n k x ↔ (good 15 (sumw o d a b c n) ∧ yeq 15 (sumw o d a b c n) k x o d a b c n k x = true) := by
  unfold sumw
  generalize hv : (o + 256 * d + 4096 * a + 65536 * b + 1048576 * c + 65536 * n) % 4294967296 = v
  rw [eok_15, good_15, yeq_iff]
  change _ ↔ (_ ∧ (v % 256 = o ∧ v / 256 % 16 = d ∧ v / 256 / 16 % 16 = a ∧ 0 = b ∧ 0 = c ∧ v / 256 / 16 / 16 % 65536 = n ∧ k = k ∧ 0 = x))
  omega
theorem rmath_any (q : Nat) (h1 : 1 ≤ q) (h2 : q ≤ 15) {o d a b c n k x : Int} (p0 : 0 ≤ o) (p1 : o < 256) (hd : 0 ≤ d ∧ d < 16) (ha : 0 ≤ a ∧ a < 16) (hb : 0 ≤ b ∧ b < 16) (hc : 0 ≤ c ∧ c < 16) (hn : 0 ≤ n ∧ n < 65536) : EOK q o d a b c n k x ↔ (good q (sumw o d a b c n) ∧ yeq q (sumw o d a b c n) k x o d a b c n k x = true) := by
  rcases (show q = 1 ∨ q = 2 ∨ q = 3 ∨ q = 4 ∨ q = 5 ∨ q = 6 ∨ q = 7 ∨ q = 8 ∨ q = 9 ∨ q = 10 ∨ q = 11 ∨ q = 12 ∨ q = 13 ∨ q = 14 ∨ q = 15 by omega) with rfl | rfl | rfl | rfl | rfl | rfl | rfl | rfl | rfl | rfl | rfl | rfl | rfl | rfl | rfl
  · exact rmath_1 p0 p1 hd ha hb hc hn
  · exact rmath_2 p0 p1 hd ha hb hc hn
  · exact rmath_3 p0 p1 hd ha hb hc hn
  · exact rmath_4 p0 p1 hd ha hb hc hn
  · exact rmath_5 p0 p1 hd ha hb hc hn
  · exact rmath_6 p0 p1 hd ha hb hc hn
  · exact rmath_7 p0 p1 hd ha hb hc hn
  · exact rmath_8 p0 p1 hd ha hb hc hn
  · exact rmath_9 p0 p1 hd ha hb hc hn
  · exact rmath_10 p0 p1 hd ha hb hc hn
  · exact rmath_11 p0 p1 hd ha hb hc hn
  · exact rmath_12 p0 p1 hd ha hb hc hn
  · exact rmath_13 p0 p1 hd ha hb hc hn
  · exact rmath_14 p0 p1 hd ha hb hc hn
  · exact rmath_15 p0 p1 hd ha hb hc hn
theorem erange_1 {o d a b c n k x : Int} (p0 : 0 ≤ o) (p1 : o < 256) (h : EOK 1 o d a b c n k x) : (0 ≤ d ∧ d < 16) ∧ (0 ≤ a ∧ a < 16) ∧ (0 ≤ b ∧ b < 16) ∧ (0 ≤ c ∧ c < 16) ∧ (0 ≤ n ∧ n < 65536) ∧ o + d % 16 * 256 + a % 16 * 4096 + (b % 16 * 65536 + c % 16 * 1048576) = sumw o d a b c n := by
  rw [eok_1] at h
  unfold sumw
  omega
theorem erange_2 {o d a b c n k x : Int} (p0 : 0 ≤ o) (p1 : o < 256) (h : EOK 2 o d a b c n k x) : (0 ≤ d ∧ d < 16) ∧ (0 ≤ a ∧ a < 16) ∧ (0 ≤ b ∧ b < 16) ∧ (0 ≤ c ∧ c < 16) ∧ (0 ≤ n ∧ n < 65536) ∧ o + d % 16 * 256 + a % 16 * 4096 + (b % 16 * 65536 + c % 16 * 1048576) = sumw o d a b c n := by
  rw [eok_2] at h
  unfold sumw
  omega
theorem erange_3 {o d a b c n k x : Int} (p0 : 0 ≤ o) (p1 : o < 256) (h : EOK 3 o d a b c n k x) : (0 ≤ d ∧ d < 16) ∧ (0 ≤ a ∧ a < 16) ∧ (0 ≤ b ∧ b < 16) ∧ (0 ≤ c ∧ c < 16) ∧ (0 ≤ n ∧ n < 65536) ∧ o + d % 16 * 256 + a % 16 * 4096 + (b % 16 * 65536 + c % 16 * 1048576) = sumw o d a b c n := by
  rw [eok_3] at h
  unfold sumw
  omega
theorem erange_4 {o d a b c n k x : Int} (p0 : 0 ≤ o) (p1 : o < 256) (h : EOK 4 o d a b c n k x) : (0 ≤ d ∧ d < 16) ∧ (0 ≤ a ∧ a < 16) ∧ (0 ≤ b ∧ b < 16) ∧ (0 ≤ c ∧ c < 16) ∧ (0 ≤ n ∧ n < 65536) ∧ o + d % 16 * 256 + a % 16 * 4096 + n % 65536 * 65536 = sumw o d a b c n := by
  rw [eok_4] at h
  unfold sumw
  omega
theorem erange_5 {o d a b c n k x : Int} (p0 : 0 ≤ o) (p1 : o < 256) (h : EOK 5 o d a b c n k x) : (0 ≤ d ∧ d < 16) ∧ (0 ≤ a ∧ a < 16) ∧ (0 ≤ b ∧ b < 16) ∧ (0 ≤ c ∧ c < 16) ∧ (0 ≤ n ∧ n < 65536) ∧ o + d % 16 * 256 + a % 16 * 4096 + (b % 16 * 65536 + c % 16 * 1048576) = sumw o d a b c n := by
  rw [eok_5] at h
  unfold sumw
  omega
theorem erange_6 {o d a b c n k x : Int} (p0 : 0 ≤ o) (p1 : o < 256) (h : EOK 6 o d a b c n k x) : (0 ≤ d ∧ d < 16) ∧ (0 ≤ a ∧ a < 16) ∧ (0 ≤ b ∧ b < 16) ∧ (0 ≤ c ∧ c < 16) ∧ (0 ≤ n ∧ n < 65536) ∧ o + d % 16 * 256 + a % 16 * 4096 + n % 65536 * 65536 = sumw o d a b c n := by
  rw [eok_6] at h
  unfold sumw
  omega
theorem erange_7 {o d a b c n k x : Int} (p0 : 0 ≤ o) (p1 : o < 256) (h : EOK 7 o d a b c n k x) : (0 ≤ d ∧ d < 16) ∧ (0 ≤ a ∧ a < 16) ∧ (0 ≤ b ∧ b < 16) ∧ (0 ≤ c ∧ c < 16) ∧ (0 ≤ n ∧ n < 65536) ∧ o + d % 16 * 256 + a % 16 * 4096 + n % 65536 * 65536 = sumw o d a b c n := by
  rw [eok_7] at h
  unfold sumw
  omega
theorem erange_8 {o d a b c n k x : Int} (p0 : 0 ≤ o) (p1 : o < 256) (h : EOK 8 o d a b c n k x) : (0 ≤ d ∧ d < 16) ∧ (0 ≤ a ∧ a < 16) ∧ (0 ≤ b ∧ b < 16) ∧ (0 ≤ c ∧ c < 16) ∧ (0 ≤ n ∧ n < 65536) ∧ o + d % 16 * 256 + a % 16 * 4096 + (b % 16 * 65536 + c % 16 * 1048576) = sumw o d a b c n := by
  rw [eok_8] at h
  unfold sumw
  omega
theorem erange_9 {o d a b c n k x : Int} (p0 : 0 ≤ o) (p1 : o < 256) (h : EOK 9 o d a b c n k x) : (0 ≤ d ∧ d < 16) ∧ (0 ≤ a ∧ a < 16) ∧ (0 ≤ b ∧ b < 16) ∧ (0 ≤ c ∧ c < 16) ∧ (0 ≤ n ∧ n < 65536) ∧ o + d % 16 * 256 + a % 16 * 4096 + n % 65536 * 65536 = sumw o d a b c n := by
  rw [eok_9] at h
  unfold sumw
  omega
theorem erange_10 {o d a b c n k x : Int} (p0 : 0 ≤ o) (p1 : o < 256) (h : EOK 10 o d a b c n k x) : (0 ≤ d ∧ d < 16) ∧ (0 ≤ a ∧ a < 16) ∧ (0 ≤ b ∧ b < 16) ∧ (0 ≤ c ∧ c < 16) ∧ (0 ≤ n ∧ n < 65536) ∧ o + d % 16 * 256 + a % 16 * 4096 + n % 65536 * 65536 = sumw o d a b c n := by
  rw [eok_10] at h
  unfold sumw
  omega
theorem erange_11 {o d a b c n k x : Int} (p0 : 0 ≤ o) (p1 : o < 256) (h : EOK 11 o d a b c n k x) : (0 ≤ d ∧ d < 16) ∧ (0 ≤ a ∧ a < 16) ∧ (0 ≤ b ∧ b < 16) ∧ (0 ≤ c ∧ c < 16) ∧ (0 ≤ n ∧ n < 65536) ∧ o + d % 16 * 256 + a % 16 * 4096 + n % 65536 * 65536 = sumw o d a b c n := by
  rw [eok_11] at h
  unfold sumw
  omega
theorem erange_12 {o d a b c n k x : Int} (p0 : 0 ≤ o) (p1 : o < 256) (h : EOK 12 o d a b c n k x) : (0 ≤ d ∧ d < 16) ∧ (0 ≤ a ∧ a < 16) ∧ (0 ≤ b ∧ b < 16) ∧ (0 ≤ c ∧ c < 16) ∧ (0 ≤ n ∧ n < 65536) ∧ o + d % 16 * 256 + a % 16 * 4096 + n % 65536 * 65536 = sumw o d a b c n := by
  rw [eok_12] at h
  unfold sumw
  omega
theorem erange_13 {o d a b c n k x : Int} (p0 : 0 ≤ o) (p1 : o < 256) (h : EOK 13 o d a b c n k x) : (0 ≤ d ∧ d < 16) ∧ (0 ≤ a ∧ a < 16) ∧ (0 ≤ b ∧ b < 16) ∧ (0 ≤ c ∧ c < 16) ∧ (0 ≤ n ∧ n < 65536) ∧ o + d % 16 * 256 + a % 16 * 4096 + n % 65536 * 65536 = sumw o d a b c n := by
  rw [eok_13] at h
  unfold sumw
  omega
theorem erange_14 {o d a b c n k x : Int} (p0 : 0 ≤ o) (p1 : o < 256) (h : EOK 14 o d a b c n k x) : (0 ≤ d ∧ d < 16) ∧ (0 ≤ a ∧ a < 16) ∧ (0 ≤ b ∧ b < 16) ∧ (0 ≤ c ∧ c < 16) ∧ (0 ≤ n ∧ n < 65536) ∧ o + d % 16 * 256 + a % 16 * 4096 + n % 65536 * 65536 = sumw o d a b c n := by
  rw [eok_14] at h
  unfold sumw
  omega
theorem erange_15 {o d a b c n k x : Int} (p0 : 0 ≤ o) (p1 : o < 256) (h : EOK 15 o d a b c n k x) : (0 ≤ d ∧ d < 16) ∧ (0 ≤ a ∧ a < 16) ∧ (0 ≤ b ∧ b < 16) ∧ (0 ≤ c ∧ c < 16) ∧ (0 ≤ n ∧ n < 65536) ∧ o + d % 16 * 256 + a % 16 * 4096 + n % 65536 * 65536 = sumw o d a b c n := by
  rw [eok_15] at h
  unfold sumw
  omega
end Go.Proofs.Ytcjcmnnhmajocaa.Ho
