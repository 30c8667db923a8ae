/- Lemmas. -/
import Derived.Lib.Hide
import Derived.Deep.QuietTactic
import Derived.BigQuiet
import Derived.Test.YtcjcmnnhmajocabPgam
namespace Go.Proofs.Ytcjcmnnhmajocab.Ho
open Go.RowKit Kt
set_option linter.unusedVariables false
set_option linter.unusedSimpArgs false
theorem dgood_11 {v k x : Int} (h : good 11 v) : dres 11 v k x = .tuple #[.agg #[.int .i64 (v % 256), .int .i64 (0), .int .i64 (v / 256 / 16 % 16), .int .i64 (0), .int .i64 (0), .int .i64 (v / 256 / 16 / 16 % 65536), .int .u32 0, .int .u32 0], .int .i64 1, .int .i64 0] := by rw [dres_good h, dok_11]; rfl
theorem eok_11 (o d a b c n k x : Int) : EOK 11 o d a b c n k x ↔ (d = 0 ∧ (0 ≤ a ∧ a < 16) ∧ b = 0 ∧ c = 0 ∧ (0 ≤ n ∧ n < 12) ∧ k = 0 ∧ x = 0) := by simp [EOK, hD, hA, hB, hC, hK, nb, wd]
theorem emath_11 {o d a b c n k x : Int} (p0 : 0 ≤ o) (p1 : o < 256) : EOK 11 o d a b c n k x ↔ (good 11 (o + d % 16 * 256 + a % 16 * 4096 + n % 65536 * 65536) ∧ eqc ((o + d % 16 * 256 + a % 16 * 4096 + n % 65536 * 65536) % 256) (0) ((o + d % 16 * 256 + a % 16 * 4096 + n % 65536 * 65536) / 256 / 16 % 16) (0) (0) ((o + d % 16 * 256 + a % 16 * 4096 + n % 65536 * 65536) / 256 / 16 / 16 % 65536) 0 0 o d a b c n k x = true) := by
  rw [eok_11, good_11, eqc_iff]
  omega
set_option maxRecDepth 100000 in
set_option maxHeartbeats 4000000 in
theorem enc_11 (o d a b c n k x : Int) (w : World) (hq : fcls o = 11) (p0 : 0 ≤ o) (p1 : o < 256) :
    Calls Try.prog 93 #[.agg #[.int .i64 o, .int .i64 d, .int .i64 a, .int .i64 b, .int .i64 c, .int .i64 n, .int .u32 k, .int .u32 x]] w (Enc w 11 (o + d % 16 * 256 + a % 16 * 4096 + n % 65536 * 65536) k x (EOK 11 o d a b c n k x)) := by
  have m1 := i64_15 d
  have m2 := i64_15 a
  have m3 := i64_15 b
  have m4 := i64_15 c
  have m5 := i64_65535 n
  have j1 := or_d o d p0 p1
  have j2 := or_a o d a p0 p1
  have j3 := or_n o d a n p0 p1
  have j4 := or_bc b c
  have j5 := or_q o d a b c p0 p1
  have hmk := make3
  have hmath := Lib.hid (emath_11 (d := d) (a := a) (b := b) (c := c) (n := n) (k := k) (x := x) p0 p1)
  go_enter Try.func93, Try.ntmps93
  go_wp2_with (first
    | (go_at_call 149; refine (formatOf_any o _).mono ?_; rintro e w1 ⟨rfl, hb1⟩; rw [hq, show frow 11 = #[.bool false, .bool true, .bool false, .bool false, .bool false, .int .i64 12, .int .i64 1] from rfl]; obtain ⟨kX, zX, s1, hB⟩ := behind1 hb1; clear hb1; have t1 := ltn 1 s1; have t2 := ltn 2 s1; have t3 := ltn 3 s1; have t4 := ltn 4 s1; have t5 := ltn 5 s1)
    | (go_at_call 89; fail))
  refine (enc_dec 11 (by decide) (by decide) (v0 := o + d % 16 * 256 + a % 16 * 4096 + n % 65536 * 65536) (k1 := 0) (x1 := 0) (by decide) (by decide) (by omega) (by omega) (by rw [show (o + d % 16 * 256 + a % 16 * 4096 + n % 65536 * 65536) % 256 = o by omega]; exact hq) s1 kX hB
    (G := #[.int .u32 (o + d % 16 * 256 + a % 16 * 4096 + n % 65536 * 65536), .int .u32 0, .int .u32 0]) (by repeat (first | exact Below.refl _ _ | refine Below.alloc ?_ (by first | exact Nat.le_refl _ | (simp only [World.size_alloc]; omega)) _)) (by (repeat rw [Below.heap_alloc _ (.cells #[_] _) _ (by simp)]); simpa using heap_alloc_new (w1.alloc _) _) rfl (fun h => absurd h (by decide)) (fun h => absurd h (by decide))).mono ?_
  rintro e w2 ⟨rfl, hB2, kX2, hG2, s2⟩
  have kG := (cells_of hG2).1
  clear kX zX
  by_cases hg : good 11 (o + d % 16 * 256 + a % 16 * 4096 + n % 65536 * 65536)
  · rw [dgood_11 hg]
    have hne := fun w => neq_code ((o + d % 16 * 256 + a % 16 * 4096 + n % 65536 * 65536) % 256) (0) ((o + d % 16 * 256 + a % 16 * 4096 + n % 65536 * 65536) / 256 / 16 % 16) (0) (0) ((o + d % 16 * 256 + a % 16 * 4096 + n % 65536 * 65536) / 256 / 16 / 16 % 65536) 0 0 o d a b c n k x w
    cases hr : eqc ((o + d % 16 * 256 + a % 16 * 4096 + n % 65536 * 65536) % 256) (0) ((o + d % 16 * 256 + a % 16 * 4096 + n % 65536 * 65536) / 256 / 16 % 16) (0) (0) ((o + d % 16 * 256 + a % 16 * 4096 + n % 65536 * 65536) / 256 / 16 / 16 % 65536) 0 0 o d a b c n k x
    · rw [hr] at hne
      go_wp2
      go_ret2
      exact enc_no (fun h => by have := (hmath.out.1 h).2; rw [hr] at this; cases this) hB2 s2
    · rw [hr] at hne
      go_wp2
      go_ret2
      exact enc_yes (hmath.out.2 ⟨hg, hr⟩) hB2 s1 s2 hG2 rfl (fun h => absurd h (by decide)) (fun h => absurd h (by decide)) rfl (by decide)
  · rw [dbad hg]
    go_wp2
    go_ret2
    exact enc_no (fun h => hg (hmath.out.1 h).1) hB2 s2
theorem dgood_12 {v k x : Int} (h : good 12 v) : dres 12 v k x = .tuple #[.agg #[.int .i64 (v % 256), .int .i64 (v / 256 % 16), .int .i64 (0), .int .i64 (0), .int .i64 (0), .int .i64 (v / 256 / 16 / 16 % 65536), .int .u32 0, .int .u32 0], .int .i64 1, .int .i64 0] := by rw [dres_good h, dok_12]; rfl
theorem eok_12 (o d a b c n k x : Int) : EOK 12 o d a b c n k x ↔ ((0 ≤ d ∧ d < 16) ∧ a = 0 ∧ b = 0 ∧ c = 0 ∧ (0 ≤ n ∧ n < 2048) ∧ k = 0 ∧ x = 0) := by simp [EOK, hD, hA, hB, hC, hK, nb, wd]
theorem emath_12 {o d a b c n k x : Int} (p0 : 0 ≤ o) (p1 : o < 256) : EOK 12 o d a b c n k x ↔ (good 12 (o + d % 16 * 256 + a % 16 * 4096 + n % 65536 * 65536) ∧ eqc ((o + d % 16 * 256 + a % 16 * 4096 + n % 65536 * 65536) % 256) ((o + d % 16 * 256 + a % 16 * 4096 + n % 65536 * 65536) / 256 % 16) (0) (0) (0) ((o + d % 16 * 256 + a % 16 * 4096 + n % 65536 * 65536) / 256 / 16 / 16 % 65536) 0 0 o d a b c n k x = true) := by
  rw [eok_12, good_12, eqc_iff]
  omega
set_option maxRecDepth 100000 in
set_option maxHeartbeats 4000000 in
theorem enc_12 (o d a b c n k x : Int) (w : World) (hq : fcls o = 12) (p0 : 0 ≤ o) (p1 : o < 256) :
    Calls Try.prog 93 #[.agg #[.int .i64 o, .int .i64 d, .int .i64 a, .int .i64 b, .int .i64 c, .int .i64 n, .int .u32 k, .int .u32 x]] w (Enc w 12 (o + d % 16 * 256 + a % 16 * 4096 + n % 65536 * 65536) k x (EOK 12 o d a b c n k x)) := by
  have m1 := i64_15 d
  have m2 := i64_15 a
  have m3 := i64_15 b
  have m4 := i64_15 c
  have m5 := i64_65535 n
  have j1 := or_d o d p0 p1
  have j2 := or_a o d a p0 p1
  have j3 := or_n o d a n p0 p1
  have j4 := or_bc b c
  have j5 := or_q o d a b c p0 p1
  have hmk := make3
  have hmath := Lib.hid (emath_12 (d := d) (a := a) (b := b) (c := c) (n := n) (k := k) (x := x) p0 p1)
  go_enter Try.func93, Try.ntmps93
  go_wp2_with (first
    | (go_at_call 149; refine (formatOf_any o _).mono ?_; rintro e w1 ⟨rfl, hb1⟩; rw [hq, show frow 12 = #[.bool true, .bool false, .bool false, .bool false, .bool false, .int .i64 2048, .int .i64 1] from rfl]; obtain ⟨kX, zX, s1, hB⟩ := behind1 hb1; clear hb1; have t1 := ltn 1 s1; have t2 := ltn 2 s1; have t3 := ltn 3 s1; have t4 := ltn 4 s1; have t5 := ltn 5 s1)
    | (go_at_call 89; fail))
  refine (enc_dec 12 (by decide) (by decide) (v0 := o + d % 16 * 256 + a % 16 * 4096 + n % 65536 * 65536) (k1 := 0) (x1 := 0) (by decide) (by decide) (by omega) (by omega) (by rw [show (o + d % 16 * 256 + a % 16 * 4096 + n % 65536 * 65536) % 256 = o by omega]; exact hq) s1 kX hB
    (G := #[.int .u32 (o + d % 16 * 256 + a % 16 * 4096 + n % 65536 * 65536), .int .u32 0, .int .u32 0]) (by repeat (first | exact Below.refl _ _ | refine Below.alloc ?_ (by first | exact Nat.le_refl _ | (simp only [World.size_alloc]; omega)) _)) (by (repeat rw [Below.heap_alloc _ (.cells #[_] _) _ (by simp)]); simpa using heap_alloc_new (w1.alloc _) _) rfl (fun h => absurd h (by decide)) (fun h => absurd h (by decide))).mono ?_
  rintro e w2 ⟨rfl, hB2, kX2, hG2, s2⟩
  have kG := (cells_of hG2).1
  clear kX zX
  by_cases hg : good 12 (o + d % 16 * 256 + a % 16 * 4096 + n % 65536 * 65536)
  · rw [dgood_12 hg]
    have hne := fun w => neq_code ((o + d % 16 * 256 + a % 16 * 4096 + n % 65536 * 65536) % 256) ((o + d % 16 * 256 + a % 16 * 4096 + n % 65536 * 65536) / 256 % 16) (0) (0) (0) ((o + d % 16 * 256 + a % 16 * 4096 + n % 65536 * 65536) / 256 / 16 / 16 % 65536) 0 0 o d a b c n k x w
    cases hr : eqc ((o + d % 16 * 256 + a % 16 * 4096 + n % 65536 * 65536) % 256) ((o + d % 16 * 256 + a % 16 * 4096 + n % 65536 * 65536) / 256 % 16) (0) (0) (0) ((o + d % 16 * 256 + a % 16 * 4096 + n % 65536 * 65536) / 256 / 16 / 16 % 65536) 0 0 o d a b c n k x
    · rw [hr] at hne
      go_wp2
      go_ret2
      exact enc_no (fun h => by have := (hmath.out.1 h).2; rw [hr] at this; cases this) hB2 s2
    · rw [hr] at hne
      go_wp2
      go_ret2
      exact enc_yes (hmath.out.2 ⟨hg, hr⟩) hB2 s1 s2 hG2 rfl (fun h => absurd h (by decide)) (fun h => absurd h (by decide)) rfl (by decide)
  · rw [dbad hg]
    go_wp2
    go_ret2
    exact enc_no (fun h => hg (hmath.out.1 h).1) hB2 s2
theorem dgood_13 {v k x : Int} (h : good 13 v) : dres 13 v k x = .tuple #[.agg #[.int .i64 (v % 256), .int .i64 (0), .int .i64 (v / 256 / 16 % 16), .int .i64 (0), .int .i64 (0), .int .i64 (v / 256 / 16 / 16 % 65536), .int .u32 0, .int .u32 0], .int .i64 1, .int .i64 0] := by rw [dres_good h, dok_13]; rfl
theorem eok_13 (o d a b c n k x : Int) : EOK 13 o d a b c n k x ↔ (d = 0 ∧ (0 ≤ a ∧ a < 16) ∧ b = 0 ∧ c = 0 ∧ (0 ≤ n ∧ n < 2048) ∧ k = 0 ∧ x = 0) := by simp [EOK, hD, hA, hB, hC, hK, nb, wd]
theorem emath_13 {o d a b c n k x : Int} (p0 : 0 ≤ o) (p1 : o < 256) : EOK 13 o d a b c n k x ↔ (good 13 (o + d % 16 * 256 + a % 16 * 4096 + n % 65536 * 65536) ∧ eqc ((o + d % 16 * 256 + a % 16 * 4096 + n % 65536 * 65536) % 256) (0) ((o + d % 16 * 256 + a % 16 * 4096 + n % 65536 * 65536) / 256 / 16 % 16) (0) (0) ((o + d % 16 * 256 + a % 16 * 4096 + n % 65536 * 65536) / 256 / 16 / 16 % 65536) 0 0 o d a b c n k x = true) := by
  rw [eok_13, good_13, eqc_iff]
  omega
set_option maxRecDepth 100000 in
set_option maxHeartbeats 4000000 in
theorem enc_13 (o d a b c n k x : Int) (w : World) (hq : fcls o = 13) (p0 : 0 ≤ o) (p1 : o < 256) :
    Calls Try.prog 93 #[.agg #[.int .i64 o, .int .i64 d, .int .i64 a, .int .i64 b, .int .i64 c, .int .i64 n, .int .u32 k, .int .u32 x]] w (Enc w 13 (o + d % 16 * 256 + a % 16 * 4096 + n % 65536 * 65536) k x (EOK 13 o d a b c n k x)) := by
  have m1 := i64_15 d
  have m2 := i64_15 a
  have m3 := i64_15 b
  have m4 := i64_15 c
  have m5 := i64_65535 n
  have j1 := or_d o d p0 p1
  have j2 := or_a o d a p0 p1
  have j3 := or_n o d a n p0 p1
  have j4 := or_bc b c
  have j5 := or_q o d a b c p0 p1
  have hmk := make3
  have hmath := Lib.hid (emath_13 (d := d) (a := a) (b := b) (c := c) (n := n) (k := k) (x := x) p0 p1)
  go_enter Try.func93, Try.ntmps93
  go_wp2_with (first
    | (go_at_call 149; refine (formatOf_any o _).mono ?_; rintro e w1 ⟨rfl, hb1⟩; rw [hq, show frow 13 = #[.bool false, .bool true, .bool false, .bool false, .bool false, .int .i64 2048, .int .i64 1] from rfl]; obtain ⟨kX, zX, s1, hB⟩ := behind1 hb1; clear hb1; have t1 := ltn 1 s1; have t2 := ltn 2 s1; have t3 := ltn 3 s1; have t4 := ltn 4 s1; have t5 := ltn 5 s1)
    | (go_at_call 89; fail))
  refine (enc_dec 13 (by decide) (by decide) (v0 := o + d % 16 * 256 + a % 16 * 4096 + n % 65536 * 65536) (k1 := 0) (x1 := 0) (by decide) (by decide) (by omega) (by omega) (by rw [show (o + d % 16 * 256 + a % 16 * 4096 + n % 65536 * 65536) % 256 = o by omega]; exact hq) s1 kX hB
    (G := #[.int .u32 (o + d % 16 * 256 + a % 16 * 4096 + n % 65536 * 65536), .int .u32 0, .int .u32 0]) (by repeat (first | exact Below.refl _ _ | refine Below.alloc ?_ (by first | exact Nat.le_refl _ | (simp only [World.size_alloc]; omega)) _)) (by (repeat rw [Below.heap_alloc _ (.cells #[_] _) _ (by simp)]); simpa using heap_alloc_new (w1.alloc _) _) rfl (fun h => absurd h (by decide)) (fun h => absurd h (by decide))).mono ?_
  rintro e w2 ⟨rfl, hB2, kX2, hG2, s2⟩
  have kG := (cells_of hG2).1
  clear kX zX
  by_cases hg : good 13 (o + d % 16 * 256 + a % 16 * 4096 + n % 65536 * 65536)
  · rw [dgood_13 hg]
    have hne := fun w => neq_code ((o + d % 16 * 256 + a % 16 * 4096 + n % 65536 * 65536) % 256) (0) ((o + d % 16 * 256 + a % 16 * 4096 + n % 65536 * 65536) / 256 / 16 % 16) (0) (0) ((o + d % 16 * 256 + a % 16 * 4096 + n % 65536 * 65536) / 256 / 16 / 16 % 65536) 0 0 o d a b c n k x w
    cases hr : eqc ((o + d % 16 * 256 + a % 16 * 4096 + n % 65536 * 65536) % 256) (0) ((o + d % 16 * 256 + a % 16 * 4096 + n % 65536 * 65536) / 256 / 16 % 16) (0) (0) ((o + d % 16 * 256 + a % 16 * 4096 + n % 65536 * 65536) / 256 / 16 / 16 % 65536) 0 0 o d a b c n k x
    · rw [hr] at hne
      go_wp2
      go_ret2
      exact enc_no (fun h => by have := (hmath.out.1 h).2; rw [hr] at this; cases this) hB2 s2
    · rw [hr] at hne
      go_wp2
      go_ret2
      exact enc_yes (hmath.out.2 ⟨hg, hr⟩) hB2 s1 s2 hG2 rfl (fun h => absurd h (by decide)) (fun h => absurd h (by decide)) rfl (by decide)
  · rw [dbad hg]
    go_wp2
    go_ret2
    exact enc_no (fun h => hg (hmath.out.1 h).1) hB2 s2
theorem dgood_14 {v k x : Int} (h : good 14 v) : dres 14 v k x = .tuple #[.agg #[.int .i64 (v % 256), .int .i64 (v / 256 % 16), .int .i64 (0), .int .i64 (0), .int .i64 (0), .int .i64 (v / 256 / 16 / 16 % 65536), .int .u32 k, .int .u32 x], .int .i64 3, .int .i64 0] := by rw [dres_good h, dok_14]; rfl
theorem eok_14 (o d a b c n k x : Int) : EOK 14 o d a b c n k x ↔ ((0 ≤ d ∧ d < 16) ∧ a = 0 ∧ b = 0 ∧ c = 0 ∧ (0 ≤ n ∧ n < 65) ∧ (1 ≤ d ∧ d ≤ 7)) := by simp [EOK, hD, hA, hB, hC, hK, nb, wd]
theorem emath_14 {o d a b c n k x : Int} (p0 : 0 ≤ o) (p1 : o < 256) : EOK 14 o d a b c n k x ↔ (good 14 (o + d % 16 * 256 + a % 16 * 4096 + n % 65536 * 65536) ∧ eqc ((o + d % 16 * 256 + a % 16 * 4096 + n % 65536 * 65536) % 256) ((o + d % 16 * 256 + a % 16 * 4096 + n % 65536 * 65536) / 256 % 16) (0) (0) (0) ((o + d % 16 * 256 + a % 16 * 4096 + n % 65536 * 65536) / 256 / 16 / 16 % 65536) k x o d a b c n k x = true) := by
  rw [eok_14, good_14, eqc_iff]
  omega
set_option maxRecDepth 100000 in
set_option maxHeartbeats 4000000 in
theorem enc_14 (o d a b c n k x : Int) (w : World) (hq : fcls o = 14) (p0 : 0 ≤ o) (p1 : o < 256) :
    Calls Try.prog 93 #[.agg #[.int .i64 o, .int .i64 d, .int .i64 a, .int .i64 b, .int .i64 c, .int .i64 n, .int .u32 k, .int .u32 x]] w (Enc w 14 (o + d % 16 * 256 + a % 16 * 4096 + n % 65536 * 65536) k x (EOK 14 o d a b c n k x)) := by
  have m1 := i64_15 d
  have m2 := i64_15 a
  have m3 := i64_15 b
  have m4 := i64_15 c
  have m5 := i64_65535 n
  have j1 := or_d o d p0 p1
  have j2 := or_a o d a p0 p1
  have j3 := or_n o d a n p0 p1
  have j4 := or_bc b c
  have j5 := or_q o d a b c p0 p1
  have hmk := make3
  have hmath := Lib.hid (emath_14 (d := d) (a := a) (b := b) (c := c) (n := n) (k := k) (x := x) p0 p1)
  go_enter Try.func93, Try.ntmps93
  go_wp2_with (first
    | (go_at_call 149; refine (formatOf_any o _).mono ?_; rintro e w1 ⟨rfl, hb1⟩; rw [hq, show frow 14 = #[.bool true, .bool false, .bool false, .bool false, .bool true, .int .i64 65, .int .i64 3] from rfl]; obtain ⟨kX, zX, s1, hB⟩ := behind1 hb1; clear hb1; have t1 := ltn 1 s1; have t2 := ltn 2 s1; have t3 := ltn 3 s1; have t4 := ltn 4 s1; have t5 := ltn 5 s1)
    | (go_at_call 89; fail))
  refine (enc_dec 14 (by decide) (by decide) (v0 := o + d % 16 * 256 + a % 16 * 4096 + n % 65536 * 65536) (k1 := k) (x1 := x) (by decide) (by decide) (by omega) (by omega) (by rw [show (o + d % 16 * 256 + a % 16 * 4096 + n % 65536 * 65536) % 256 = o by omega]; exact hq) s1 kX hB
    (G := #[.int .u32 (o + d % 16 * 256 + a % 16 * 4096 + n % 65536 * 65536), .int .u32 k, .int .u32 x]) (by repeat (first | exact Below.refl _ _ | refine Below.alloc ?_ (by first | exact Nat.le_refl _ | (simp only [World.size_alloc]; omega)) _)) (by (repeat rw [Below.heap_alloc _ (.cells #[_] _) _ (by simp)]); simpa using heap_alloc_new (w1.alloc _) _) rfl (fun _ => rfl) (fun _ => rfl)).mono ?_
  rintro e w2 ⟨rfl, hB2, kX2, hG2, s2⟩
  have kG := (cells_of hG2).1
  clear kX zX
  by_cases hg : good 14 (o + d % 16 * 256 + a % 16 * 4096 + n % 65536 * 65536)
  · rw [dgood_14 hg]
    have hne := fun w => neq_code ((o + d % 16 * 256 + a % 16 * 4096 + n % 65536 * 65536) % 256) ((o + d % 16 * 256 + a % 16 * 4096 + n % 65536 * 65536) / 256 % 16) (0) (0) (0) ((o + d % 16 * 256 + a % 16 * 4096 + n % 65536 * 65536) / 256 / 16 / 16 % 65536) k x o d a b c n k x w
    cases hr : eqc ((o + d % 16 * 256 + a % 16 * 4096 + n % 65536 * 65536) % 256) ((o + d % 16 * 256 + a % 16 * 4096 + n % 65536 * 65536) / 256 % 16) (0) (0) (0) ((o + d % 16 * 256 + a % 16 * 4096 + n % 65536 * 65536) / 256 / 16 / 16 % 65536) k x o d a b c n k x
    · rw [hr] at hne
      go_wp2
      go_ret2
      exact enc_no (fun h => by have := (hmath.out.1 h).2; rw [hr] at this; cases this) hB2 s2
    · rw [hr] at hne
      go_wp2
      go_ret2
      exact enc_yes (hmath.out.2 ⟨hg, hr⟩) hB2 s1 s2 hG2 rfl (fun _ => rfl) (fun _ => rfl) rfl (by decide)
  · rw [dbad hg]
    go_wp2
    go_ret2
    exact enc_no (fun h => hg (hmath.out.1 h).1) hB2 s2
theorem dgood_15 {v k x : Int} (h : good 15 v) : dres 15 v k x = .tuple #[.agg #[.int .i64 (v % 256), .int .i64 (v / 256 % 16), .int .i64 (v / 256 / 16 % 16), .int .i64 (0), .int .i64 (0), .int .i64 (v / 256 / 16 / 16 % 65536), .int .u32 k, .int .u32 0], .int .i64 2, .int .i64 0] := by rw [dres_good h, dok_15]; rfl
theorem eok_15 (o d a b c n k x : Int) : EOK 15 o d a b c n k x ↔ ((0 ≤ d ∧ d < 16) ∧ (0 ≤ a ∧ a < 16) ∧ b = 0 ∧ c = 0 ∧ (0 ≤ n ∧ n < 65) ∧ x = 0 ∧ (1 ≤ d ∧ d ≤ 7)) := by simp [EOK, hD, hA, hB, hC, hK, nb, wd]
theorem emath_15 {o d a b c n k x : Int} (p0 : 0 ≤ o) (p1 : o < 256) : EOK 15 o d a b c n k x ↔ (good 15 (o + d % 16 * 256 + a % 16 * 4096 + n % 65536 * 65536) ∧ eqc ((o + d % 16 * 256 + a % 16 * 4096 + n % 65536 * 65536) % 256) ((o + d % 16 * 256 + a % 16 * 4096 + n % 65536 * 65536) / 256 % 16) ((o + d % 16 * 256 + a % 16 * 4096 + n % 65536 * 65536) / 256 / 16 % 16) (0) (0) ((o + d % 16 * 256 + a % 16 * 4096 + n % 65536 * 65536) / 256 / 16 / 16 % 65536) k 0 o d a b c n k x = true) := by
  rw [eok_15, good_15, eqc_iff]
  omega
set_option maxRecDepth 100000 in
set_option maxHeartbeats 4000000 in
theorem enc_15 (o d a b c n k x : Int) (w : World) (hq : fcls o = 15) (p0 : 0 ≤ o) (p1 : o < 256) :
    Calls Try.prog 93 #[.agg #[.int .i64 o, .int .i64 d, .int .i64 a, .int .i64 b, .int .i64 c, .int .i64 n, .int .u32 k, .int .u32 x]] w (Enc w 15 (o + d % 16 * 256 + a % 16 * 4096 + n % 65536 * 65536) k x (EOK 15 o d a b c n k x)) := by
  have m1 := i64_15 d
  have m2 := i64_15 a
  have m3 := i64_15 b
  have m4 := i64_15 c
  have m5 := i64_65535 n
  have j1 := or_d o d p0 p1
  have j2 := or_a o d a p0 p1
  have j3 := or_n o d a n p0 p1
  have j4 := or_bc b c
  have j5 := or_q o d a b c p0 p1
  have hmk := make3
  have hmath := Lib.hid (emath_15 (d := d) (a := a) (b := b) (c := c) (n := n) (k := k) (x := x) p0 p1)
  go_enter Try.func93, Try.ntmps93
  go_wp2_with (first
    | (go_at_call 149; refine (formatOf_any o _).mono ?_; rintro e w1 ⟨rfl, hb1⟩; rw [hq, show frow 15 = #[.bool true, .bool true, .bool false, .bool false, .bool true, .int .i64 65, .int .i64 2] from rfl]; obtain ⟨kX, zX, s1, hB⟩ := behind1 hb1; clear hb1; have t1 := ltn 1 s1; have t2 := ltn 2 s1; have t3 := ltn 3 s1; have t4 := ltn 4 s1; have t5 := ltn 5 s1)
    | (go_at_call 89; fail))
  refine (enc_dec 15 (by decide) (by decide) (v0 := o + d % 16 * 256 + a % 16 * 4096 + n % 65536 * 65536) (k1 := k) (x1 := 0) (by decide) (by decide) (by omega) (by omega) (by rw [show (o + d % 16 * 256 + a % 16 * 4096 + n % 65536 * 65536) % 256 = o by omega]; exact hq) s1 kX hB
    (G := #[.int .u32 (o + d % 16 * 256 + a % 16 * 4096 + n % 65536 * 65536), .int .u32 k, .int .u32 0]) (by repeat (first | exact Below.refl _ _ | refine Below.alloc ?_ (by first | exact Nat.le_refl _ | (simp only [World.size_alloc]; omega)) _)) (by (repeat rw [Below.heap_alloc _ (.cells #[_] _) _ (by simp)]); simpa using heap_alloc_new (w1.alloc _) _) rfl (fun _ => rfl) (fun h => absurd h (by decide))).mono ?_
  rintro e w2 ⟨rfl, hB2, kX2, hG2, s2⟩
  have kG := (cells_of hG2).1
  clear kX zX
  by_cases hg : good 15 (o + d % 16 * 256 + a % 16 * 4096 + n % 65536 * 65536)
  · rw [dgood_15 hg]
    have hne := fun w => neq_code ((o + d % 16 * 256 + a % 16 * 4096 + n % 65536 * 65536) % 256) ((o + d % 16 * 256 + a % 16 * 4096 + n % 65536 * 65536) / 256 % 16) ((o + d % 16 * 256 + a % 16 * 4096 + n % 65536 * 65536) / 256 / 16 % 16) (0) (0) ((o + d % 16 * 256 + a % 16 * 4096 + n % 65536 * 65536) / 256 / 16 / 16 % 65536) k 0 o d a b c n k x w
    cases hr : eqc ((o + d % 16 * 256 + a % 16 * 4096 + n % 65536 * 65536) % 256) ((o + d % 16 * 256 + a % 16 * 4096 + n % 65536 * 65536) / 256 % 16) ((o + d % 16 * 256 + a % 16 * 4096 + n % 65536 * 65536) / 256 / 16 % 16) (0) (0) ((o + d % 16 * 256 + a % 16 * 4096 + n % 65536 * 65536) / 256 / 16 / 16 % 65536) k 0 o d a b c n k x
    · rw [hr] at hne
      go_wp2
      go_ret2
      exact enc_no (fun h => by have := (hmath.out.1 h).2; rw [hr] at this; cases this) hB2 s2
    · rw [hr] at hne
      go_wp2
      go_ret2
      exact enc_yes (hmath.out.2 ⟨hg, hr⟩) hB2 s1 s2 hG2 rfl (fun _ => rfl) (fun h => absurd h (by decide)) rfl (by decide)
  · rw [dbad hg]
    go_wp2
    go_ret2
    exact enc_no (fun h => hg (hmath.out.1 h).1) hB2 s2
end Go.Proofs.Ytcjcmnnhmajocab.Ho
