/- Lemmas. -/
import Derived.Lib.Hide
import Derived.Deep.QuietTactic
import Derived.BigQuiet
import Derived.Test.YtcjcmnnhmajocabPgam
namespace Go.Proofs.Ytcjcmnnhmajocab.Ho
open Go.RowKit Kt
set_option linter.unusedVariables false
set_option linter.unusedSimpArgs false
theorem dgood_6 {v k x : Int} (h : good 6 v) : dres 6 v k x = .tuple #[.agg #[.int .i64 (v % 256), .int .i64 (0), .int .i64 (v / 256 / 16 % 16), .int .i64 (0), .int .i64 (0), .int .i64 (v / 256 / 16 / 16 % 65536), .int .u32 k, .int .u32 0], .int .i64 2, .int .i64 0] := by rw [dres_good h, dok_6]; rfl
theorem eok_6 (o d a b c n k x : Int) : EOK 6 o d a b c n k x ↔ (d = 0 ∧ (0 ≤ a ∧ a < 16) ∧ b = 0 ∧ c = 0 ∧ (0 ≤ n ∧ n < 65) ∧ x = 0) := by simp [EOK, hD, hA, hB, hC, hK, nb, wd]
theorem emath_6 {o d a b c n k x : Int} (p0 : 0 ≤ o) (p1 : o < 256) : EOK 6 o d a b c n k x ↔ (good 6 (o + d % 16 * 256 + a % 16 * 4096 + n % 65536 * 65536) ∧ eqc ((o + d % 16 * 256 + a % 16 * 4096 + n % 65536 * 65536) % 256) (0) ((o + d % 16 * 256 + a % 16 * 4096 + n % 65536 * 65536) / 256 / 16 % 16) (0) (0) ((o + d % 16 * 256 + a % 16 * 4096 + n % 65536 * 65536) / 256 / 16 / 16 % 65536) k 0 o d a b c n k x = true) := by
  rw [eok_6, good_6, eqc_iff]
  omega
set_option maxRecDepth 100000 in
set_option maxHeartbeats 4000000 in
theorem enc_6 (o d a b c n k x : Int) (w : World) (hq : fcls o = 6) (p0 : 0 ≤ o) (p1 : o < 256) :
    Calls Try.prog 93 #[.agg #[.int .i64 o, .int .i64 d, .int .i64 a, .int .i64 b, .int .i64 c, .int .i64 n, .int .u32 k, .int .u32 x]] w (Enc w 6 (o + d % 16 * 256 + a % 16 * 4096 + n % 65536 * 65536) k x (EOK 6 o d a b c n k x)) := by
  have m1 := i64_15 d
  have m2 := i64_15 a
  have m3 := i64_15 b
  have m4 := i64_15 c
  have m5 := i64_65535 n
  have j1 := or_d o d p0 p1
  have j2 := or_a o d a p0 p1
  have j3 := or_n o d a n p0 p1
  have j4 := or_bc b c
  have j5 := or_q o d a b c p0 p1
  have hmk := make3
  have hmath := Lib.hid (emath_6 (d := d) (a := a) (b := b) (c := c) (n := n) (k := k) (x := x) p0 p1)
  go_enter Try.func93, Try.ntmps93
  go_wp2_with (first
    | (go_at_call 149; refine (formatOf_any o _).mono ?_; rintro e w1 ⟨rfl, hb1⟩; rw [hq, show frow 6 = #[.bool false, .bool true, .bool false, .bool false, .bool false, .int .i64 65, .int .i64 2] from rfl]; obtain ⟨kX, zX, s1, hB⟩ := behind1 hb1; clear hb1; have t1 := ltn 1 s1; have t2 := ltn 2 s1; have t3 := ltn 3 s1; have t4 := ltn 4 s1; have t5 := ltn 5 s1)
    | (go_at_call 89; fail))
  refine (enc_dec 6 (by decide) (by decide) (v0 := o + d % 16 * 256 + a % 16 * 4096 + n % 65536 * 65536) (k1 := k) (x1 := 0) (by decide) (by decide) (by omega) (by omega) (by rw [show (o + d % 16 * 256 + a % 16 * 4096 + n % 65536 * 65536) % 256 = o by omega]; exact hq) s1 kX hB
    (G := #[.int .u32 (o + d % 16 * 256 + a % 16 * 4096 + n % 65536 * 65536), .int .u32 k, .int .u32 0]) (by repeat (first | exact Below.refl _ _ | refine Below.alloc ?_ (by first | exact Nat.le_refl _ | (simp only [World.size_alloc]; omega)) _)) (by (repeat rw [Below.heap_alloc _ (.cells #[_] _) _ (by simp)]); simpa using heap_alloc_new (w1.alloc _) _) rfl (fun _ => rfl) (fun h => absurd h (by decide))).mono ?_
  rintro e w2 ⟨rfl, hB2, kX2, hG2, s2⟩
  have kG := (cells_of hG2).1
  clear kX zX
  by_cases hg : good 6 (o + d % 16 * 256 + a % 16 * 4096 + n % 65536 * 65536)
  · rw [dgood_6 hg]
    have hne := fun w => neq_code ((o + d % 16 * 256 + a % 16 * 4096 + n % 65536 * 65536) % 256) (0) ((o + d % 16 * 256 + a % 16 * 4096 + n % 65536 * 65536) / 256 / 16 % 16) (0) (0) ((o + d % 16 * 256 + a % 16 * 4096 + n % 65536 * 65536) / 256 / 16 / 16 % 65536) k 0 o d a b c n k x w
    cases hr : eqc ((o + d % 16 * 256 + a % 16 * 4096 + n % 65536 * 65536) % 256) (0) ((o + d % 16 * 256 + a % 16 * 4096 + n % 65536 * 65536) / 256 / 16 % 16) (0) (0) ((o + d % 16 * 256 + a % 16 * 4096 + n % 65536 * 65536) / 256 / 16 / 16 % 65536) k 0 o d a b c n k x
    · rw [hr] at hne
      go_wp2
      go_ret2
      exact enc_no (fun h => by have := (hmath.out.1 h).2; rw [hr] at this; cases this) hB2 s2
    · rw [hr] at hne
      go_wp2
      go_ret2
      exact enc_yes (hmath.out.2 ⟨hg, hr⟩) hB2 s1 s2 hG2 rfl (fun _ => rfl) (fun h => absurd h (by decide)) rfl (by decide)
  · rw [dbad hg]
    go_wp2
    go_ret2
    exact enc_no (fun h => hg (hmath.out.1 h).1) hB2 s2
theorem dgood_7 {v k x : Int} (h : good 7 v) : dres 7 v k x = .tuple #[.agg #[.int .i64 (v % 256), .int .i64 (0), .int .i64 (0), .int .i64 (0), .int .i64 (0), .int .i64 (v / 256 / 16 / 16 % 65536), .int .u32 k, .int .u32 0], .int .i64 2, .int .i64 0] := by rw [dres_good h, dok_7]; rfl
theorem eok_7 (o d a b c n k x : Int) : EOK 7 o d a b c n k x ↔ (d = 0 ∧ a = 0 ∧ b = 0 ∧ c = 0 ∧ (0 ≤ n ∧ n < 65) ∧ x = 0) := by simp [EOK, hD, hA, hB, hC, hK, nb, wd]
theorem emath_7 {o d a b c n k x : Int} (p0 : 0 ≤ o) (p1 : o < 256) : EOK 7 o d a b c n k x ↔ (good 7 (o + d % 16 * 256 + a % 16 * 4096 + n % 65536 * 65536) ∧ eqc ((o + d % 16 * 256 + a % 16 * 4096 + n % 65536 * 65536) % 256) (0) (0) (0) (0) ((o + d % 16 * 256 + a % 16 * 4096 + n % 65536 * 65536) / 256 / 16 / 16 % 65536) k 0 o d a b c n k x = true) := by
  rw [eok_7, good_7, eqc_iff]
  omega
set_option maxRecDepth 100000 in
set_option maxHeartbeats 4000000 in
theorem enc_7 (o d a b c n k x : Int) (w : World) (hq : fcls o = 7) (p0 : 0 ≤ o) (p1 : o < 256) :
    Calls Try.prog 93 #[.agg #[.int .i64 o, .int .i64 d, .int .i64 a, .int .i64 b, .int .i64 c, .int .i64 n, .int .u32 k, .int .u32 x]] w (Enc w 7 (o + d % 16 * 256 + a % 16 * 4096 + n % 65536 * 65536) k x (EOK 7 o d a b c n k x)) := by
  have m1 := i64_15 d
  have m2 := i64_15 a
  have m3 := i64_15 b
  have m4 := i64_15 c
  have m5 := i64_65535 n
  have j1 := or_d o d p0 p1
  have j2 := or_a o d a p0 p1
  have j3 := or_n o d a n p0 p1
  have j4 := or_bc b c
  have j5 := or_q o d a b c p0 p1
  have hmk := make3
  have hmath := Lib.hid (emath_7 (d := d) (a := a) (b := b) (c := c) (n := n) (k := k) (x := x) p0 p1)
  go_enter Try.func93, Try.ntmps93
  go_wp2_with (first
    | (go_at_call 149; refine (formatOf_any o _).mono ?_; rintro e w1 ⟨rfl, hb1⟩; rw [hq, show frow 7 = #[.bool false, .bool false, .bool false, .bool false, .bool false, .int .i64 65, .int .i64 2] from rfl]; obtain ⟨kX, zX, s1, hB⟩ := behind1 hb1; clear hb1; have t1 := ltn 1 s1; have t2 := ltn 2 s1; have t3 := ltn 3 s1; have t4 := ltn 4 s1; have t5 := ltn 5 s1)
    | (go_at_call 89; fail))
  refine (enc_dec 7 (by decide) (by decide) (v0 := o + d % 16 * 256 + a % 16 * 4096 + n % 65536 * 65536) (k1 := k) (x1 := 0) (by decide) (by decide) (by omega) (by omega) (by rw [show (o + d % 16 * 256 + a % 16 * 4096 + n % 65536 * 65536) % 256 = o by omega]; exact hq) s1 kX hB
    (G := #[.int .u32 (o + d % 16 * 256 + a % 16 * 4096 + n % 65536 * 65536), .int .u32 k, .int .u32 0]) (by repeat (first | exact Below.refl _ _ | refine Below.alloc ?_ (by first | exact Nat.le_refl _ | (simp only [World.size_alloc]; omega)) _)) (by (repeat rw [Below.heap_alloc _ (.cells #[_] _) _ (by simp)]); simpa using heap_alloc_new (w1.alloc _) _) rfl (fun _ => rfl) (fun h => absurd h (by decide))).mono ?_
  rintro e w2 ⟨rfl, hB2, kX2, hG2, s2⟩
  have kG := (cells_of hG2).1
  clear kX zX
  by_cases hg : good 7 (o + d % 16 * 256 + a % 16 * 4096 + n % 65536 * 65536)
  · rw [dgood_7 hg]
    have hne := fun w => neq_code ((o + d % 16 * 256 + a % 16 * 4096 + n % 65536 * 65536) % 256) (0) (0) (0) (0) ((o + d % 16 * 256 + a % 16 * 4096 + n % 65536 * 65536) / 256 / 16 / 16 % 65536) k 0 o d a b c n k x w
    cases hr : eqc ((o + d % 16 * 256 + a % 16 * 4096 + n % 65536 * 65536) % 256) (0) (0) (0) (0) ((o + d % 16 * 256 + a % 16 * 4096 + n % 65536 * 65536) / 256 / 16 / 16 % 65536) k 0 o d a b c n k x
    · rw [hr] at hne
      go_wp2
      go_ret2
      exact enc_no (fun h => by have := (hmath.out.1 h).2; rw [hr] at this; cases this) hB2 s2
    · rw [hr] at hne
      go_wp2
      go_ret2
      exact enc_yes (hmath.out.2 ⟨hg, hr⟩) hB2 s1 s2 hG2 rfl (fun _ => rfl) (fun h => absurd h (by decide)) rfl (by decide)
  · rw [dbad hg]
    go_wp2
    go_ret2
    exact enc_no (fun h => hg (hmath.out.1 h).1) hB2 s2
theorem dgood_8 {v k x : Int} (h : good 8 v) : dres 8 v k x = .tuple #[.agg #[.int .i64 (v % 256), .int .i64 (v / 256 % 16), .int .i64 (0), .int .i64 (0), .int .i64 (0), .int .i64 (0), .int .u32 k, .int .u32 0], .int .i64 2, .int .i64 0] := by rw [dres_good h, dok_8]; rfl
theorem eok_8 (o d a b c n k x : Int) : EOK 8 o d a b c n k x ↔ ((0 ≤ d ∧ d < 16) ∧ a = 0 ∧ b = 0 ∧ c = 0 ∧ n = 0 ∧ x = 0) := by simp [EOK, hD, hA, hB, hC, hK, nb, wd]
theorem emath_8 {o d a b c n k x : Int} (p0 : 0 ≤ o) (p1 : o < 256) : EOK 8 o d a b c n k x ↔ (good 8 (o + d % 16 * 256 + a % 16 * 4096 + (b % 16 * 65536 + c % 16 * 1048576)) ∧ eqc ((o + d % 16 * 256 + a % 16 * 4096 + (b % 16 * 65536 + c % 16 * 1048576)) % 256) ((o + d % 16 * 256 + a % 16 * 4096 + (b % 16 * 65536 + c % 16 * 1048576)) / 256 % 16) (0) (0) (0) (0) k 0 o d a b c n k x = true) := by
  rw [eok_8, good_8, eqc_iff]
  omega
set_option maxRecDepth 100000 in
set_option maxHeartbeats 4000000 in
theorem enc_8 (o d a b c n k x : Int) (w : World) (hq : fcls o = 8) (p0 : 0 ≤ o) (p1 : o < 256) :
    Calls Try.prog 93 #[.agg #[.int .i64 o, .int .i64 d, .int .i64 a, .int .i64 b, .int .i64 c, .int .i64 n, .int .u32 k, .int .u32 x]] w (Enc w 8 (o + d % 16 * 256 + a % 16 * 4096 + (b % 16 * 65536 + c % 16 * 1048576)) k x (EOK 8 o d a b c n k x)) := by
  have m1 := i64_15 d
  have m2 := i64_15 a
  have m3 := i64_15 b
  have m4 := i64_15 c
  have m5 := i64_65535 n
  have j1 := or_d o d p0 p1
  have j2 := or_a o d a p0 p1
  have j3 := or_n o d a n p0 p1
  have j4 := or_bc b c
  have j5 := or_q o d a b c p0 p1
  have hmk := make3
  have hmath := Lib.hid (emath_8 (d := d) (a := a) (b := b) (c := c) (n := n) (k := k) (x := x) p0 p1)
  go_enter Try.func93, Try.ntmps93
  go_wp2_with (first
    | (go_at_call 149; refine (formatOf_any o _).mono ?_; rintro e w1 ⟨rfl, hb1⟩; rw [hq, show frow 8 = #[.bool true, .bool false, .bool false, .bool false, .bool false, .int .i64 0, .int .i64 2] from rfl]; obtain ⟨kX, zX, s1, hB⟩ := behind1 hb1; clear hb1; have t1 := ltn 1 s1; have t2 := ltn 2 s1; have t3 := ltn 3 s1; have t4 := ltn 4 s1; have t5 := ltn 5 s1)
    | (go_at_call 89; fail))
  refine (enc_dec 8 (by decide) (by decide) (v0 := o + d % 16 * 256 + a % 16 * 4096 + (b % 16 * 65536 + c % 16 * 1048576)) (k1 := k) (x1 := 0) (by decide) (by decide) (by omega) (by omega) (by rw [show (o + d % 16 * 256 + a % 16 * 4096 + (b % 16 * 65536 + c % 16 * 1048576)) % 256 = o by omega]; exact hq) s1 kX hB
    (G := #[.int .u32 (o + d % 16 * 256 + a % 16 * 4096 + (b % 16 * 65536 + c % 16 * 1048576)), .int .u32 k, .int .u32 0]) (by repeat (first | exact Below.refl _ _ | refine Below.alloc ?_ (by first | exact Nat.le_refl _ | (simp only [World.size_alloc]; omega)) _)) (by (repeat rw [Below.heap_alloc _ (.cells #[_] _) _ (by simp)]); simpa using heap_alloc_new (w1.alloc _) _) rfl (fun _ => rfl) (fun h => absurd h (by decide))).mono ?_
  rintro e w2 ⟨rfl, hB2, kX2, hG2, s2⟩
  have kG := (cells_of hG2).1
  clear kX zX
  by_cases hg : good 8 (o + d % 16 * 256 + a % 16 * 4096 + (b % 16 * 65536 + c % 16 * 1048576))
  · rw [dgood_8 hg]
    have hne := fun w => neq_code ((o + d % 16 * 256 + a % 16 * 4096 + (b % 16 * 65536 + c % 16 * 1048576)) % 256) ((o + d % 16 * 256 + a % 16 * 4096 + (b % 16 * 65536 + c % 16 * 1048576)) / 256 % 16) (0) (0) (0) (0) k 0 o d a b c n k x w
    cases hr : eqc ((o + d % 16 * 256 + a % 16 * 4096 + (b % 16 * 65536 + c % 16 * 1048576)) % 256) ((o + d % 16 * 256 + a % 16 * 4096 + (b % 16 * 65536 + c % 16 * 1048576)) / 256 % 16) (0) (0) (0) (0) k 0 o d a b c n k x
    · rw [hr] at hne
      go_wp2
      go_ret2
      exact enc_no (fun h => by have := (hmath.out.1 h).2; rw [hr] at this; cases this) hB2 s2
    · rw [hr] at hne
      go_wp2
      go_ret2
      exact enc_yes (hmath.out.2 ⟨hg, hr⟩) hB2 s1 s2 hG2 rfl (fun _ => rfl) (fun h => absurd h (by decide)) rfl (by decide)
  · rw [dbad hg]
    go_wp2
    go_ret2
    exact enc_no (fun h => hg (hmath.out.1 h).1) hB2 s2
theorem dgood_9 {v k x : Int} (h : good 9 v) : dres 9 v k x = .tuple #[.agg #[.int .i64 (v % 256), .int .i64 (0), .int .i64 (v / 256 / 16 % 16), .int .i64 (0), .int .i64 (0), .int .i64 (v / 256 / 16 / 16 % 65536), .int .u32 0, .int .u32 0], .int .i64 1, .int .i64 0] := by rw [dres_good h, dok_9]; rfl
theorem eok_9 (o d a b c n k x : Int) : EOK 9 o d a b c n k x ↔ (d = 0 ∧ (0 ≤ a ∧ a < 16) ∧ b = 0 ∧ c = 0 ∧ (0 ≤ n ∧ n < 65) ∧ k = 0 ∧ x = 0) := by simp [EOK, hD, hA, hB, hC, hK, nb, wd]
theorem emath_9 {o d a b c n k x : Int} (p0 : 0 ≤ o) (p1 : o < 256) : EOK 9 o d a b c n k x ↔ (good 9 (o + d % 16 * 256 + a % 16 * 4096 + n % 65536 * 65536) ∧ eqc ((o + d % 16 * 256 + a % 16 * 4096 + n % 65536 * 65536) % 256) (0) ((o + d % 16 * 256 + a % 16 * 4096 + n % 65536 * 65536) / 256 / 16 % 16) (0) (0) ((o + d % 16 * 256 + a % 16 * 4096 + n % 65536 * 65536) / 256 / 16 / 16 % 65536) 0 0 o d a b c n k x = true) := by
  rw [eok_9, good_9, eqc_iff]
  omega
set_option maxRecDepth 100000 in
set_option maxHeartbeats 4000000 in
theorem enc_9 (o d a b c n k x : Int) (w : World) (hq : fcls o = 9) (p0 : 0 ≤ o) (p1 : o < 256) :
    Calls Try.prog 93 #[.agg #[.int .i64 o, .int .i64 d, .int .i64 a, .int .i64 b, .int .i64 c, .int .i64 n, .int .u32 k, .int .u32 x]] w (Enc w 9 (o + d % 16 * 256 + a % 16 * 4096 + n % 65536 * 65536) k x (EOK 9 o d a b c n k x)) := by
  have m1 := i64_15 d
  have m2 := i64_15 a
  have m3 := i64_15 b
  have m4 := i64_15 c
  have m5 := i64_65535 n
  have j1 := or_d o d p0 p1
  have j2 := or_a o d a p0 p1
  have j3 := or_n o d a n p0 p1
  have j4 := or_bc b c
  have j5 := or_q o d a b c p0 p1
  have hmk := make3
  have hmath := Lib.hid (emath_9 (d := d) (a := a) (b := b) (c := c) (n := n) (k := k) (x := x) p0 p1)
  go_enter Try.func93, Try.ntmps93
  go_wp2_with (first
    | (go_at_call 149; refine (formatOf_any o _).mono ?_; rintro e w1 ⟨rfl, hb1⟩; rw [hq, show frow 9 = #[.bool false, .bool true, .bool false, .bool false, .bool false, .int .i64 65, .int .i64 1] from rfl]; obtain ⟨kX, zX, s1, hB⟩ := behind1 hb1; clear hb1; have t1 := ltn 1 s1; have t2 := ltn 2 s1; have t3 := ltn 3 s1; have t4 := ltn 4 s1; have t5 := ltn 5 s1)
    | (go_at_call 89; fail))
  refine (enc_dec 9 (by decide) (by decide) (v0 := o + d % 16 * 256 + a % 16 * 4096 + n % 65536 * 65536) (k1 := 0) (x1 := 0) (by decide) (by decide) (by omega) (by omega) (by rw [show (o + d % 16 * 256 + a % 16 * 4096 + n % 65536 * 65536) % 256 = o by omega]; exact hq) s1 kX hB
    (G := #[.int .u32 (o + d % 16 * 256 + a % 16 * 4096 + n % 65536 * 65536), .int .u32 0, .int .u32 0]) (by repeat (first | exact Below.refl _ _ | refine Below.alloc ?_ (by first | exact Nat.le_refl _ | (simp only [World.size_alloc]; omega)) _)) (by (repeat rw [Below.heap_alloc _ (.cells #[_] _) _ (by simp)]); simpa using heap_alloc_new (w1.alloc _) _) rfl (fun h => absurd h (by decide)) (fun h => absurd h (by decide))).mono ?_
  rintro e w2 ⟨rfl, hB2, kX2, hG2, s2⟩
  have kG := (cells_of hG2).1
  clear kX zX
  by_cases hg : good 9 (o + d % 16 * 256 + a % 16 * 4096 + n % 65536 * 65536)
  · rw [dgood_9 hg]
    have hne := fun w => neq_code ((o + d % 16 * 256 + a % 16 * 4096 + n % 65536 * 65536) % 256) (0) ((o + d % 16 * 256 + a % 16 * 4096 + n % 65536 * 65536) / 256 / 16 % 16) (0) (0) ((o + d % 16 * 256 + a % 16 * 4096 + n % 65536 * 65536) / 256 / 16 / 16 % 65536) 0 0 o d a b c n k x w
    cases hr : eqc ((o + d % 16 * 256 + a % 16 * 4096 + n % 65536 * 65536) % 256) (0) ((o + d % 16 * 256 + a % 16 * 4096 + n % 65536 * 65536) / 256 / 16 % 16) (0) (0) ((o + d % 16 * 256 + a % 16 * 4096 + n % 65536 * 65536) / 256 / 16 / 16 % 65536) 0 0 o d a b c n k x
    · rw [hr] at hne
      go_wp2
      go_ret2
      exact enc_no (fun h => by have := (hmath.out.1 h).2; rw [hr] at this; cases this) hB2 s2
    · rw [hr] at hne
      go_wp2
      go_ret2
      exact enc_yes (hmath.out.2 ⟨hg, hr⟩) hB2 s1 s2 hG2 rfl (fun h => absurd h (by decide)) (fun h => absurd h (by decide)) rfl (by decide)
  · rw [dbad hg]
    go_wp2
    go_ret2
    exact enc_no (fun h => hg (hmath.out.1 h).1) hB2 s2
theorem dgood_10 {v k x : Int} (h : good 10 v) : dres 10 v k x = .tuple #[.agg #[.int .i64 (v % 256), .int .i64 (v / 256 % 16), .int .i64 (0), .int .i64 (0), .int .i64 (0), .int .i64 (v / 256 / 16 / 16 % 65536), .int .u32 0, .int .u32 0], .int .i64 1, .int .i64 0] := by rw [dres_good h, dok_10]; rfl
theorem eok_10 (o d a b c n k x : Int) : EOK 10 o d a b c n k x ↔ ((0 ≤ d ∧ d < 16) ∧ a = 0 ∧ b = 0 ∧ c = 0 ∧ (0 ≤ n ∧ n < 12) ∧ k = 0 ∧ x = 0) := by simp [EOK, hD, hA, hB, hC, hK, nb, wd]
theorem emath_10 {o d a b c n k x : Int} (p0 : 0 ≤ o) (p1 : o < 256) : EOK 10 o d a b c n k x ↔ (good 10 (o + d % 16 * 256 + a % 16 * 4096 + n % 65536 * 65536) ∧ eqc ((o + d % 16 * 256 + a % 16 * 4096 + n % 65536 * 65536) % 256) ((o + d % 16 * 256 + a % 16 * 4096 + n % 65536 * 65536) / 256 % 16) (0) (0) (0) ((o + d % 16 * 256 + a % 16 * 4096 + n % 65536 * 65536) / 256 / 16 / 16 % 65536) 0 0 o d a b c n k x = true) := by
  rw [eok_10, good_10, eqc_iff]
  omega
set_option maxRecDepth 100000 in
set_option maxHeartbeats 4000000 in
theorem enc_10 (o d a b c n k x : Int) (w : World) (hq : fcls o = 10) (p0 : 0 ≤ o) (p1 : o < 256) :
    Calls Try.prog 93 #[.agg #[.int .i64 o, .int .i64 d, .int .i64 a, .int .i64 b, .int .i64 c, .int .i64 n, .int .u32 k, .int .u32 x]] w (Enc w 10 (o + d % 16 * 256 + a % 16 * 4096 + n % 65536 * 65536) k x (EOK 10 o d a b c n k x)) := by
  have m1 := i64_15 d
  have m2 := i64_15 a
  have m3 := i64_15 b
  have m4 := i64_15 c
  have m5 := i64_65535 n
  have j1 := or_d o d p0 p1
  have j2 := or_a o d a p0 p1
  have j3 := or_n o d a n p0 p1
  have j4 := or_bc b c
  have j5 := or_q o d a b c p0 p1
  have hmk := make3
  have hmath := Lib.hid (emath_10 (d := d) (a := a) (b := b) (c := c) (n := n) (k := k) (x := x) p0 p1)
  go_enter Try.func93, Try.ntmps93
  go_wp2_with (first
    | (go_at_call 149; refine (formatOf_any o _).mono ?_; rintro e w1 ⟨rfl, hb1⟩; rw [hq, show frow 10 = #[.bool true, .bool false, .bool false, .bool false, .bool false, .int .i64 12, .int .i64 1] from rfl]; obtain ⟨kX, zX, s1, hB⟩ := behind1 hb1; clear hb1; have t1 := ltn 1 s1; have t2 := ltn 2 s1; have t3 := ltn 3 s1; have t4 := ltn 4 s1; have t5 := ltn 5 s1)
    | (go_at_call 89; fail))
  refine (enc_dec 10 (by decide) (by decide) (v0 := o + d % 16 * 256 + a % 16 * 4096 + n % 65536 * 65536) (k1 := 0) (x1 := 0) (by decide) (by decide) (by omega) (by omega) (by rw [show (o + d % 16 * 256 + a % 16 * 4096 + n % 65536 * 65536) % 256 = o by omega]; exact hq) s1 kX hB
    (G := #[.int .u32 (o + d % 16 * 256 + a % 16 * 4096 + n % 65536 * 65536), .int .u32 0, .int .u32 0]) (by repeat (first | exact Below.refl _ _ | refine Below.alloc ?_ (by first | exact Nat.le_refl _ | (simp only [World.size_alloc]; omega)) _)) (by (repeat rw [Below.heap_alloc _ (.cells #[_] _) _ (by simp)]); simpa using heap_alloc_new (w1.alloc _) _) rfl (fun h => absurd h (by decide)) (fun h => absurd h (by decide))).mono ?_
  rintro e w2 ⟨rfl, hB2, kX2, hG2, s2⟩
  have kG := (cells_of hG2).1
  clear kX zX
  by_cases hg : good 10 (o + d % 16 * 256 + a % 16 * 4096 + n % 65536 * 65536)
  · rw [dgood_10 hg]
    have hne := fun w => neq_code ((o + d % 16 * 256 + a % 16 * 4096 + n % 65536 * 65536) % 256) ((o + d % 16 * 256 + a % 16 * 4096 + n % 65536 * 65536) / 256 % 16) (0) (0) (0) ((o + d % 16 * 256 + a % 16 * 4096 + n % 65536 * 65536) / 256 / 16 / 16 % 65536) 0 0 o d a b c n k x w
    cases hr : eqc ((o + d % 16 * 256 + a % 16 * 4096 + n % 65536 * 65536) % 256) ((o + d % 16 * 256 + a % 16 * 4096 + n % 65536 * 65536) / 256 % 16) (0) (0) (0) ((o + d % 16 * 256 + a % 16 * 4096 + n % 65536 * 65536) / 256 / 16 / 16 % 65536) 0 0 o d a b c n k x
    · rw [hr] at hne
      go_wp2
      go_ret2
      exact enc_no (fun h => by have := (hmath.out.1 h).2; rw [hr] at this; cases this) hB2 s2
    · rw [hr] at hne
      go_wp2
      go_ret2
      exact enc_yes (hmath.out.2 ⟨hg, hr⟩) hB2 s1 s2 hG2 rfl (fun h => absurd h (by decide)) (fun h => absurd h (by decide)) rfl (by decide)
  · rw [dbad hg]
    go_wp2
    go_ret2
    exact enc_no (fun h => hg (hmath.out.1 h).1) hB2 s2
end Go.Proofs.Ytcjcmnnhmajocab.Ho
