/- Lemmas. -/
import Derived.Test.YtcjcmnnhmajocabPgad
import Derived.Test.YtcjcmnnhmajocabPgae
import Derived.Test.YtcjcmnnhmajocabPgah
namespace Go.Proofs.Ytcjcmnnhmajocab.Ho
open Go.RowKit Kt
set_option linter.unusedVariables false
set_option linter.unusedSimpArgs false
set_option maxRecDepth 100000 in
set_option maxHeartbeats 4000000 in
theorem rdec_1 (b off len cap k : Nat) (v0 k1 x1 : Int) (w : World) (hk : k < len) (hl : len ≤ cap) (hm : cap ≤ maxLen) (hb : b < w.heap.size) (h0 : 0 ≤ v0) (g0 : v0 < 4294967296) (hq : fcls (v0 % 256) = 1)
   (hc : w.cell? ⟨b, off + k, none⟩ = some (.int .u32 v0)) : Calls Try.prog 53 #[.slice (some ⟨b, off, none⟩) len cap, .int .i64 k] w fun e w' => e = .returned (dres 1 v0 k1 x1) ∧ Below w.heap.size w w' := by
  have c0 : (0 : Int) ≤ (k : Int) := by omega
  have c1 : (k : Int) ≤ (len : Int) := by omega
  have c2 : ¬ ((len : Int) < (k : Int)) := by omega
  have c4 : ((k : Int) == (len : Int)) = false := by simp; omega
  have c5 : ¬ ((len : Int) - k < 1) := by omega
  have c6 : (k : Int) < (len : Int) := by omega
  have c7 : wrap64 ((len : Int) - k) = (len : Int) - k := by have hmx : (maxLen : Nat) = 9223372036854775807 := rfl; exact IntWalk.wrap64_in _ (by omega)
  clear hm
  have e12 : (v0 % 256 == 12) = false := by simp; intro h; rw [h] at hq; exact absurd hq (by decide)
  have e13 : (v0 % 256 == 13) = false := by simp; intro h; rw [h] at hq; exact absurd hq (by decide)
  have : 0 ≤ v0 / 256 % 16 ∧ v0 / 256 % 16 < 16 := by omega
  have : 0 ≤ v0 / 256 := by omega
  have : 0 ≤ v0 / 4096 % 16 ∧ v0 / 4096 % 16 < 16 := by omega
  have : 0 ≤ v0 / 4096 := by omega
  have : 0 ≤ v0 / 65536 % 16 ∧ v0 / 65536 % 16 < 16 := by omega
  have : 0 ≤ v0 / 65536 := by omega
  have : 0 ≤ v0 / 1048576 % 16 ∧ v0 / 1048576 % 16 < 16 := by omega
  have : 0 ≤ v0 / 1048576 := by omega
  have : 0 ≤ v0 / 65536 ∧ v0 / 65536 < 65536 := by omega
  go_enter Try.func53, Try.ntmps53
  go_wp2_with (first
    | (go_at_call 97; refine (form_any (v0 % 256) _).mono ?_; rintro e w1 ⟨rfl, rfl⟩; rw [hq, show rform 1 = .tuple #[.string { data := #[100, 97, 98] }, .int .i64 0, .int .i64 1] from rfl])
    | (go_at_call 98; refine (has_dab _ _).mono ?_; rintro e w1 ⟨rfl, rfl⟩)
    | (go_at_call 98; fail)
    | (go_at_call 99; refine (first_any _ _ _ _ _ _ _ _ _).mono ?_; rintro e w2 ⟨rfl, hb1⟩; obtain ⟨kT, kX, zT, zX, s1, s2, hB⟩ := behind2 hb1; have hT := behindT hb1; clear hb1))
  all_goals first
    | exact rend_any hT hB (dres_bad (by rw [good_1]; omega)) rfl rfl rfl rfl
    | exact rend_any hT hB (by rw [dres_good (by rw [good_1]; omega), dok_1, show v0 / 256 / 16 % 16 = v0 / 4096 % 16 by omega, show v0 / 256 / 16 / 16 % 16 = v0 / 65536 % 16 by omega]; rfl) rfl rfl rfl rfl
    | skip
  all_goals done
set_option maxRecDepth 100000 in
set_option maxHeartbeats 4000000 in
theorem rdec_2 (b off len cap k : Nat) (v0 k1 x1 : Int) (w : World) (hk : k < len) (hl : len ≤ cap) (hm : cap ≤ maxLen) (hb : b < w.heap.size) (h0 : 0 ≤ v0) (g0 : v0 < 4294967296) (hq : fcls (v0 % 256) = 2)
   (hc : w.cell? ⟨b, off + k, none⟩ = some (.int .u32 v0)) : Calls Try.prog 53 #[.slice (some ⟨b, off, none⟩) len cap, .int .i64 k] w fun e w' => e = .returned (dres 2 v0 k1 x1) ∧ Below w.heap.size w w' := by
  have c0 : (0 : Int) ≤ (k : Int) := by omega
  have c1 : (k : Int) ≤ (len : Int) := by omega
  have c2 : ¬ ((len : Int) < (k : Int)) := by omega
  have c4 : ((k : Int) == (len : Int)) = false := by simp; omega
  have c5 : ¬ ((len : Int) - k < 1) := by omega
  have c6 : (k : Int) < (len : Int) := by omega
  have c7 : wrap64 ((len : Int) - k) = (len : Int) - k := by have hmx : (maxLen : Nat) = 9223372036854775807 := rfl; exact IntWalk.wrap64_in _ (by omega)
  clear hm
  have e12 : (v0 % 256 == 12) = false := by simp; intro h; rw [h] at hq; exact absurd hq (by decide)
  have e13 : (v0 % 256 == 13) = false := by simp; intro h; rw [h] at hq; exact absurd hq (by decide)
  have : 0 ≤ v0 / 256 % 16 ∧ v0 / 256 % 16 < 16 := by omega
  have : 0 ≤ v0 / 256 := by omega
  have : 0 ≤ v0 / 4096 % 16 ∧ v0 / 4096 % 16 < 16 := by omega
  have : 0 ≤ v0 / 4096 := by omega
  have : 0 ≤ v0 / 65536 % 16 ∧ v0 / 65536 % 16 < 16 := by omega
  have : 0 ≤ v0 / 65536 := by omega
  have : 0 ≤ v0 / 1048576 % 16 ∧ v0 / 1048576 % 16 < 16 := by omega
  have : 0 ≤ v0 / 1048576 := by omega
  have : 0 ≤ v0 / 65536 ∧ v0 / 65536 < 65536 := by omega
  go_enter Try.func53, Try.ntmps53
  go_wp2_with (first
    | (go_at_call 97; refine (form_any (v0 % 256) _).mono ?_; rintro e w1 ⟨rfl, rfl⟩; rw [hq, show rform 2 = .tuple #[.string { data := #[100, 97] }, .int .i64 0, .int .i64 1] from rfl])
    | (go_at_call 98; refine (has_da _ _).mono ?_; rintro e w1 ⟨rfl, rfl⟩)
    | (go_at_call 98; fail)
    | (go_at_call 99; refine (first_any _ _ _ _ _ _ _ _ _).mono ?_; rintro e w2 ⟨rfl, hb1⟩; obtain ⟨kT, kX, zT, zX, s1, s2, hB⟩ := behind2 hb1; have hT := behindT hb1; clear hb1))
  all_goals first
    | exact rend_any hT hB (dres_bad (by rw [good_2]; omega)) rfl rfl rfl rfl
    | exact rend_any hT hB (by rw [dres_good (by rw [good_2]; omega), dok_2, show v0 / 256 / 16 % 16 = v0 / 4096 % 16 by omega]; rfl) rfl rfl rfl rfl
    | skip
  all_goals done
set_option maxRecDepth 100000 in
set_option maxHeartbeats 4000000 in
theorem rdec_3 (b off len cap k : Nat) (v0 k1 x1 : Int) (w : World) (hk : k < len) (hl : len ≤ cap) (hm : cap ≤ maxLen) (hb : b < w.heap.size) (h0 : 0 ≤ v0) (g0 : v0 < 4294967296) (hq : fcls (v0 % 256) = 3)
   (hc : w.cell? ⟨b, off + k, none⟩ = some (.int .u32 v0)) : Calls Try.prog 53 #[.slice (some ⟨b, off, none⟩) len cap, .int .i64 k] w fun e w' => e = .returned (dres 3 v0 k1 x1) ∧ Below w.heap.size w w' := by
  have c0 : (0 : Int) ≤ (k : Int) := by omega
  have c1 : (k : Int) ≤ (len : Int) := by omega
  have c2 : ¬ ((len : Int) < (k : Int)) := by omega
  have c4 : ((k : Int) == (len : Int)) = false := by simp; omega
  have c5 : ¬ ((len : Int) - k < 1) := by omega
  have c6 : (k : Int) < (len : Int) := by omega
  have c7 : wrap64 ((len : Int) - k) = (len : Int) - k := by have hmx : (maxLen : Nat) = 9223372036854775807 := rfl; exact IntWalk.wrap64_in _ (by omega)
  clear hm
  have e12 : (v0 % 256 == 12) = false := by simp; intro h; rw [h] at hq; exact absurd hq (by decide)
  have e13 : (v0 % 256 == 13) = false := by simp; intro h; rw [h] at hq; exact absurd hq (by decide)
  have : 0 ≤ v0 / 256 % 16 ∧ v0 / 256 % 16 < 16 := by omega
  have : 0 ≤ v0 / 256 := by omega
  have : 0 ≤ v0 / 4096 % 16 ∧ v0 / 4096 % 16 < 16 := by omega
  have : 0 ≤ v0 / 4096 := by omega
  have : 0 ≤ v0 / 65536 % 16 ∧ v0 / 65536 % 16 < 16 := by omega
  have : 0 ≤ v0 / 65536 := by omega
  have : 0 ≤ v0 / 1048576 % 16 ∧ v0 / 1048576 % 16 < 16 := by omega
  have : 0 ≤ v0 / 1048576 := by omega
  have : 0 ≤ v0 / 65536 ∧ v0 / 65536 < 65536 := by omega
  go_enter Try.func53, Try.ntmps53
  go_wp2_with (first
    | (go_at_call 97; refine (form_any (v0 % 256) _).mono ?_; rintro e w1 ⟨rfl, rfl⟩; rw [hq, show rform 3 = .tuple #[.string { data := #[100, 97, 98, 99] }, .int .i64 0, .int .i64 1] from rfl])
    | (go_at_call 98; refine (has_dabc _ _).mono ?_; rintro e w1 ⟨rfl, rfl⟩)
    | (go_at_call 98; fail)
    | (go_at_call 99; refine (first_any _ _ _ _ _ _ _ _ _).mono ?_; rintro e w2 ⟨rfl, hb1⟩; obtain ⟨kT, kX, zT, zX, s1, s2, hB⟩ := behind2 hb1; have hT := behindT hb1; clear hb1))
  all_goals first
    | exact rend_any hT hB (dres_bad (by rw [good_3]; omega)) rfl rfl rfl rfl
    | exact rend_any hT hB (by rw [dres_good (by rw [good_3]; omega), dok_3, show v0 / 256 / 16 % 16 = v0 / 4096 % 16 by omega, show v0 / 256 / 16 / 16 % 16 = v0 / 65536 % 16 by omega, show v0 / 256 / 16 / 16 / 16 % 16 = v0 / 1048576 % 16 by omega]; rfl) rfl rfl rfl rfl
    | skip
  all_goals done
set_option maxRecDepth 100000 in
set_option maxHeartbeats 4000000 in
theorem rdec_4 (b off len cap k : Nat) (v0 k1 x1 : Int) (w : World) (hk : k < len) (hl : len ≤ cap) (hm : cap ≤ maxLen) (hb : b < w.heap.size) (h0 : 0 ≤ v0) (g0 : v0 < 4294967296) (hq : fcls (v0 % 256) = 4)
   (hc : w.cell? ⟨b, off + k, none⟩ = some (.int .u32 v0)) (hk1 : k + 1 < len) (hc1 : w.cell? ⟨b, off + k + 1, none⟩ = some (.int .u32 k1)) : Calls Try.prog 53 #[.slice (some ⟨b, off, none⟩) len cap, .int .i64 k] w fun e w' => e = .returned (dres 4 v0 k1 x1) ∧ Below w.heap.size w w' := by
  have c0 : (0 : Int) ≤ (k : Int) := by omega
  have c1 : (k : Int) ≤ (len : Int) := by omega
  have c2 : ¬ ((len : Int) < (k : Int)) := by omega
  have c4 : ((k : Int) == (len : Int)) = false := by simp; omega
  have c5 : ¬ ((len : Int) - k < 2) := by omega
  have c6 : (k : Int) < (len : Int) := by omega
  have c7 : wrap64 ((len : Int) - k) = (len : Int) - k := by have hmx : (maxLen : Nat) = 9223372036854775807 := rfl; exact IntWalk.wrap64_in _ (by omega)
  have f1 : wrap64 ((k : Int) + 1) = (k : Int) + 1 := by have hmx : (maxLen : Nat) = 9223372036854775807 := rfl; exact IntWalk.wrap64_in _ (by omega)
  have hx1 := hc1
  rw [Nat.add_assoc] at hx1
  have d1 : (k : Int) + 1 < (len : Int) := by omega
  clear hm
  have e12 : (v0 % 256 == 12) = false := by simp; intro h; rw [h] at hq; exact absurd hq (by decide)
  have e13 : (v0 % 256 == 13) = false := by simp; intro h; rw [h] at hq; exact absurd hq (by decide)
  have : 0 ≤ v0 / 256 % 16 ∧ v0 / 256 % 16 < 16 := by omega
  have : 0 ≤ v0 / 256 := by omega
  have : 0 ≤ v0 / 4096 % 16 ∧ v0 / 4096 % 16 < 16 := by omega
  have : 0 ≤ v0 / 4096 := by omega
  have : 0 ≤ v0 / 65536 % 16 ∧ v0 / 65536 % 16 < 16 := by omega
  have : 0 ≤ v0 / 65536 := by omega
  have : 0 ≤ v0 / 1048576 % 16 ∧ v0 / 1048576 % 16 < 16 := by omega
  have : 0 ≤ v0 / 1048576 := by omega
  have : 0 ≤ v0 / 65536 ∧ v0 / 65536 < 65536 := by omega
  go_enter Try.func53, Try.ntmps53
  go_wp2_with (first
    | (go_at_call 97; refine (form_any (v0 % 256) _).mono ?_; rintro e w1 ⟨rfl, rfl⟩; rw [hq, show rform 4 = .tuple #[.string { data := #[100, 97, 110] }, .int .i64 65, .int .i64 2] from rfl])
    | (go_at_call 98; refine (has_dan _ _).mono ?_; rintro e w1 ⟨rfl, rfl⟩)
    | (go_at_call 98; fail)
    | (go_at_call 99; refine (first_any _ _ _ _ _ _ _ _ _).mono ?_; rintro e w2 ⟨rfl, hb1⟩; obtain ⟨kT, kX, zT, zX, s1, s2, hB⟩ := behind2 hb1; have hT := behindT hb1; clear hb1))
  all_goals first
    | exact rend_any hT hB (dres_bad (by rw [good_4]; omega)) rfl rfl rfl rfl
    | exact rend_any hT hB (by rw [dres_good (by rw [good_4]; omega), dok_4, show v0 / 256 / 16 % 16 = v0 / 4096 % 16 by omega, show v0 / 256 / 16 / 16 % 65536 = v0 / 65536 by omega]; rfl) rfl rfl rfl rfl
    | skip
  all_goals done
set_option maxRecDepth 100000 in
set_option maxHeartbeats 4000000 in
theorem rdec_5 (b off len cap k : Nat) (v0 k1 x1 : Int) (w : World) (hk : k < len) (hl : len ≤ cap) (hm : cap ≤ maxLen) (hb : b < w.heap.size) (h0 : 0 ≤ v0) (g0 : v0 < 4294967296) (hq : fcls (v0 % 256) = 5)
   (hc : w.cell? ⟨b, off + k, none⟩ = some (.int .u32 v0)) : Calls Try.prog 53 #[.slice (some ⟨b, off, none⟩) len cap, .int .i64 k] w fun e w' => e = .returned (dres 5 v0 k1 x1) ∧ Below w.heap.size w w' := by
  have c0 : (0 : Int) ≤ (k : Int) := by omega
  have c1 : (k : Int) ≤ (len : Int) := by omega
  have c2 : ¬ ((len : Int) < (k : Int)) := by omega
  have c4 : ((k : Int) == (len : Int)) = false := by simp; omega
  have c5 : ¬ ((len : Int) - k < 1) := by omega
  have c6 : (k : Int) < (len : Int) := by omega
  have c7 : wrap64 ((len : Int) - k) = (len : Int) - k := by have hmx : (maxLen : Nat) = 9223372036854775807 := rfl; exact IntWalk.wrap64_in _ (by omega)
  clear hm
  have e12 : (v0 % 256 == 12) = false := by simp; intro h; rw [h] at hq; exact absurd hq (by decide)
  have e13 : (v0 % 256 == 13) = false := by simp; intro h; rw [h] at hq; exact absurd hq (by decide)
  have : 0 ≤ v0 / 256 % 16 ∧ v0 / 256 % 16 < 16 := by omega
  have : 0 ≤ v0 / 256 := by omega
  have : 0 ≤ v0 / 4096 % 16 ∧ v0 / 4096 % 16 < 16 := by omega
  have : 0 ≤ v0 / 4096 := by omega
  have : 0 ≤ v0 / 65536 % 16 ∧ v0 / 65536 % 16 < 16 := by omega
  have : 0 ≤ v0 / 65536 := by omega
  have : 0 ≤ v0 / 1048576 % 16 ∧ v0 / 1048576 % 16 < 16 := by omega
  have : 0 ≤ v0 / 1048576 := by omega
  have : 0 ≤ v0 / 65536 ∧ v0 / 65536 < 65536 := by omega
  go_enter Try.func53, Try.ntmps53
  go_wp2_with (first
    | (go_at_call 97; refine (form_any (v0 % 256) _).mono ?_; rintro e w1 ⟨rfl, rfl⟩; rw [hq, show rform 5 = .tuple #[.string { data := #[100] }, .int .i64 0, .int .i64 1] from rfl])
    | (go_at_call 98; refine (has_d _ _).mono ?_; rintro e w1 ⟨rfl, rfl⟩)
    | (go_at_call 98; fail)
    | (go_at_call 99; refine (first_any _ _ _ _ _ _ _ _ _).mono ?_; rintro e w2 ⟨rfl, hb1⟩; obtain ⟨kT, kX, zT, zX, s1, s2, hB⟩ := behind2 hb1; have hT := behindT hb1; clear hb1))
  all_goals first
    | exact rend_any hT hB (dres_bad (by rw [good_5]; omega)) rfl rfl rfl rfl
    | exact rend_any hT hB (by rw [dres_good (by rw [good_5]; omega), dok_5]; rfl) rfl rfl rfl rfl
    | skip
  all_goals done
end Go.Proofs.Ytcjcmnnhmajocab.Ho
namespace Go.Proofs.Ytcjcmnnhmajocab.Ho
open Go.RowKit Kt
set_option linter.unusedVariables false
set_option linter.unusedSimpArgs false
set_option maxRecDepth 100000 in
set_option maxHeartbeats 4000000 in
theorem rdec_6 (b off len cap k : Nat) (v0 k1 x1 : Int) (w : World) (hk : k < len) (hl : len ≤ cap) (hm : cap ≤ maxLen) (hb : b < w.heap.size) (h0 : 0 ≤ v0) (g0 : v0 < 4294967296) (hq : fcls (v0 % 256) = 6)
   (hc : w.cell? ⟨b, off + k, none⟩ = some (.int .u32 v0)) (hk1 : k + 1 < len) (hc1 : w.cell? ⟨b, off + k + 1, none⟩ = some (.int .u32 k1)) : Calls Try.prog 53 #[.slice (some ⟨b, off, none⟩) len cap, .int .i64 k] w fun e w' => e = .returned (dres 6 v0 k1 x1) ∧ Below w.heap.size w w' := by
  have c0 : (0 : Int) ≤ (k : Int) := by omega
  have c1 : (k : Int) ≤ (len : Int) := by omega
  have c2 : ¬ ((len : Int) < (k : Int)) := by omega
  have c4 : ((k : Int) == (len : Int)) = false := by simp; omega
  have c5 : ¬ ((len : Int) - k < 2) := by omega
  have c6 : (k : Int) < (len : Int) := by omega
  have c7 : wrap64 ((len : Int) - k) = (len : Int) - k := by have hmx : (maxLen : Nat) = 9223372036854775807 := rfl; exact IntWalk.wrap64_in _ (by omega)
  have f1 : wrap64 ((k : Int) + 1) = (k : Int) + 1 := by have hmx : (maxLen : Nat) = 9223372036854775807 := rfl; exact IntWalk.wrap64_in _ (by omega)
  have hx1 := hc1
  rw [Nat.add_assoc] at hx1
  have d1 : (k : Int) + 1 < (len : Int) := by omega
  clear hm
  have e12 : (v0 % 256 == 12) = false := by simp; intro h; rw [h] at hq; exact absurd hq (by decide)
  have e13 : (v0 % 256 == 13) = false := by simp; intro h; rw [h] at hq; exact absurd hq (by decide)
  have : 0 ≤ v0 / 256 % 16 ∧ v0 / 256 % 16 < 16 := by omega
  have : 0 ≤ v0 / 256 := by omega
  have : 0 ≤ v0 / 4096 % 16 ∧ v0 / 4096 % 16 < 16 := by omega
  have : 0 ≤ v0 / 4096 := by omega
  have : 0 ≤ v0 / 65536 % 16 ∧ v0 / 65536 % 16 < 16 := by omega
  have : 0 ≤ v0 / 65536 := by omega
  have : 0 ≤ v0 / 1048576 % 16 ∧ v0 / 1048576 % 16 < 16 := by omega
  have : 0 ≤ v0 / 1048576 := by omega
  have : 0 ≤ v0 / 65536 ∧ v0 / 65536 < 65536 := by omega
  go_enter Try.func53, Try.ntmps53
  go_wp2_with (first
    | (go_at_call 97; refine (form_any (v0 % 256) _).mono ?_; rintro e w1 ⟨rfl, rfl⟩; rw [hq, show rform 6 = .tuple #[.string { data := #[97, 110] }, .int .i64 65, .int .i64 2] from rfl])
    | (go_at_call 98; refine (has_an _ _).mono ?_; rintro e w1 ⟨rfl, rfl⟩)
    | (go_at_call 98; fail)
    | (go_at_call 99; refine (first_any _ _ _ _ _ _ _ _ _).mono ?_; rintro e w2 ⟨rfl, hb1⟩; obtain ⟨kT, kX, zT, zX, s1, s2, hB⟩ := behind2 hb1; have hT := behindT hb1; clear hb1))
  all_goals first
    | exact rend_any hT hB (dres_bad (by rw [good_6]; omega)) rfl rfl rfl rfl
    | exact rend_any hT hB (by rw [dres_good (by rw [good_6]; omega), dok_6, show v0 / 256 / 16 % 16 = v0 / 4096 % 16 by omega, show v0 / 256 / 16 / 16 % 65536 = v0 / 65536 by omega]; rfl) rfl rfl rfl rfl
    | skip
  all_goals done
set_option maxRecDepth 100000 in
set_option maxHeartbeats 4000000 in
theorem rdec_7 (b off len cap k : Nat) (v0 k1 x1 : Int) (w : World) (hk : k < len) (hl : len ≤ cap) (hm : cap ≤ maxLen) (hb : b < w.heap.size) (h0 : 0 ≤ v0) (g0 : v0 < 4294967296) (hq : fcls (v0 % 256) = 7)
   (hc : w.cell? ⟨b, off + k, none⟩ = some (.int .u32 v0)) (hk1 : k + 1 < len) (hc1 : w.cell? ⟨b, off + k + 1, none⟩ = some (.int .u32 k1)) : Calls Try.prog 53 #[.slice (some ⟨b, off, none⟩) len cap, .int .i64 k] w fun e w' => e = .returned (dres 7 v0 k1 x1) ∧ Below w.heap.size w w' := by
  have c0 : (0 : Int) ≤ (k : Int) := by omega
  have c1 : (k : Int) ≤ (len : Int) := by omega
  have c2 : ¬ ((len : Int) < (k : Int)) := by omega
  have c4 : ((k : Int) == (len : Int)) = false := by simp; omega
  have c5 : ¬ ((len : Int) - k < 2) := by omega
  have c6 : (k : Int) < (len : Int) := by omega
  have c7 : wrap64 ((len : Int) - k) = (len : Int) - k := by have hmx : (maxLen : Nat) = 9223372036854775807 := rfl; exact IntWalk.wrap64_in _ (by omega)
  have f1 : wrap64 ((k : Int) + 1) = (k : Int) + 1 := by have hmx : (maxLen : Nat) = 9223372036854775807 := rfl; exact IntWalk.wrap64_in _ (by omega)
  have hx1 := hc1
  rw [Nat.add_assoc] at hx1
  have d1 : (k : Int) + 1 < (len : Int) := by omega
  clear hm
  have e12 : (v0 % 256 == 12) = false := by simp; intro h; rw [h] at hq; exact absurd hq (by decide)
  have e13 : (v0 % 256 == 13) = false := by simp; intro h; rw [h] at hq; exact absurd hq (by decide)
  have : 0 ≤ v0 / 256 % 16 ∧ v0 / 256 % 16 < 16 := by omega
  have : 0 ≤ v0 / 256 := by omega
  have : 0 ≤ v0 / 4096 % 16 ∧ v0 / 4096 % 16 < 16 := by omega
  have : 0 ≤ v0 / 4096 := by omega
  have : 0 ≤ v0 / 65536 % 16 ∧ v0 / 65536 % 16 < 16 := by omega
  have : 0 ≤ v0 / 65536 := by omega
  have : 0 ≤ v0 / 1048576 % 16 ∧ v0 / 1048576 % 16 < 16 := by omega
  have : 0 ≤ v0 / 1048576 := by omega
  have : 0 ≤ v0 / 65536 ∧ v0 / 65536 < 65536 := by omega
  go_enter Try.func53, Try.ntmps53
  go_wp2_with (first
    | (go_at_call 97; refine (form_any (v0 % 256) _).mono ?_; rintro e w1 ⟨rfl, rfl⟩; rw [hq, show rform 7 = .tuple #[.string { data := #[110] }, .int .i64 65, .int .i64 2] from rfl])
    | (go_at_call 98; refine (has_n _ _).mono ?_; rintro e w1 ⟨rfl, rfl⟩)
    | (go_at_call 98; fail)
    | (go_at_call 99; refine (first_any _ _ _ _ _ _ _ _ _).mono ?_; rintro e w2 ⟨rfl, hb1⟩; obtain ⟨kT, kX, zT, zX, s1, s2, hB⟩ := behind2 hb1; have hT := behindT hb1; clear hb1))
  all_goals first
    | exact rend_any hT hB (dres_bad (by rw [good_7]; omega)) rfl rfl rfl rfl
    | exact rend_any hT hB (by rw [dres_good (by rw [good_7]; omega), dok_7, show v0 / 256 / 16 / 16 % 65536 = v0 / 65536 by omega]; rfl) rfl rfl rfl rfl
    | skip
  all_goals done
set_option maxRecDepth 100000 in
set_option maxHeartbeats 4000000 in
theorem rdec_8 (b off len cap k : Nat) (v0 k1 x1 : Int) (w : World) (hk : k < len) (hl : len ≤ cap) (hm : cap ≤ maxLen) (hb : b < w.heap.size) (h0 : 0 ≤ v0) (g0 : v0 < 4294967296) (hq : fcls (v0 % 256) = 8)
   (hc : w.cell? ⟨b, off + k, none⟩ = some (.int .u32 v0)) (hk1 : k + 1 < len) (hc1 : w.cell? ⟨b, off + k + 1, none⟩ = some (.int .u32 k1)) : Calls Try.prog 53 #[.slice (some ⟨b, off, none⟩) len cap, .int .i64 k] w fun e w' => e = .returned (dres 8 v0 k1 x1) ∧ Below w.heap.size w w' := by
  have c0 : (0 : Int) ≤ (k : Int) := by omega
  have c1 : (k : Int) ≤ (len : Int) := by omega
  have c2 : ¬ ((len : Int) < (k : Int)) := by omega
  have c4 : ((k : Int) == (len : Int)) = false := by simp; omega
  have c5 : ¬ ((len : Int) - k < 2) := by omega
  have c6 : (k : Int) < (len : Int) := by omega
  have c7 : wrap64 ((len : Int) - k) = (len : Int) - k := by have hmx : (maxLen : Nat) = 9223372036854775807 := rfl; exact IntWalk.wrap64_in _ (by omega)
  have f1 : wrap64 ((k : Int) + 1) = (k : Int) + 1 := by have hmx : (maxLen : Nat) = 9223372036854775807 := rfl; exact IntWalk.wrap64_in _ (by omega)
  have hx1 := hc1
  rw [Nat.add_assoc] at hx1
  have d1 : (k : Int) + 1 < (len : Int) := by omega
  clear hm
  have e12 : (v0 % 256 == 12) = false := by simp; intro h; rw [h] at hq; exact absurd hq (by decide)
  have e13 : (v0 % 256 == 13) = false := by simp; intro h; rw [h] at hq; exact absurd hq (by decide)
  have : 0 ≤ v0 / 256 % 16 ∧ v0 / 256 % 16 < 16 := by omega
  have : 0 ≤ v0 / 256 := by omega
  have : 0 ≤ v0 / 4096 % 16 ∧ v0 / 4096 % 16 < 16 := by omega
  have : 0 ≤ v0 / 4096 := by omega
  have : 0 ≤ v0 / 65536 % 16 ∧ v0 / 65536 % 16 < 16 := by omega
  have : 0 ≤ v0 / 65536 := by omega
  have : 0 ≤ v0 / 1048576 % 16 ∧ v0 / 1048576 % 16 < 16 := by omega
  have : 0 ≤ v0 / 1048576 := by omega
  have : 0 ≤ v0 / 65536 ∧ v0 / 65536 < 65536 := by omega
  go_enter Try.func53, Try.ntmps53
  go_wp2_with (first
    | (go_at_call 97; refine (form_any (v0 % 256) _).mono ?_; rintro e w1 ⟨rfl, rfl⟩; rw [hq, show rform 8 = .tuple #[.string { data := #[100] }, .int .i64 0, .int .i64 2] from rfl])
    | (go_at_call 98; refine (has_d _ _).mono ?_; rintro e w1 ⟨rfl, rfl⟩)
    | (go_at_call 98; fail)
    | (go_at_call 99; refine (first_any _ _ _ _ _ _ _ _ _).mono ?_; rintro e w2 ⟨rfl, hb1⟩; obtain ⟨kT, kX, zT, zX, s1, s2, hB⟩ := behind2 hb1; have hT := behindT hb1; clear hb1))
  all_goals first
    | exact rend_any hT hB (dres_bad (by rw [good_8]; omega)) rfl rfl rfl rfl
    | exact rend_any hT hB (by rw [dres_good (by rw [good_8]; omega), dok_8]; rfl) rfl rfl rfl rfl
    | skip
  all_goals done
set_option maxRecDepth 100000 in
set_option maxHeartbeats 4000000 in
theorem rdec_9 (b off len cap k : Nat) (v0 k1 x1 : Int) (w : World) (hk : k < len) (hl : len ≤ cap) (hm : cap ≤ maxLen) (hb : b < w.heap.size) (h0 : 0 ≤ v0) (g0 : v0 < 4294967296) (hq : fcls (v0 % 256) = 9)
   (hc : w.cell? ⟨b, off + k, none⟩ = some (.int .u32 v0)) : Calls Try.prog 53 #[.slice (some ⟨b, off, none⟩) len cap, .int .i64 k] w fun e w' => e = .returned (dres 9 v0 k1 x1) ∧ Below w.heap.size w w' := by
  have c0 : (0 : Int) ≤ (k : Int) := by omega
  have c1 : (k : Int) ≤ (len : Int) := by omega
  have c2 : ¬ ((len : Int) < (k : Int)) := by omega
  have c4 : ((k : Int) == (len : Int)) = false := by simp; omega
  have c5 : ¬ ((len : Int) - k < 1) := by omega
  have c6 : (k : Int) < (len : Int) := by omega
  have c7 : wrap64 ((len : Int) - k) = (len : Int) - k := by have hmx : (maxLen : Nat) = 9223372036854775807 := rfl; exact IntWalk.wrap64_in _ (by omega)
  clear hm
  have e12 : (v0 % 256 == 12) = false := by simp; intro h; rw [h] at hq; exact absurd hq (by decide)
  have e13 : (v0 % 256 == 13) = false := by simp; intro h; rw [h] at hq; exact absurd hq (by decide)
  have : 0 ≤ v0 / 256 % 16 ∧ v0 / 256 % 16 < 16 := by omega
  have : 0 ≤ v0 / 256 := by omega
  have : 0 ≤ v0 / 4096 % 16 ∧ v0 / 4096 % 16 < 16 := by omega
  have : 0 ≤ v0 / 4096 := by omega
  have : 0 ≤ v0 / 65536 % 16 ∧ v0 / 65536 % 16 < 16 := by omega
  have : 0 ≤ v0 / 65536 := by omega
  have : 0 ≤ v0 / 1048576 % 16 ∧ v0 / 1048576 % 16 < 16 := by omega
  have : 0 ≤ v0 / 1048576 := by omega
  have : 0 ≤ v0 / 65536 ∧ v0 / 65536 < 65536 := by omega
  go_enter Try.func53, Try.ntmps53
  go_wp2_with (first
    | (go_at_call 97; refine (form_any (v0 % 256) _).mono ?_; rintro e w1 ⟨rfl, rfl⟩; rw [hq, show rform 9 = .tuple #[.string { data := #[97, 110] }, .int .i64 65, .int .i64 1] from rfl])
    | (go_at_call 98; refine (has_an _ _).mono ?_; rintro e w1 ⟨rfl, rfl⟩)
    | (go_at_call 98; fail)
    | (go_at_call 99; refine (first_any _ _ _ _ _ _ _ _ _).mono ?_; rintro e w2 ⟨rfl, hb1⟩; obtain ⟨kT, kX, zT, zX, s1, s2, hB⟩ := behind2 hb1; have hT := behindT hb1; clear hb1))
  all_goals first
    | exact rend_any hT hB (dres_bad (by rw [good_9]; omega)) rfl rfl rfl rfl
    | exact rend_any hT hB (by rw [dres_good (by rw [good_9]; omega), dok_9, show v0 / 256 / 16 % 16 = v0 / 4096 % 16 by omega, show v0 / 256 / 16 / 16 % 65536 = v0 / 65536 by omega]; rfl) rfl rfl rfl rfl
    | skip
  all_goals done
set_option maxRecDepth 100000 in
set_option maxHeartbeats 4000000 in
theorem rdec_10 (b off len cap k : Nat) (v0 k1 x1 : Int) (w : World) (hk : k < len) (hl : len ≤ cap) (hm : cap ≤ maxLen) (hb : b < w.heap.size) (h0 : 0 ≤ v0) (g0 : v0 < 4294967296) (hq : fcls (v0 % 256) = 10)
   (hc : w.cell? ⟨b, off + k, none⟩ = some (.int .u32 v0)) : Calls Try.prog 53 #[.slice (some ⟨b, off, none⟩) len cap, .int .i64 k] w fun e w' => e = .returned (dres 10 v0 k1 x1) ∧ Below w.heap.size w w' := by
  have c0 : (0 : Int) ≤ (k : Int) := by omega
  have c1 : (k : Int) ≤ (len : Int) := by omega
  have c2 : ¬ ((len : Int) < (k : Int)) := by omega
  have c4 : ((k : Int) == (len : Int)) = false := by simp; omega
  have c5 : ¬ ((len : Int) - k < 1) := by omega
  have c6 : (k : Int) < (len : Int) := by omega
  have c7 : wrap64 ((len : Int) - k) = (len : Int) - k := by have hmx : (maxLen : Nat) = 9223372036854775807 := rfl; exact IntWalk.wrap64_in _ (by omega)
  clear hm
  have e12 : (v0 % 256 == 12) = false := by simp; intro h; rw [h] at hq; exact absurd hq (by decide)
  have e13 : (v0 % 256 == 13) = false := by simp; intro h; rw [h] at hq; exact absurd hq (by decide)
  have : 0 ≤ v0 / 256 % 16 ∧ v0 / 256 % 16 < 16 := by omega
  have : 0 ≤ v0 / 256 := by omega
  have : 0 ≤ v0 / 4096 % 16 ∧ v0 / 4096 % 16 < 16 := by omega
  have : 0 ≤ v0 / 4096 := by omega
  have : 0 ≤ v0 / 65536 % 16 ∧ v0 / 65536 % 16 < 16 := by omega
  have : 0 ≤ v0 / 65536 := by omega
  have : 0 ≤ v0 / 1048576 % 16 ∧ v0 / 1048576 % 16 < 16 := by omega
  have : 0 ≤ v0 / 1048576 := by omega
  have : 0 ≤ v0 / 65536 ∧ v0 / 65536 < 65536 := by omega
  go_enter Try.func53, Try.ntmps53
  go_wp2_with (first
    | (go_at_call 97; refine (form_any (v0 % 256) _).mono ?_; rintro e w1 ⟨rfl, rfl⟩; rw [hq, show rform 10 = .tuple #[.string { data := #[100, 110] }, .int .i64 12, .int .i64 1] from rfl])
    | (go_at_call 98; refine (has_dn _ _).mono ?_; rintro e w1 ⟨rfl, rfl⟩)
    | (go_at_call 98; fail)
    | (go_at_call 99; refine (first_any _ _ _ _ _ _ _ _ _).mono ?_; rintro e w2 ⟨rfl, hb1⟩; obtain ⟨kT, kX, zT, zX, s1, s2, hB⟩ := behind2 hb1; have hT := behindT hb1; clear hb1))
  all_goals first
    | exact rend_any hT hB (dres_bad (by rw [good_10]; omega)) rfl rfl rfl rfl
    | exact rend_any hT hB (by rw [dres_good (by rw [good_10]; omega), dok_10, show v0 / 256 / 16 / 16 % 65536 = v0 / 65536 by omega]; rfl) rfl rfl rfl rfl
    | skip
  all_goals done
end Go.Proofs.Ytcjcmnnhmajocab.Ho
