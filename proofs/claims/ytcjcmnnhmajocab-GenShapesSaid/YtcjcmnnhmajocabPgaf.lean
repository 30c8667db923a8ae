/- Lemmas. -/
import Derived.Test.YtcjcmnnhmajocabPgac
namespace Go.Proofs.Ytcjcmnnhmajocab.Ho
open Go.RowKit Kt
set_option linter.unusedVariables false
set_option linter.unusedSimpArgs false
theorem good_11 (v : Int) : good 11 v ↔ (v / 256 % 16 = 0 ∧ v / 256 / 16 / 16 % 65536 < 12) := by simp [good, hD, hA, hB, hC, hK, nb]
theorem dok_11 (v k x : Int) : dok 11 v k x = cod (v % 256) (0) (v / 256 / 16 % 16) (0) (0) (v / 256 / 16 / 16 % 65536) 0 0 := by simp [dok, pick, hD, hA, hB, hC, hK, nb, wd]
set_option maxRecDepth 100000 in
set_option maxHeartbeats 4000000 in
theorem dec_11 (b off len cap k : Nat) (v0 k1 x1 : Int) (w : World) (hk : k < len) (hl : len ≤ cap) (hm : cap ≤ maxLen) (hb : b < w.heap.size) (h0 : 0 ≤ v0) (g0 : v0 < 4294967296) (hq : fcls (v0 % 256) = 11)
   (hc : w.cell? ⟨b, off + k, none⟩ = some (.int .u32 v0)) : Calls Try.prog 89 #[.slice (some ⟨b, off, none⟩) len cap, .int .i64 k] w fun e w' => e = .returned (dres 11 v0 k1 x1) ∧ Below w.heap.size w w' := by
  have c0 : (0 : Int) ≤ (k : Int) := by omega
  have c1 : (k : Int) ≤ (len : Int) := by omega
  have c2 : ¬ ((len : Int) < (k : Int)) := by omega
  have c3 : ((len - k : Nat) : Int) = (len : Int) - k := by omega
  have c4 : ((len : Int) - k == 0) = false := by simp; omega
  have c5 : ¬ ((len : Int) - k < 1) := by omega
  have m := mask255 v0 h0 g0
  go_enter Try.func89, Try.ntmps89
  go_wp2_with (first
    | (go_at_call 149; refine (formatOf_any (v0 % 256) _).mono ?_; rintro e w1 ⟨rfl, hb1⟩; rw [hq, show frow 11 = #[.bool false, .bool true, .bool false, .bool false, .bool false, .int .i64 12, .int .i64 1] from rfl]; have hS := St.first (fs := #[.bool false, .bool true, .bool false, .bool false, .bool false, .int .i64 12, .int .i64 1]) rfl h0 g0 hb1; obtain ⟨kT, kX, zT, zX, s1, s2, hB⟩ := behind2 hb1; clear hb1; have s3 := Nat.lt_trans hb s1; have kc := (hB.cell (p := ⟨b, off + k, none⟩) hb).trans hc)
    | (go_at_call 150; refine (hS.part false 1 (cs' := #[.int .i64 (v0 % 256), .int .i64 (0), .int .i64 (0), .int .i64 (0), .int .i64 (0), .int .i64 (0), .int .u32 0, .int .u32 0]) rfl rfl).mono ?_; rintro e w2 ⟨rfl, hS1⟩; clear kT kX zT zX hB kc hS; obtain ⟨kT, kX, kF, kR, zT, zX, hB⟩ := hS1.facts; have kc := (hB.cell (p := ⟨b, off + k, none⟩) hb).trans hc)
    | (go_at_call 150; refine (hS1.part true 2 (cs' := #[.int .i64 (v0 % 256), .int .i64 (0), .int .i64 (v0 / 256 / 16 % 16), .int .i64 (0), .int .i64 (0), .int .i64 (0), .int .u32 0, .int .u32 0]) rfl rfl).mono ?_; rintro e w3 ⟨rfl, hS2⟩; clear kT kX zT zX hB kc kF kR hS1; obtain ⟨kT, kX, kF, kR, zT, zX, hB⟩ := hS2.facts; have kc := (hB.cell (p := ⟨b, off + k, none⟩) hb).trans hc)
    | (go_at_call 150; refine (hS2.part16 5 (cs' := #[.int .i64 (v0 % 256), .int .i64 (0), .int .i64 (v0 / 256 / 16 % 16), .int .i64 (0), .int .i64 (0), .int .i64 (v0 / 256 / 16 / 16 % 65536), .int .u32 0, .int .u32 0]) rfl rfl).mono ?_; rintro e w6 ⟨rfl, hS5⟩; clear kT kX zT zX hB kc kF kR hS2; obtain ⟨kT, kX, kF, kR, zT, zX, hB⟩ := hS5.facts; have kc := (hB.cell (p := ⟨b, off + k, none⟩) hb).trans hc))
  all_goals first
    | exact end_any hS1.1 hB (dres_bad (by rw [good_11]; omega)) rfl rfl rfl rfl
    | exact end_any hS2.1 hB (dres_bad (by rw [good_11]; omega)) rfl rfl rfl rfl
    | exact end_any hS3.1 hB (dres_bad (by rw [good_11]; omega)) rfl rfl rfl rfl
    | exact end_any hS5.1 hB (dres_bad (by rw [good_11]; omega)) rfl rfl rfl rfl
    | exact end_any hS4.1 hB (dres_bad (by rw [good_11]; omega)) rfl rfl rfl rfl
    | (go_region; all_goals go_wp2; all_goals exact end_drew (hS5.1) (hB) (by rw [dres_good (by rw [good_11]; omega), dok_11]; rfl) rfl rfl rfl rfl)
theorem good_12 (v : Int) : good 12 v ↔ (v / 256 / 16 % 16 = 0 ∧ v / 256 / 16 / 16 % 65536 < 2048) := by simp [good, hD, hA, hB, hC, hK, nb]
theorem dok_12 (v k x : Int) : dok 12 v k x = cod (v % 256) (v / 256 % 16) (0) (0) (0) (v / 256 / 16 / 16 % 65536) 0 0 := by simp [dok, pick, hD, hA, hB, hC, hK, nb, wd]
set_option maxRecDepth 100000 in
set_option maxHeartbeats 4000000 in
theorem dec_12 (b off len cap k : Nat) (v0 k1 x1 : Int) (w : World) (hk : k < len) (hl : len ≤ cap) (hm : cap ≤ maxLen) (hb : b < w.heap.size) (h0 : 0 ≤ v0) (g0 : v0 < 4294967296) (hq : fcls (v0 % 256) = 12)
   (hc : w.cell? ⟨b, off + k, none⟩ = some (.int .u32 v0)) : Calls Try.prog 89 #[.slice (some ⟨b, off, none⟩) len cap, .int .i64 k] w fun e w' => e = .returned (dres 12 v0 k1 x1) ∧ Below w.heap.size w w' := by
  have c0 : (0 : Int) ≤ (k : Int) := by omega
  have c1 : (k : Int) ≤ (len : Int) := by omega
  have c2 : ¬ ((len : Int) < (k : Int)) := by omega
  have c3 : ((len - k : Nat) : Int) = (len : Int) - k := by omega
  have c4 : ((len : Int) - k == 0) = false := by simp; omega
  have c5 : ¬ ((len : Int) - k < 1) := by omega
  have m := mask255 v0 h0 g0
  go_enter Try.func89, Try.ntmps89
  go_wp2_with (first
    | (go_at_call 149; refine (formatOf_any (v0 % 256) _).mono ?_; rintro e w1 ⟨rfl, hb1⟩; rw [hq, show frow 12 = #[.bool true, .bool false, .bool false, .bool false, .bool false, .int .i64 2048, .int .i64 1] from rfl]; have hS := St.first (fs := #[.bool true, .bool false, .bool false, .bool false, .bool false, .int .i64 2048, .int .i64 1]) rfl h0 g0 hb1; obtain ⟨kT, kX, zT, zX, s1, s2, hB⟩ := behind2 hb1; clear hb1; have s3 := Nat.lt_trans hb s1; have kc := (hB.cell (p := ⟨b, off + k, none⟩) hb).trans hc)
    | (go_at_call 150; refine (hS.part true 1 (cs' := #[.int .i64 (v0 % 256), .int .i64 (v0 / 256 % 16), .int .i64 (0), .int .i64 (0), .int .i64 (0), .int .i64 (0), .int .u32 0, .int .u32 0]) rfl rfl).mono ?_; rintro e w2 ⟨rfl, hS1⟩; clear kT kX zT zX hB kc hS; obtain ⟨kT, kX, kF, kR, zT, zX, hB⟩ := hS1.facts; have kc := (hB.cell (p := ⟨b, off + k, none⟩) hb).trans hc)
    | (go_at_call 150; refine (hS1.part false 2 (cs' := #[.int .i64 (v0 % 256), .int .i64 (v0 / 256 % 16), .int .i64 (0), .int .i64 (0), .int .i64 (0), .int .i64 (0), .int .u32 0, .int .u32 0]) rfl rfl).mono ?_; rintro e w3 ⟨rfl, hS2⟩; clear kT kX zT zX hB kc kF kR hS1; obtain ⟨kT, kX, kF, kR, zT, zX, hB⟩ := hS2.facts; have kc := (hB.cell (p := ⟨b, off + k, none⟩) hb).trans hc)
    | (go_at_call 150; refine (hS2.part16 5 (cs' := #[.int .i64 (v0 % 256), .int .i64 (v0 / 256 % 16), .int .i64 (0), .int .i64 (0), .int .i64 (0), .int .i64 (v0 / 256 / 16 / 16 % 65536), .int .u32 0, .int .u32 0]) rfl rfl).mono ?_; rintro e w6 ⟨rfl, hS5⟩; clear kT kX zT zX hB kc kF kR hS2; obtain ⟨kT, kX, kF, kR, zT, zX, hB⟩ := hS5.facts; have kc := (hB.cell (p := ⟨b, off + k, none⟩) hb).trans hc))
  all_goals first
    | exact end_any hS1.1 hB (dres_bad (by rw [good_12]; omega)) rfl rfl rfl rfl
    | exact end_any hS2.1 hB (dres_bad (by rw [good_12]; omega)) rfl rfl rfl rfl
    | exact end_any hS3.1 hB (dres_bad (by rw [good_12]; omega)) rfl rfl rfl rfl
    | exact end_any hS5.1 hB (dres_bad (by rw [good_12]; omega)) rfl rfl rfl rfl
    | exact end_any hS4.1 hB (dres_bad (by rw [good_12]; omega)) rfl rfl rfl rfl
    | (go_region; all_goals go_wp2; all_goals exact end_drew (hS5.1) (hB) (by rw [dres_good (by rw [good_12]; omega), dok_12]; rfl) rfl rfl rfl rfl)
theorem good_13 (v : Int) : good 13 v ↔ (v / 256 % 16 = 0 ∧ v / 256 / 16 / 16 % 65536 < 2048) := by simp [good, hD, hA, hB, hC, hK, nb]
theorem dok_13 (v k x : Int) : dok 13 v k x = cod (v % 256) (0) (v / 256 / 16 % 16) (0) (0) (v / 256 / 16 / 16 % 65536) 0 0 := by simp [dok, pick, hD, hA, hB, hC, hK, nb, wd]
set_option maxRecDepth 100000 in
set_option maxHeartbeats 4000000 in
theorem dec_13 (b off len cap k : Nat) (v0 k1 x1 : Int) (w : World) (hk : k < len) (hl : len ≤ cap) (hm : cap ≤ maxLen) (hb : b < w.heap.size) (h0 : 0 ≤ v0) (g0 : v0 < 4294967296) (hq : fcls (v0 % 256) = 13)
   (hc : w.cell? ⟨b, off + k, none⟩ = some (.int .u32 v0)) : Calls Try.prog 89 #[.slice (some ⟨b, off, none⟩) len cap, .int .i64 k] w fun e w' => e = .returned (dres 13 v0 k1 x1) ∧ Below w.heap.size w w' := by
  have c0 : (0 : Int) ≤ (k : Int) := by omega
  have c1 : (k : Int) ≤ (len : Int) := by omega
  have c2 : ¬ ((len : Int) < (k : Int)) := by omega
  have c3 : ((len - k : Nat) : Int) = (len : Int) - k := by omega
  have c4 : ((len : Int) - k == 0) = false := by simp; omega
  have c5 : ¬ ((len : Int) - k < 1) := by omega
  have m := mask255 v0 h0 g0
  go_enter Try.func89, Try.ntmps89
  go_wp2_with (first
    | (go_at_call 149; refine (formatOf_any (v0 % 256) _).mono ?_; rintro e w1 ⟨rfl, hb1⟩; rw [hq, show frow 13 = #[.bool false, .bool true, .bool false, .bool false, .bool false, .int .i64 2048, .int .i64 1] from rfl]; have hS := St.first (fs := #[.bool false, .bool true, .bool false, .bool false, .bool false, .int .i64 2048, .int .i64 1]) rfl h0 g0 hb1; obtain ⟨kT, kX, zT, zX, s1, s2, hB⟩ := behind2 hb1; clear hb1; have s3 := Nat.lt_trans hb s1; have kc := (hB.cell (p := ⟨b, off + k, none⟩) hb).trans hc)
    | (go_at_call 150; refine (hS.part false 1 (cs' := #[.int .i64 (v0 % 256), .int .i64 (0), .int .i64 (0), .int .i64 (0), .int .i64 (0), .int .i64 (0), .int .u32 0, .int .u32 0]) rfl rfl).mono ?_; rintro e w2 ⟨rfl, hS1⟩; clear kT kX zT zX hB kc hS; obtain ⟨kT, kX, kF, kR, zT, zX, hB⟩ := hS1.facts; have kc := (hB.cell (p := ⟨b, off + k, none⟩) hb).trans hc)
    | (go_at_call 150; refine (hS1.part true 2 (cs' := #[.int .i64 (v0 % 256), .int .i64 (0), .int .i64 (v0 / 256 / 16 % 16), .int .i64 (0), .int .i64 (0), .int .i64 (0), .int .u32 0, .int .u32 0]) rfl rfl).mono ?_; rintro e w3 ⟨rfl, hS2⟩; clear kT kX zT zX hB kc kF kR hS1; obtain ⟨kT, kX, kF, kR, zT, zX, hB⟩ := hS2.facts; have kc := (hB.cell (p := ⟨b, off + k, none⟩) hb).trans hc)
    | (go_at_call 150; refine (hS2.part16 5 (cs' := #[.int .i64 (v0 % 256), .int .i64 (0), .int .i64 (v0 / 256 / 16 % 16), .int .i64 (0), .int .i64 (0), .int .i64 (v0 / 256 / 16 / 16 % 65536), .int .u32 0, .int .u32 0]) rfl rfl).mono ?_; rintro e w6 ⟨rfl, hS5⟩; clear kT kX zT zX hB kc kF kR hS2; obtain ⟨kT, kX, kF, kR, zT, zX, hB⟩ := hS5.facts; have kc := (hB.cell (p := ⟨b, off + k, none⟩) hb).trans hc))
  all_goals first
    | exact end_any hS1.1 hB (dres_bad (by rw [good_13]; omega)) rfl rfl rfl rfl
    | exact end_any hS2.1 hB (dres_bad (by rw [good_13]; omega)) rfl rfl rfl rfl
    | exact end_any hS3.1 hB (dres_bad (by rw [good_13]; omega)) rfl rfl rfl rfl
    | exact end_any hS5.1 hB (dres_bad (by rw [good_13]; omega)) rfl rfl rfl rfl
    | exact end_any hS4.1 hB (dres_bad (by rw [good_13]; omega)) rfl rfl rfl rfl
    | (go_region; all_goals go_wp2; all_goals exact end_drew (hS5.1) (hB) (by rw [dres_good (by rw [good_13]; omega), dok_13]; rfl) rfl rfl rfl rfl)
theorem good_14 (v : Int) : good 14 v ↔ (v / 256 / 16 % 16 = 0 ∧ v / 256 / 16 / 16 % 65536 < 65 ∧ v / 256 % 16 ≠ 0 ∧ v / 256 % 16 ≤ 7) := by simp [good, hD, hA, hB, hC, hK, nb]
theorem dok_14 (v k x : Int) : dok 14 v k x = cod (v % 256) (v / 256 % 16) (0) (0) (0) (v / 256 / 16 / 16 % 65536) k x := by simp [dok, pick, hD, hA, hB, hC, hK, nb, wd]
set_option maxRecDepth 100000 in
set_option maxHeartbeats 4000000 in
theorem dec_14 (b off len cap k : Nat) (v0 k1 x1 : Int) (w : World) (hk : k < len) (hl : len ≤ cap) (hm : cap ≤ maxLen) (hb : b < w.heap.size) (h0 : 0 ≤ v0) (g0 : v0 < 4294967296) (hq : fcls (v0 % 256) = 14)
   (hc : w.cell? ⟨b, off + k, none⟩ = some (.int .u32 v0)) (hk1 : k + 1 < len) (hc1 : w.cell? ⟨b, off + k + 1, none⟩ = some (.int .u32 k1)) (hk2 : k + 2 < len) (hc2 : w.cell? ⟨b, off + k + 2, none⟩ = some (.int .u32 x1)) : Calls Try.prog 89 #[.slice (some ⟨b, off, none⟩) len cap, .int .i64 k] w fun e w' => e = .returned (dres 14 v0 k1 x1) ∧ Below w.heap.size w w' := by
  have c0 : (0 : Int) ≤ (k : Int) := by omega
  have c1 : (k : Int) ≤ (len : Int) := by omega
  have c2 : ¬ ((len : Int) < (k : Int)) := by omega
  have c3 : ((len - k : Nat) : Int) = (len : Int) - k := by omega
  have c4 : ((len : Int) - k == 0) = false := by simp; omega
  have c5 : ¬ ((len : Int) - k < 3) := by omega
  have m := mask255 v0 h0 g0
  have d1 : (1 : Int) < (len : Int) - k := by omega
  have d2 : (2 : Int) < (len : Int) - k := by omega
  go_enter Try.func89, Try.ntmps89
  go_wp2_with (first
    | (go_at_call 149; refine (formatOf_any (v0 % 256) _).mono ?_; rintro e w1 ⟨rfl, hb1⟩; rw [hq, show frow 14 = #[.bool true, .bool false, .bool false, .bool false, .bool true, .int .i64 65, .int .i64 3] from rfl]; have hS := St.first (fs := #[.bool true, .bool false, .bool false, .bool false, .bool true, .int .i64 65, .int .i64 3]) rfl h0 g0 hb1; obtain ⟨kT, kX, zT, zX, s1, s2, hB⟩ := behind2 hb1; clear hb1; have s3 := Nat.lt_trans hb s1; have kc := (hB.cell (p := ⟨b, off + k, none⟩) hb).trans hc; have kc1 := (hB.cell (p := ⟨b, off + k + 1, none⟩) hb).trans hc1; have kc2 := (hB.cell (p := ⟨b, off + k + 2, none⟩) hb).trans hc2)
    | (go_at_call 150; refine (hS.part true 1 (cs' := #[.int .i64 (v0 % 256), .int .i64 (v0 / 256 % 16), .int .i64 (0), .int .i64 (0), .int .i64 (0), .int .i64 (0), .int .u32 0, .int .u32 0]) rfl rfl).mono ?_; rintro e w2 ⟨rfl, hS1⟩; clear kT kX zT zX hB kc kc1 kc2 hS; obtain ⟨kT, kX, kF, kR, zT, zX, hB⟩ := hS1.facts; have kc := (hB.cell (p := ⟨b, off + k, none⟩) hb).trans hc; have kc1 := (hB.cell (p := ⟨b, off + k + 1, none⟩) hb).trans hc1; have kc2 := (hB.cell (p := ⟨b, off + k + 2, none⟩) hb).trans hc2)
    | (go_at_call 150; refine (hS1.part false 2 (cs' := #[.int .i64 (v0 % 256), .int .i64 (v0 / 256 % 16), .int .i64 (0), .int .i64 (0), .int .i64 (0), .int .i64 (0), .int .u32 0, .int .u32 0]) rfl rfl).mono ?_; rintro e w3 ⟨rfl, hS2⟩; clear kT kX zT zX hB kc kc1 kc2 kF kR hS1; obtain ⟨kT, kX, kF, kR, zT, zX, hB⟩ := hS2.facts; have kc := (hB.cell (p := ⟨b, off + k, none⟩) hb).trans hc; have kc1 := (hB.cell (p := ⟨b, off + k + 1, none⟩) hb).trans hc1; have kc2 := (hB.cell (p := ⟨b, off + k + 2, none⟩) hb).trans hc2)
    | (go_at_call 150; refine (hS2.part16 5 (cs' := #[.int .i64 (v0 % 256), .int .i64 (v0 / 256 % 16), .int .i64 (0), .int .i64 (0), .int .i64 (0), .int .i64 (v0 / 256 / 16 / 16 % 65536), .int .u32 0, .int .u32 0]) rfl rfl).mono ?_; rintro e w6 ⟨rfl, hS5⟩; clear kT kX zT zX hB kc kc1 kc2 kF kR hS2; obtain ⟨kT, kX, kF, kR, zT, zX, hB⟩ := hS5.facts; have kc := (hB.cell (p := ⟨b, off + k, none⟩) hb).trans hc; have kc1 := (hB.cell (p := ⟨b, off + k + 1, none⟩) hb).trans hc1; have kc2 := (hB.cell (p := ⟨b, off + k + 2, none⟩) hb).trans hc2))
  all_goals first
    | exact end_any hS1.1 hB (dres_bad (by rw [good_14]; omega)) rfl rfl rfl rfl
    | exact end_any hS2.1 hB (dres_bad (by rw [good_14]; omega)) rfl rfl rfl rfl
    | exact end_any hS3.1 hB (dres_bad (by rw [good_14]; omega)) rfl rfl rfl rfl
    | exact end_any hS5.1 hB (dres_bad (by rw [good_14]; omega)) rfl rfl rfl rfl
    | exact end_any hS4.1 hB (dres_bad (by rw [good_14]; omega)) rfl rfl rfl rfl
    | (have h' := ‹65 ≤ v0 / 256 / 16 / 16 % 65536 ∨ (v0 / 256 % 16 == 0) = true ∨ 7 < v0 / 256 % 16›; simp only [beq_iff_eq] at h'; exact end_any hS5.1 hB (dres_bad (by rw [good_14]; omega)) rfl rfl rfl rfl)
    | (have h' := ‹v0 / 256 / 16 / 16 % 65536 < 65 ∧ (v0 / 256 % 16 == 0) = false ∧ v0 / 256 % 16 ≤ 7›; simp only [beq_eq_false_iff_ne, ne_eq] at h'; go_region; all_goals go_wp2; all_goals exact end_drew ((heap_setCell_other _ _ _ _ (Nat.ne_of_lt (Nat.lt_succ_self _))).trans ((heap_setCell_other _ _ _ _ (Nat.ne_of_lt (Nat.lt_succ_self _))).trans (hS5.1))) (((hB).setCell (Nat.le_succ _) _).setCell (Nat.le_succ _) _) (by rw [dres_good (by rw [good_14]; omega), dok_14]; rfl) rfl rfl rfl rfl)
theorem good_15 (v : Int) : good 15 v ↔ (v / 256 / 16 / 16 % 65536 < 65 ∧ v / 256 % 16 ≠ 0 ∧ v / 256 % 16 ≤ 7) := by simp [good, hD, hA, hB, hC, hK, nb]
theorem dok_15 (v k x : Int) : dok 15 v k x = cod (v % 256) (v / 256 % 16) (v / 256 / 16 % 16) (0) (0) (v / 256 / 16 / 16 % 65536) k 0 := by simp [dok, pick, hD, hA, hB, hC, hK, nb, wd]
set_option maxRecDepth 100000 in
set_option maxHeartbeats 4000000 in
theorem dec_15 (b off len cap k : Nat) (v0 k1 x1 : Int) (w : World) (hk : k < len) (hl : len ≤ cap) (hm : cap ≤ maxLen) (hb : b < w.heap.size) (h0 : 0 ≤ v0) (g0 : v0 < 4294967296) (hq : fcls (v0 % 256) = 15)
   (hc : w.cell? ⟨b, off + k, none⟩ = some (.int .u32 v0)) (hk1 : k + 1 < len) (hc1 : w.cell? ⟨b, off + k + 1, none⟩ = some (.int .u32 k1)) : Calls Try.prog 89 #[.slice (some ⟨b, off, none⟩) len cap, .int .i64 k] w fun e w' => e = .returned (dres 15 v0 k1 x1) ∧ Below w.heap.size w w' := by
  have c0 : (0 : Int) ≤ (k : Int) := by omega
  have c1 : (k : Int) ≤ (len : Int) := by omega
  have c2 : ¬ ((len : Int) < (k : Int)) := by omega
  have c3 : ((len - k : Nat) : Int) = (len : Int) - k := by omega
  have c4 : ((len : Int) - k == 0) = false := by simp; omega
  have c5 : ¬ ((len : Int) - k < 2) := by omega
  have m := mask255 v0 h0 g0
  have d1 : (1 : Int) < (len : Int) - k := by omega
  go_enter Try.func89, Try.ntmps89
  go_wp2_with (first
    | (go_at_call 149; refine (formatOf_any (v0 % 256) _).mono ?_; rintro e w1 ⟨rfl, hb1⟩; rw [hq, show frow 15 = #[.bool true, .bool true, .bool false, .bool false, .bool true, .int .i64 65, .int .i64 2] from rfl]; have hS := St.first (fs := #[.bool true, .bool true, .bool false, .bool false, .bool true, .int .i64 65, .int .i64 2]) rfl h0 g0 hb1; obtain ⟨kT, kX, zT, zX, s1, s2, hB⟩ := behind2 hb1; clear hb1; have s3 := Nat.lt_trans hb s1; have kc := (hB.cell (p := ⟨b, off + k, none⟩) hb).trans hc; have kc1 := (hB.cell (p := ⟨b, off + k + 1, none⟩) hb).trans hc1)
    | (go_at_call 150; refine (hS.part true 1 (cs' := #[.int .i64 (v0 % 256), .int .i64 (v0 / 256 % 16), .int .i64 (0), .int .i64 (0), .int .i64 (0), .int .i64 (0), .int .u32 0, .int .u32 0]) rfl rfl).mono ?_; rintro e w2 ⟨rfl, hS1⟩; clear kT kX zT zX hB kc kc1 hS; obtain ⟨kT, kX, kF, kR, zT, zX, hB⟩ := hS1.facts; have kc := (hB.cell (p := ⟨b, off + k, none⟩) hb).trans hc; have kc1 := (hB.cell (p := ⟨b, off + k + 1, none⟩) hb).trans hc1)
    | (go_at_call 150; refine (hS1.part true 2 (cs' := #[.int .i64 (v0 % 256), .int .i64 (v0 / 256 % 16), .int .i64 (v0 / 256 / 16 % 16), .int .i64 (0), .int .i64 (0), .int .i64 (0), .int .u32 0, .int .u32 0]) rfl rfl).mono ?_; rintro e w3 ⟨rfl, hS2⟩; clear kT kX zT zX hB kc kc1 kF kR hS1; obtain ⟨kT, kX, kF, kR, zT, zX, hB⟩ := hS2.facts; have kc := (hB.cell (p := ⟨b, off + k, none⟩) hb).trans hc; have kc1 := (hB.cell (p := ⟨b, off + k + 1, none⟩) hb).trans hc1)
    | (go_at_call 150; refine (hS2.part16 5 (cs' := #[.int .i64 (v0 % 256), .int .i64 (v0 / 256 % 16), .int .i64 (v0 / 256 / 16 % 16), .int .i64 (0), .int .i64 (0), .int .i64 (v0 / 256 / 16 / 16 % 65536), .int .u32 0, .int .u32 0]) rfl rfl).mono ?_; rintro e w6 ⟨rfl, hS5⟩; clear kT kX zT zX hB kc kc1 kF kR hS2; obtain ⟨kT, kX, kF, kR, zT, zX, hB⟩ := hS5.facts; have kc := (hB.cell (p := ⟨b, off + k, none⟩) hb).trans hc; have kc1 := (hB.cell (p := ⟨b, off + k + 1, none⟩) hb).trans hc1))
  all_goals first
    | exact end_any hS1.1 hB (dres_bad (by rw [good_15]; omega)) rfl rfl rfl rfl
    | exact end_any hS2.1 hB (dres_bad (by rw [good_15]; omega)) rfl rfl rfl rfl
    | exact end_any hS3.1 hB (dres_bad (by rw [good_15]; omega)) rfl rfl rfl rfl
    | exact end_any hS5.1 hB (dres_bad (by rw [good_15]; omega)) rfl rfl rfl rfl
    | exact end_any hS4.1 hB (dres_bad (by rw [good_15]; omega)) rfl rfl rfl rfl
    | (have h' := ‹65 ≤ v0 / 256 / 16 / 16 % 65536 ∨ (v0 / 256 % 16 == 0) = true ∨ 7 < v0 / 256 % 16›; simp only [beq_iff_eq] at h'; exact end_any hS5.1 hB (dres_bad (by rw [good_15]; omega)) rfl rfl rfl rfl)
    | (have h' := ‹v0 / 256 / 16 / 16 % 65536 < 65 ∧ (v0 / 256 % 16 == 0) = false ∧ v0 / 256 % 16 ≤ 7›; simp only [beq_eq_false_iff_ne, ne_eq] at h'; go_region; all_goals go_wp2; all_goals exact end_drew ((heap_setCell_other _ _ _ _ (Nat.ne_of_lt (Nat.lt_succ_self _))).trans (hS5.1)) ((hB).setCell (Nat.le_succ _) _) (by rw [dres_good (by rw [good_15]; omega), dok_15]; rfl) rfl rfl rfl rfl)
end Go.Proofs.Ytcjcmnnhmajocab.Ho
