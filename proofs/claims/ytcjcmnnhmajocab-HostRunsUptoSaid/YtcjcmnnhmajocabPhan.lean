/- What an operation gives that hangs on what it takes alone: ir.Value and the reference's. -/
import Derived.Test.YtcjcmnnhmajocabPhai
import Derived.Test.YtcjcmnnhmajocabPham
set_option linter.unusedVariables false
set_option linter.unusedSimpArgs false
set_option maxRecDepth 100000
set_option maxHeartbeats 16000000
namespace Go.Proofs.Ytcjcmnnhmajocab.Ev
open Go.RowKit Kt Me Fl
theorem val_4 (ow oa ob oc kn on a b c : Int) (w : World) (k0 : 0 ≤ kn) (k1 : kn < 4294967296) (a0 : 0 ≤ a) (a1 : a < 4294967296) (b0 : 0 ≤ b) (b1 : b < 4294967296) (c0 : 0 ≤ c) (c1 : c < 4294967296) (hw : 0 ≤ ow ∧ ow < 16) :
  Calls Try.prog 171 #[.agg #[.int .i64 4, .int .i64 ow, .int .i64 oa, .int .i64 ob, .int .i64 oc, .int .u32 kn, .int .i64 on], .int .u32 a, .int .u32 b, .int .u32 c] w fun e w' => e = .returned (.int .u32 (valV 4 ow kn a b c)) ∧ Below w.heap.size w w' := by
 have CB := κ (fun w => bin_any ow a b w hw.1 hw.2 a0 a1 b0 b1)
 go_enter Try.func171, Try.ntmps171
 go_wp2_with (go_at_call 197; (with_reducible refine (CB.out _).mono ?_); rintro e w1 ⟨rfl, rfl⟩)
 go_ret
 exact ⟨rfl, (Below.refl _ _).alloc (Nat.le_refl _) _⟩
theorem val_5 (ow oa ob oc kn on a b c : Int) (w : World) (k0 : 0 ≤ kn) (k1 : kn < 4294967296) (a0 : 0 ≤ a) (a1 : a < 4294967296) (b0 : 0 ≤ b) (b1 : b < 4294967296) (c0 : 0 ≤ c) (c1 : c < 4294967296) (hw : 0 ≤ ow ∧ ow < 7) :
  Calls Try.prog 171 #[.agg #[.int .i64 5, .int .i64 ow, .int .i64 oa, .int .i64 ob, .int .i64 oc, .int .u32 kn, .int .i64 on], .int .u32 a, .int .u32 b, .int .u32 c] w fun e w' => e = .returned (.int .u32 (valV 5 ow kn a b c)) ∧ Below w.heap.size w w' := by
 have CB := κ (fun w => un_any ow a w hw.1 hw.2 a0 a1)
 go_enter Try.func171, Try.ntmps171
 go_wp2_with (go_at_call 167; (with_reducible refine (CB.out _).mono ?_); rintro e w1 ⟨rfl, rfl⟩)
 go_ret
 exact ⟨rfl, (Below.refl _ _).alloc (Nat.le_refl _) _⟩
theorem val_6 (ow oa ob oc kn on a b c : Int) (w : World) (k0 : 0 ≤ kn) (k1 : kn < 4294967296) (a0 : 0 ≤ a) (a1 : a < 4294967296) (b0 : 0 ≤ b) (b1 : b < 4294967296) (c0 : 0 ≤ c) (c1 : c < 4294967296) :
  Calls Try.prog 171 #[.agg #[.int .i64 6, .int .i64 ow, .int .i64 oa, .int .i64 ob, .int .i64 oc, .int .u32 kn, .int .i64 on], .int .u32 a, .int .u32 b, .int .u32 c] w fun e w' => e = .returned (.int .u32 (valV 6 ow kn a b c)) ∧ Below w.heap.size w w' := by
 by_cases hx : a = 0
 ·have e : valV 6 ow kn a b c = c := by show (if a = 0 then c else b) = _; rw [if_pos hx]
  rw [e]
  clear e
  have hb1 : (a != 0) = false := by simp [hx]
  go_enter Try.func171, Try.ntmps171
  go_wp2_with fail
  go_ret
  exact ⟨rfl, (Below.refl _ _).alloc (Nat.le_refl _) _⟩
 ·have e : valV 6 ow kn a b c = b := by show (if a = 0 then c else b) = _; rw [if_neg hx]
  rw [e]
  clear e
  have hb1 : (a != 0) = true := by simp [hx]
  go_enter Try.func171, Try.ntmps171
  go_wp2_with fail
  go_ret
  exact ⟨rfl, (Below.refl _ _).alloc (Nat.le_refl _) _⟩
theorem val_7 (ow oa ob oc kn on a b c : Int) (w : World) (k0 : 0 ≤ kn) (k1 : kn < 4294967296) (a0 : 0 ≤ a) (a1 : a < 4294967296) (b0 : 0 ≤ b) (b1 : b < 4294967296) (c0 : 0 ≤ c) (c1 : c < 4294967296) :
  Calls Try.prog 171 #[.agg #[.int .i64 7, .int .i64 ow, .int .i64 oa, .int .i64 ob, .int .i64 oc, .int .u32 kn, .int .i64 on], .int .u32 a, .int .u32 b, .int .u32 c] w fun e w' => e = .returned (.int .u32 (valV 7 ow kn a b c)) ∧ Below w.heap.size w w' := by
 have CB := κ (fun w => flags_any ow a b c w a0 a1 b0 b1 c0 c1)
 go_enter Try.func171, Try.ntmps171
 go_wp2_with (go_at_call 125; (with_reducible refine (CB.out _).mono ?_); rintro e w1 ⟨rfl, rfl⟩)
 go_ret
 exact ⟨rfl, (Below.refl _ _).alloc (Nat.le_refl _) _⟩
theorem val_8 (ow oa ob oc kn on a b c : Int) (w : World) (k0 : 0 ≤ kn) (k1 : kn < 4294967296) (a0 : 0 ≤ a) (a1 : a < 4294967296) (b0 : 0 ≤ b) (b1 : b < 4294967296) (c0 : 0 ≤ c) (c1 : c < 4294967296) (hw : -9223372036854775808 ≤ ow ∧ ow < 9223372036854775808) :
  Calls Try.prog 171 #[.agg #[.int .i64 8, .int .i64 ow, .int .i64 oa, .int .i64 ob, .int .i64 oc, .int .u32 kn, .int .i64 on], .int .u32 a, .int .u32 b, .int .u32 c] w fun e w' => e = .returned (.int .u32 (valV 8 ow kn a b c)) ∧ Below w.heap.size w w' := by
 have CB := κ (fun w => holds_any ow a w a0 a1 hw.1 hw.2)
 have e : valV 8 ow kn a b c = (if Fl.hd ow a then 1 else 0) := rfl
 rw [e]
 clear e
 generalize Fl.hd ow a = t at CB
 have CT := κ (fun w => truth_any t w)
 generalize (if t = true then (1 : Int) else 0) = z at CT ⊢
 go_enter Try.func171, Try.ntmps171
 go_wp2_with (first | (go_at_call 127; (with_reducible refine (CB.out _).mono ?_); rintro e w1 ⟨rfl, hb⟩) | (go_at_call 196; (with_reducible refine (CT.out _).mono ?_); rintro e w2 ⟨rfl, rfl⟩))
 go_ret
 exact ⟨rfl, ((Below.refl _ _).alloc (Nat.le_refl _) _).trans (hb.mono (by simp))⟩
/-- which kinds hang on what they take alone; how W goes -/
theorem val_any (k : Int) (ow oa ob oc kn on a b c : Int) (w : World) (k0 : 0 ≤ kn) (k1 : kn < 4294967296) (a0 : 0 ≤ a) (a1 : a < 4294967296) (b0 : 0 ≤ b) (b1 : b < 4294967296) (c0 : 0 ≤ c) (c1 : c < 4294967296) (hk : (k = 4 ∧ 0 ≤ ow ∧ ow < 16) ∨ (k = 5 ∧ 0 ≤ ow ∧ ow < 7) ∨ k = 6 ∨ k = 7 ∨ (k = 8 ∧ 0 ≤ ow ∧ ow < 16)) :
  Calls Try.prog 171 #[.agg #[.int .i64 k, .int .i64 ow, .int .i64 oa, .int .i64 ob, .int .i64 oc, .int .u32 kn, .int .i64 on], .int .u32 a, .int .u32 b, .int .u32 c] w fun e w' => e = .returned (.int .u32 (valV k ow kn a b c)) ∧ Below w.heap.size w w' := by
 rcases hk with ⟨rfl, hw⟩ | ⟨rfl, hw⟩ | rfl | rfl | ⟨rfl, hw⟩
 ·exact val_4 ow oa ob oc kn on a b c w k0 k1 a0 a1 b0 b1 c0 c1 hw
 ·exact val_5 ow oa ob oc kn on a b c w k0 k1 a0 a1 b0 b1 c0 c1 hw
 ·exact val_6 ow oa ob oc kn on a b c w k0 k1 a0 a1 b0 b1 c0 c1
 ·exact val_7 ow oa ob oc kn on a b c w k0 k1 a0 a1 b0 b1 c0 c1
 ·exact val_8 ow oa ob oc kn on a b c w k0 k1 a0 a1 b0 b1 c0 c1 ⟨by omega, by omega⟩
theorem rval_1 (ow oa ob oc kn on a b c : Int) (w : World) (k0 : 0 ≤ kn) (k1 : kn < 4294967296) (a0 : 0 ≤ a) (a1 : a < 4294967296) (b0 : 0 ≤ b) (b1 : b < 4294967296) (c0 : 0 ≤ c) (c1 : c < 4294967296) :
  Calls Try.prog 64 #[.agg #[.int .i64 1, .int .i64 ow, .int .i64 oa, .int .i64 ob, .int .i64 oc, .int .u32 kn, .int .i64 on], .int .u32 a, .int .u32 b, .int .u32 c] w fun e w' => e = .returned (.int .u32 (valV 1 ow kn a b c)) ∧ Below w.heap.size w w' := by
 go_enter Try.func64, Try.ntmps64
 go_wp2_with fail
 go_ret
 exact ⟨rfl, (Below.refl _ _).alloc (Nat.le_refl _) _⟩
theorem rval_4 (ow oa ob oc kn on a b c : Int) (w : World) (k0 : 0 ≤ kn) (k1 : kn < 4294967296) (a0 : 0 ≤ a) (a1 : a < 4294967296) (b0 : 0 ≤ b) (b1 : b < 4294967296) (c0 : 0 ≤ c) (c1 : c < 4294967296) (hw : 0 ≤ ow ∧ ow < 16) :
  Calls Try.prog 64 #[.agg #[.int .i64 4, .int .i64 ow, .int .i64 oa, .int .i64 ob, .int .i64 oc, .int .u32 kn, .int .i64 on], .int .u32 a, .int .u32 b, .int .u32 c] w fun e w' => e = .returned (.int .u32 (valV 4 ow kn a b c)) ∧ Below w.heap.size w w' := by
 have CB := κ (fun w => rbin_any ow a b w hw.1 hw.2 a0 a1 b0 b1)
 go_enter Try.func64, Try.ntmps64
 go_wp2_with (go_at_call 108; (with_reducible refine (CB.out _).mono ?_); rintro e w1 ⟨rfl, hb⟩)
 go_ret
 exact ⟨rfl, ((Below.refl _ _).alloc (Nat.le_refl _) _).trans (hb.mono (by simp))⟩
theorem rval_5 (ow oa ob oc kn on a b c : Int) (w : World) (k0 : 0 ≤ kn) (k1 : kn < 4294967296) (a0 : 0 ≤ a) (a1 : a < 4294967296) (b0 : 0 ≤ b) (b1 : b < 4294967296) (c0 : 0 ≤ c) (c1 : c < 4294967296) (hw : 0 ≤ ow ∧ ow < 7) :
  Calls Try.prog 64 #[.agg #[.int .i64 5, .int .i64 ow, .int .i64 oa, .int .i64 ob, .int .i64 oc, .int .u32 kn, .int .i64 on], .int .u32 a, .int .u32 b, .int .u32 c] w fun e w' => e = .returned (.int .u32 (valV 5 ow kn a b c)) ∧ Below w.heap.size w w' := by
 have CB := κ (fun w => run_any ow a w hw.1 hw.2 a0 a1)
 go_enter Try.func64, Try.ntmps64
 go_wp2_with (go_at_call 106; (with_reducible refine (CB.out _).mono ?_); rintro e w1 ⟨rfl, rfl⟩)
 go_ret
 exact ⟨rfl, (Below.refl _ _).alloc (Nat.le_refl _) _⟩
theorem rval_6 (ow oa ob oc kn on a b c : Int) (w : World) (k0 : 0 ≤ kn) (k1 : kn < 4294967296) (a0 : 0 ≤ a) (a1 : a < 4294967296) (b0 : 0 ≤ b) (b1 : b < 4294967296) (c0 : 0 ≤ c) (c1 : c < 4294967296) :
  Calls Try.prog 64 #[.agg #[.int .i64 6, .int .i64 ow, .int .i64 oa, .int .i64 ob, .int .i64 oc, .int .u32 kn, .int .i64 on], .int .u32 a, .int .u32 b, .int .u32 c] w fun e w' => e = .returned (.int .u32 (valV 6 ow kn a b c)) ∧ Below w.heap.size w w' := by
 by_cases hx : a = 0
 ·have e : valV 6 ow kn a b c = c := by show (if a = 0 then c else b) = _; rw [if_pos hx]
  rw [e]
  clear e
  have hb1 : (a != 0) = false := by simp [hx]
  go_enter Try.func64, Try.ntmps64
  go_wp2_with fail
  go_ret
  exact ⟨rfl, (Below.refl _ _).alloc (Nat.le_refl _) _⟩
 ·have e : valV 6 ow kn a b c = b := by show (if a = 0 then c else b) = _; rw [if_neg hx]
  rw [e]
  clear e
  have hb1 : (a != 0) = true := by simp [hx]
  go_enter Try.func64, Try.ntmps64
  go_wp2_with fail
  go_ret
  exact ⟨rfl, (Below.refl _ _).alloc (Nat.le_refl _) _⟩
theorem rval_7 (ow oa ob oc kn on a b c : Int) (w : World) (k0 : 0 ≤ kn) (k1 : kn < 4294967296) (a0 : 0 ≤ a) (a1 : a < 4294967296) (b0 : 0 ≤ b) (b1 : b < 4294967296) (c0 : 0 ≤ c) (c1 : c < 4294967296) :
  Calls Try.prog 64 #[.agg #[.int .i64 7, .int .i64 ow, .int .i64 oa, .int .i64 ob, .int .i64 oc, .int .u32 kn, .int .i64 on], .int .u32 a, .int .u32 b, .int .u32 c] w fun e w' => e = .returned (.int .u32 (valV 7 ow kn a b c)) ∧ Below w.heap.size w w' := by
 have CB := κ (fun w => rflags_any ow a b c w a0 a1 b0 b1 c0 c1)
 go_enter Try.func64, Try.ntmps64
 go_wp2_with (go_at_call 84; (with_reducible refine (CB.out _).mono ?_); rintro e w1 ⟨rfl, rfl⟩)
 go_ret
 exact ⟨rfl, (Below.refl _ _).alloc (Nat.le_refl _) _⟩
theorem rval_8 (ow oa ob oc kn on a b c : Int) (w : World) (k0 : 0 ≤ kn) (k1 : kn < 4294967296) (a0 : 0 ≤ a) (a1 : a < 4294967296) (b0 : 0 ≤ b) (b1 : b < 4294967296) (c0 : 0 ≤ c) (c1 : c < 4294967296) (hw : -9223372036854775808 ≤ ow ∧ ow < 9223372036854775808) :
  Calls Try.prog 64 #[.agg #[.int .i64 8, .int .i64 ow, .int .i64 oa, .int .i64 ob, .int .i64 oc, .int .u32 kn, .int .i64 on], .int .u32 a, .int .u32 b, .int .u32 c] w fun e w' => e = .returned (.int .u32 (valV 8 ow kn a b c)) ∧ Below w.heap.size w w' := by
 have CB := κ (fun w => rholds_any ow a w a0 a1)
 have e : valV 8 ow kn a b c = (if Fl.hd ow a then 1 else 0) := rfl
 rw [e]
 clear e
 generalize Fl.hd ow a = t at CB
 have CT := κ (fun w => is3_any t w)
 generalize (if t = true then (1 : Int) else 0) = z at CT ⊢
 go_enter Try.func64, Try.ntmps64
 go_wp2_with (first | (go_at_call 83; (with_reducible refine (CB.out _).mono ?_); rintro e w1 ⟨rfl, hb⟩) | (go_at_call 109; (with_reducible refine (CT.out _).mono ?_); rintro e w2 ⟨rfl, rfl⟩))
 go_ret
 exact ⟨rfl, ((Below.refl _ _).alloc (Nat.le_refl _) _).trans (hb.mono (by simp))⟩
/-- which kinds hang on what they take alone; how W goes -/
theorem rval_any (k : Int) (ow oa ob oc kn on a b c : Int) (w : World) (k0 : 0 ≤ kn) (k1 : kn < 4294967296) (a0 : 0 ≤ a) (a1 : a < 4294967296) (b0 : 0 ≤ b) (b1 : b < 4294967296) (c0 : 0 ≤ c) (c1 : c < 4294967296) (hk : k = 1 ∨ (k = 4 ∧ 0 ≤ ow ∧ ow < 16) ∨ (k = 5 ∧ 0 ≤ ow ∧ ow < 7) ∨ k = 6 ∨ k = 7 ∨ (k = 8 ∧ 0 ≤ ow ∧ ow < 16)) :
  Calls Try.prog 64 #[.agg #[.int .i64 k, .int .i64 ow, .int .i64 oa, .int .i64 ob, .int .i64 oc, .int .u32 kn, .int .i64 on], .int .u32 a, .int .u32 b, .int .u32 c] w fun e w' => e = .returned (.int .u32 (valV k ow kn a b c)) ∧ Below w.heap.size w w' := by
 rcases hk with rfl | ⟨rfl, hw⟩ | ⟨rfl, hw⟩ | rfl | rfl | ⟨rfl, hw⟩
 ·exact rval_1 ow oa ob oc kn on a b c w k0 k1 a0 a1 b0 b1 c0 c1
 ·exact rval_4 ow oa ob oc kn on a b c w k0 k1 a0 a1 b0 b1 c0 c1 hw
 ·exact rval_5 ow oa ob oc kn on a b c w k0 k1 a0 a1 b0 b1 c0 c1 hw
 ·exact rval_6 ow oa ob oc kn on a b c w k0 k1 a0 a1 b0 b1 c0 c1
 ·exact rval_7 ow oa ob oc kn on a b c w k0 k1 a0 a1 b0 b1 c0 c1
 ·exact rval_8 ow oa ob oc kn on a b c w k0 k1 a0 a1 b0 b1 c0 c1 ⟨by omega, by omega⟩
end Go.Proofs.Ytcjcmnnhmajocab.Ev
