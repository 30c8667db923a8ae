/- Where blocks end: guest.Ends, crossgrainref1.Ends. -/
import Derived.Test.YtcjcmnnhmajocaaProg
import Derived.Below
import Derived.WalkKit
namespace Go.Proofs.Ytcjcmnnhmajocaa.Gu
open Go.RowKit
set_option linter.unusedVariables false
def en (k : Int) : Bool := decide (k = 1 ∨ k = 2 ∨ (5 ≤ k ∧ k ≤ 13))
theorem en_no {k : Int} (h : ¬ (k = 1 ∨ k = 2 ∨ (5 ≤ k ∧ k ≤ 13))) : en k = false := decide_eq_false h
set_option maxHeartbeats 2000000 in
theorem ends_any (k : Int) (w : World) : Calls Try.prog 36 #[.int .i64 k] w fun e w' => e = .returned (.bool (en k)) ∧ w = w' := by
  by_cases h : k = 1 ∨ k = 2 ∨ (5 ≤ k ∧ k ≤ 13)
  · have h' : k = 1 ∨ k = 2 ∨ k = 5 ∨ k = 6 ∨ k = 7 ∨ k = 8 ∨ k = 9 ∨ k = 10 ∨ k = 11 ∨ k = 12 ∨ k = 13 := by omega
    rcases h' with rfl | rfl | rfl | rfl | rfl | rfl | rfl | rfl | rfl | rfl | rfl
    all_goals go_enter Try.func36, Try.ntmps36
    all_goals go_wp2
    all_goals go_ret
    all_goals exact ⟨rfl, rfl⟩
  · rw [en_no h]
    have c1 : (k == 1) = false := by rw [beq_eq_false_iff_ne]; omega
    have c2 : (k == 2) = false := by rw [beq_eq_false_iff_ne]; omega
    have c5 : (k == 5) = false := by rw [beq_eq_false_iff_ne]; omega
    have c6 : (k == 6) = false := by rw [beq_eq_false_iff_ne]; omega
    have c7 : (k == 7) = false := by rw [beq_eq_false_iff_ne]; omega
    have c8 : (k == 8) = false := by rw [beq_eq_false_iff_ne]; omega
    have c9 : (k == 9) = false := by rw [beq_eq_false_iff_ne]; omega
    have c10 : (k == 10) = false := by rw [beq_eq_false_iff_ne]; omega
    have c11 : (k == 11) = false := by rw [beq_eq_false_iff_ne]; omega
    have c12 : (k == 12) = false := by rw [beq_eq_false_iff_ne]; omega
    have c13 : (k == 13) = false := by rw [beq_eq_false_iff_ne]; omega
    clear h
    go_enter Try.func36, Try.ntmps36
    go_wp2
    go_ret
    exact ⟨rfl, rfl⟩
set_option maxHeartbeats 2000000 in
theorem rends_any (k : Int) (w : World) : Calls Try.prog 37 #[.int .i64 k] w fun e w' => e = .returned (.bool (en k)) ∧ w = w' := by
  rcases (show k = 1 ∨ k = 2 ∨ (5 ≤ k ∧ k ≤ 13) ∨ 13 < k ∨ (k < 5 ∧ k ≠ 1 ∧ k ≠ 2) by omega) with rfl | rfl | h | h | h
  · go_enter Try.func37, Try.ntmps37
    go_wp2
    go_ret
    exact ⟨rfl, rfl⟩
  · go_enter Try.func37, Try.ntmps37
    go_wp2
    go_ret
    exact ⟨rfl, rfl⟩
  · rw [show en k = true from decide_eq_true (by omega)]
    have c1 : (k == 1) = false := by rw [beq_eq_false_iff_ne]; omega
    have c2 : (k == 2) = false := by rw [beq_eq_false_iff_ne]; omega
    obtain ⟨h1, h2⟩ := h
    go_enter Try.func37, Try.ntmps37
    go_wp2
    go_ret
    exact ⟨rfl, rfl⟩
  · rw [en_no (by omega)]
    have c1 : (k == 1) = false := by rw [beq_eq_false_iff_ne]; omega
    have c2 : (k == 2) = false := by rw [beq_eq_false_iff_ne]; omega
    have c3 : 5 ≤ k := by omega
    have c4 : ¬ k ≤ 13 := by omega
    go_enter Try.func37, Try.ntmps37
    go_wp2
    go_ret
    exact ⟨rfl, rfl⟩
  · rw [en_no (by omega)]
    have c1 : (k == 1) = false := by rw [beq_eq_false_iff_ne]; omega
    have c2 : (k == 2) = false := by rw [beq_eq_false_iff_ne]; omega
    have c3 : ¬ 5 ≤ k := by omega
    clear h
    go_enter Try.func37, Try.ntmps37
    go_wp2
    go_ret
    exact ⟨rfl, rfl⟩
end Go.Proofs.Ytcjcmnnhmajocaa.Gu
