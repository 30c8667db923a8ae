/- Which operations give a value, which end a block: the leaves of ir.Check and crossgrainref3.Check. -/
import Derived.Test.YtcjcmnnhmajocaaProg
import Derived.Below
import Derived.WalkKit
namespace Go.Proofs.Ytcjcmnnhmajocaa.Ic
open Go.RowKit
set_option linter.unusedVariables false
def gv (k : Int) : Bool := decide ((1 ≤ k ∧ k ≤ 9 ∧ k ≠ 3) ∨ k = 17)
def fin (k : Int) : Bool := decide (14 ≤ k ∧ k ≤ 16)
theorem gv_yes {k : Int} (h : (1 ≤ k ∧ k ≤ 9 ∧ k ≠ 3) ∨ k = 17) : gv k = true := decide_eq_true h
theorem gv_no {k : Int} (h : ¬ ((1 ≤ k ∧ k ≤ 9 ∧ k ≠ 3) ∨ k = 17)) : gv k = false := decide_eq_false h
theorem gives_any (k : Int) (w : World) : Calls Try.prog 18 #[.int .i64 k] w fun e w' => e = .returned (.bool (gv k)) ∧ w = w' := by
  rcases (show k < 1 ∨ (1 ≤ k ∧ k ≤ 9 ∧ k ≠ 3) ∨ k = 3 ∨ (10 ≤ k ∧ k ≠ 17) ∨ k = 17 by omega) with h | h | h | h | h
  · rw [gv_no (by omega)]
    have c1 : ¬ 1 ≤ k := by omega
    have c2 : (k == 17) = false := by simp; omega
    go_enter Try.func18, Try.ntmps18
    go_wp2
    go_ret
    exact ⟨rfl, rfl⟩
  · rw [gv_yes (.inl h)]
    have c1 : 1 ≤ k := h.1
    have c3 : k ≤ 9 := h.2.1
    have c4 : (k == 3) = false := by simp; omega
    go_enter Try.func18, Try.ntmps18
    go_wp2
    go_ret
    exact ⟨rfl, rfl⟩
  · subst h
    go_enter Try.func18, Try.ntmps18
    go_wp2
    go_ret
    exact ⟨rfl, rfl⟩
  · rw [gv_no (by omega)]
    have c1 : 1 ≤ k := by omega
    have c3 : ¬ k ≤ 9 := by omega
    have c2 : (k == 17) = false := by simp; omega
    go_enter Try.func18, Try.ntmps18
    go_wp2
    go_ret
    exact ⟨rfl, rfl⟩
  · subst h
    go_enter Try.func18, Try.ntmps18
    go_wp2
    go_ret
    exact ⟨rfl, rfl⟩
theorem rgives_any (k : Int) (w : World) : Calls Try.prog 19 #[.int .i64 k] w fun e w' => e = .returned (.bool (gv k)) ∧ w = w' := by
  rcases (show k < 1 ∨ (1 ≤ k ∧ k ≤ 9 ∧ k ≠ 3) ∨ k = 3 ∨ (10 ≤ k ∧ k ≠ 17) ∨ k = 17 by omega) with h | h | h | h | h
  · rw [gv_no (by omega)]
    have c1 : ¬ 1 ≤ k := by omega
    have c2 : (k == 17) = false := by simp; omega
    go_enter Try.func19, Try.ntmps19
    go_wp2
    go_ret
    exact ⟨rfl, rfl⟩
  · rw [gv_yes (.inl h)]
    have c1 : 1 ≤ k := h.1
    have c3 : k ≤ 9 := h.2.1
    have c4 : (k == 3) = false := by simp; omega
    go_enter Try.func19, Try.ntmps19
    go_wp2
    go_ret
    exact ⟨rfl, rfl⟩
  · subst h
    go_enter Try.func19, Try.ntmps19
    go_wp2
    go_ret
    exact ⟨rfl, rfl⟩
  · rw [gv_no (by omega)]
    have c1 : 1 ≤ k := by omega
    have c3 : ¬ k ≤ 9 := by omega
    have c2 : (k == 17) = false := by simp; omega
    go_enter Try.func19, Try.ntmps19
    go_wp2
    go_ret
    exact ⟨rfl, rfl⟩
  · subst h
    go_enter Try.func19, Try.ntmps19
    go_wp2
    go_ret
    exact ⟨rfl, rfl⟩
theorem final_any (k : Int) (w : World) : Calls Try.prog 55 #[.int .i64 k] w fun e w' => e = .returned (.bool (fin k)) ∧ w = w' := by
  rcases (show k < 14 ∨ (14 ≤ k ∧ k ≤ 16) ∨ 16 < k by omega) with h | h | h
  · rw [show fin k = false from decide_eq_false (by omega)]
    have c1 : ¬ 14 ≤ k := by omega
    go_enter Try.func55, Try.ntmps55
    go_wp2
    go_ret
    exact ⟨rfl, rfl⟩
  · rw [show fin k = true from decide_eq_true h]
    have c1 : 14 ≤ k := h.1
    have c2 : k ≤ 16 := h.2
    go_enter Try.func55, Try.ntmps55
    go_wp2
    go_ret
    exact ⟨rfl, rfl⟩
  · rw [show fin k = false from decide_eq_false (by omega)]
    have c1 : 14 ≤ k := by omega
    have c2 : ¬ k ≤ 16 := by omega
    go_enter Try.func55, Try.ntmps55
    go_wp2
    go_ret
    exact ⟨rfl, rfl⟩
end Go.Proofs.Ytcjcmnnhmajocaa.Ic
