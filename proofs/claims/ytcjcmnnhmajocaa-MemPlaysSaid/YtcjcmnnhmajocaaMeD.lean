/- mem.in. -/
import Derived.Test.YtcjcmnnhmajocaaMeB
namespace Go.Proofs.Ytcjcmnnhmajocaa.Me
open Go.RowKit Kt
set_option linter.unusedVariables false
set_option linter.unusedSimpArgs false
set_option maxHeartbeats 1000000 in
theorem in_ok (a n : Int) (h : 0 ≤ a ∧ 0 ≤ n ∧ a ≤ 65536 ∧ n ≤ 65536 - a) (w : World) : Calls Try.prog 116 #[.int .i64 a, .int .i64 n] w fun e w' => e = .returned (.bool true) ∧ w = w' := by
  obtain ⟨h1, h2, h3, h4⟩ := h
  go_enter Try.func116, Try.ntmps116
  go_wp2
  go_ret
  exact ⟨rfl, rfl⟩
set_option maxHeartbeats 1000000 in
theorem in_no (a n : Int) (h : ¬ (0 ≤ a ∧ 0 ≤ n ∧ a ≤ 65536 ∧ n ≤ 65536 - a)) (w : World) : Calls Try.prog 116 #[.int .i64 a, .int .i64 n] w fun e w' => e = .returned (.bool false) ∧ w = w' := by
  rcases (show ¬ 0 ≤ a ∨ (0 ≤ a ∧ ¬ 0 ≤ n) ∨ (0 ≤ a ∧ 0 ≤ n ∧ ¬ a ≤ 65536) ∨ (0 ≤ a ∧ 0 ≤ n ∧ a ≤ 65536 ∧ ¬ n ≤ 65536 - a) by omega) with h1 | ⟨h1, h2⟩ | ⟨h1, h2, h3⟩ | ⟨h1, h2, h3, h4⟩
  all_goals clear h
  all_goals go_enter Try.func116, Try.ntmps116
  all_goals go_wp2
  all_goals go_ret
  all_goals exact ⟨rfl, rfl⟩
end Go.Proofs.Ytcjcmnnhmajocaa.Me
