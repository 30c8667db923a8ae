/- guest.row.field: where the low bits of a first byte go. -/
import Derived.Test.YtcjcmnnhmajocaaProg
import Derived.Below
import Derived.WalkKit
namespace Go.Proofs.Ytcjcmnnhmajocaa.Gu
open Go.RowKit
set_option linter.unusedVariables false
def fptr (X : Nat) (fi : Int) : Value := if fi = 1 then .pointer (some ⟨X, 1, none⟩) else if fi = 2 then .pointer (some ⟨X, 2, none⟩) else if fi = 3 then .pointer (some ⟨X, 3, none⟩) else .pointer none
set_option maxHeartbeats 1000000 in
theorem field_any (X : Nat) (o s l fi : Int) (h0 : 0 ≤ fi) (h3 : fi ≤ 3) (w : World) : Calls Try.prog 63 #[.agg #[.int .i64 o, .int .i64 s, .int .i64 l, .int .i64 fi], .pointer (some ⟨X, 0, none⟩)] w fun e w' => e = .returned (fptr X fi) ∧ Below w.heap.size w w' := by
  rcases (show fi = 0 ∨ fi = 1 ∨ fi = 2 ∨ fi = 3 by omega) with rfl | rfl | rfl | rfl
  all_goals go_enter Try.func63, Try.ntmps63
  all_goals go_wp2
  all_goals go_ret
  all_goals exact ⟨rfl, (Below.refl _ _).alloc (Nat.le_refl _) _⟩
end Go.Proofs.Ytcjcmnnhmajocaa.Gu
