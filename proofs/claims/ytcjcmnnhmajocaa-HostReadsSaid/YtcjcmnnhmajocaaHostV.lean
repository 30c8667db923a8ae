import Derived.Test.YtcjcmnnhmajocaaProg
import Derived.Below
import Derived.WalkKit
import Derived.LoopN
import Derived.Deep.LoopGhost
namespace Go.Proofs.Ytcjcmnnhmajocaa.Ho
open Go.RowKit
set_option linter.unusedVariables false
set_option maxHeartbeats 4000000 in
theorem same_nil (a1 a2 : Option Addr) (c1 c2 : Nat) (w : World) : Calls Try.prog 27 #[.slice a1 0 c1, .slice a2 0 c2] w fun e w' => e = .returned (.bool true) ∧ Below w.heap.size w w' := by
  go_enter Try.func27, Try.ntmps27
  go_wp2
  refine wp_loop_rounds 1 ?_
  rw [rounds_succ]; go_wp2
  go_ret
  exact ⟨rfl, Below.refl _ _⟩
set_option maxHeartbeats 4000000 in
theorem same_any (g o1 g' o2 L c1 c2 : Nat) (us : List Int) (w : World) (h1 : ∀ j, j < L → w.cell? ⟨g, o1 + j, none⟩ = some (.int .u32 (us.getD j 0))) (h2 : ∀ j, j < L → w.cell? ⟨g', o2 + j, none⟩ = some (.int .u32 (us.getD j 0)))
    (hg : g < w.heap.size) (hg' : g' < w.heap.size) (hl1 : L ≤ c1) (hl2 : L ≤ c2) (hmax : L ≤ 9223372036854775807) :
    Calls Try.prog 27 #[.slice (some ⟨g, o1, none⟩) L c1, .slice (some ⟨g', o2, none⟩) L c2] w fun e w' => e = .returned (.bool true) ∧ Below w.heap.size w w' := by
  go_enter Try.func27, Try.ntmps27
  go_wp2
  go_loopg [13] L (fun k i wr => ∃ j : Nat, k = L - j ∧ j ≤ L ∧ i = .int .i64 j ∧ Below w.heap.size w wr)
  case atStart => exact ⟨0, rfl, Nat.zero_le _, rfl, Below.refl _ _⟩
  case round =>
    obtain ⟨j, hk, hj, rfl, hb⟩ := hrel
    by_cases hlt : j < L
    · have e1 := (hb.cell (p := ⟨g, o1 + j, none⟩) hg).trans (h1 j hlt)
      have e2 := (hb.cell (p := ⟨g', o2 + j, none⟩) hg').trans (h2 j hlt)
      have hlt' : (j : Int) < (L : Int) := by omega
      generalize us.getD j 0 = u at e1 e2
      go_wp2
      go_region
      go_wp2
      go_roundg (L - (j + 1))
      case measure => omega
      case rel => exact ⟨j + 1, rfl, by omega, by simp, hb.drew⟩
    · obtain rfl : j = L := by omega
      go_wp2
      go_ret
      exact ⟨rfl, hb⟩
end Go.Proofs.Ytcjcmnnhmajocaa.Ho
