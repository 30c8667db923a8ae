/- Laws on memory, whatever the program: copy into the newest block. -/
import Derived.Test.YtcjcmnnhmajocaaKit
import Derived.Laws.CopyRow
namespace Go.Proofs.Ytcjcmnnhmajocaa.Kt
open Go.RowKit
set_option linter.unusedVariables false

/-- 'copy' into the block that was made last, behind a draw. -/
theorem copy_new {P : Program} (W : World) (a : Addr) (sLen sCap : Nat) (old : Array Value) (t dT sT ty elem : TypeId) (cs : List Value) (dl dc : Nat)
    (hu : P.underlying dT = some (.slice elem)) (hs : (P.info? elem).map (·.size) = some 1) (hn : cs.length = Nat.min sLen dl)
    (hsrc : ∀ j v, cs[j]? = some v → (W.alloc (.cells old t)).cell? (a.add j) = some v) (hfit : cs.length ≤ old.size) (h1 : ∀ v ∈ cs, v.oneCell' = true) :
    (Builtin.copy_ #[dT, sT] ty #[.slice (some ⟨W.heap.size, 0, none⟩) dl dc, .slice (some a) sLen sCap]).run P (W.alloc (.cells old t)).drew =
      .ok (goInt cs.length) (W.alloc (.cells (cs ++ old.toList.drop cs.length).toArray t)).drew := by
  have hw : (W.alloc (.cells old t)).drew.heap[W.heap.size]? = some (.cells old t (0, 0)) := heap_alloc_new W _
  have hr := run_copy_row (P := P) (W.alloc (.cells old t)).drew dT sT ty elem W.heap.size 0 dl dc a sLen sCap old t cs hu hs hw hn hsrc (by omega) h1
  rw [hr]
  congr 1
  have e : ((W.alloc (.cells old t)).drew).setRow W.heap.size (old.toList.take 0 ++ cs ++ old.toList.drop (0 + cs.length)).toArray = ((W.alloc (.cells old t)).setRow W.heap.size (cs ++ old.toList.drop cs.length).toArray).drew := by
    rw [List.take_zero, List.nil_append, Nat.zero_add]
    rfl
  rw [e, setRow_new]
end Go.Proofs.Ytcjcmnnhmajocaa.Kt
