/- States as contexts and back: ir.Enter, ir.State and the reference's: contracts. -/
import Derived.Laws.CopyRow
import Derived.Test.YtcjcmnnhmajocabPoaa
import Derived.Test.YtcjcmnnhmajocabPoab
import Derived.Test.YtcjcmnnhmajocabPoac
namespace Go.Proofs.Ytcjcmnnhmajocab.Kt
open Go.RowKit
set_option linter.unusedVariables false
/-- 'copy' into the block that was made last, behind a draw. -/
theorem copy_new {P : Program} (W : World) (a : Addr) (sLen sCap : Nat) (old : Array Value) (t dT sT ty elem : TypeId) (cs : List Value) (dl dc : Nat)
    (hu : P.underlying dT = some (.slice elem)) (hs : (P.info? elem).map (·.size) = some 1) (hn : cs.length = Nat.min sLen dl)
    (hsrc : ∀ j v, cs[j]? = some v → (W.alloc (.cells old t)).cell? (a.add j) = some v) (hfit : cs.length ≤ old.size) (h1 : ∀ v ∈ cs, v.oneCell' = true) :
    (Builtin.copy_ #[dT, sT] ty #[.slice (some ⟨W.heap.size, 0, none⟩) dl dc, .slice (some a) sLen sCap]).run P (W.alloc (.cells old t)).drew =
      .ok (goInt cs.length) (W.alloc (.cells (cs ++ old.toList.drop cs.length).toArray t)).drew := by
  have hw : (W.alloc (.cells old t)).drew.heap[W.heap.size]? = some (.cells old t (0, 0)) := heap_alloc_new W _
  have hr := run_copy_row (P := P) (W.alloc (.cells old t)).drew dT sT ty elem W.heap.size 0 dl dc a sLen sCap old t cs hu hs hw hn hsrc (by omega) h1
  rw [hr]
  congr 1
  have e : ((W.alloc (.cells old t)).drew).setRow W.heap.size (old.toList.take 0 ++ cs ++ old.toList.drop (0 + cs.length)).toArray = ((W.alloc (.cells old t)).setRow W.heap.size (cs ++ old.toList.drop cs.length).toArray).drew := by
    rw [List.take_zero, List.nil_append, Nat.zero_add]
    rfl
  rw [e, setRow_new]
end Go.Proofs.Ytcjcmnnhmajocab.Kt
namespace Go.Proofs.Ytcjcmnnhmajocab.Ir
open Go.RowKit Kt
set_option linter.unusedVariables false
/-- a state's cells -/
def stC (r0 r1 r2 r3 r4 r5 r6 r7 pc f : Int) : Array Value := #[.int .u32 r0, .int .u32 r1, .int .u32 r2, .int .u32 r3, .int .u32 r4, .int .u32 r5, .int .u32 r6, .int .u32 r7, .int .u32 pc, .int .u32 f]
set_option maxRecDepth 100000 in
set_option maxHeartbeats 4000000 in
theorem state_any (c0 c1 c2 c3 c4 c5 c6 c7 c8 c9 c10 c11 pc : Int) (w : World) (h8 : 0 ≤ c8) (g8 : c8 < 4294967296) (h9 : 0 ≤ c9) (g9 : c9 < 4294967296) (h10 : 0 ≤ c10) (g10 : c10 < 4294967296) (h11 : 0 ≤ c11) (g11 : c11 < 4294967296) :
    Calls Try.prog 170 #[.agg #[.int .u32 c0, .int .u32 c1, .int .u32 c2, .int .u32 c3, .int .u32 c4, .int .u32 c5, .int .u32 c6, .int .u32 c7, .int .u32 c8, .int .u32 c9, .int .u32 c10, .int .u32 c11], .int .u32 pc] w
      fun e w' => e = .returned (.agg #[.int .u32 c0, .int .u32 c1, .int .u32 c2, .int .u32 c3, .int .u32 c4, .int .u32 c5, .int .u32 c6, .int .u32 c7, .int .u32 pc, .int .u32 (Fl.fl c8 c9 c10 c11)]) ∧ Below w.heap.size w w' := by
  have hcp := copy_new (P := Try.prog) ((w.alloc (.cells #[.int .u32 c0, .int .u32 c1, .int .u32 c2, .int .u32 c3, .int .u32 c4, .int .u32 c5, .int .u32 c6, .int .u32 c7, .int .u32 c8, .int .u32 c9, .int .u32 c10, .int .u32 c11] 37)).alloc (.cells #[.int .u32 0, .int .u32 0, .int .u32 0, .int .u32 0, .int .u32 0, .int .u32 0, .int .u32 0, .int .u32 0, .int .u32 0, .int .u32 0] 72))
    ⟨w.heap.size, 0, none⟩ 12 12 #[.int .u32 0, .int .u32 0, .int .u32 0, .int .u32 0, .int .u32 0, .int .u32 0, .int .u32 0, .int .u32 0, .int .u32 pc, .int .u32 (Fl.fl c8 c9 c10 c11)] 72 26 26 3 22
    [.int .u32 c0, .int .u32 c1, .int .u32 c2, .int .u32 c3, .int .u32 c4, .int .u32 c5, .int .u32 c6, .int .u32 c7] 8 8 Try.underlying26 (by kernel_rfl) rfl
    (by intro j v hj; match j, hj with
      | 0, hj | 1, hj | 2, hj | 3, hj | 4, hj | 5, hj | 6, hj | 7, hj => simp at hj; subst hj; simp [Addr.add, go_sem]) (by simp) (by simp [Value.oneCell'])
  simp only [World.size_alloc, List.length_cons, List.length_nil, List.drop_succ_cons, List.drop_zero, List.cons_append, List.nil_append, Nat.reduceAdd, goInt] at hcp
  go_enter Try.func170, Try.ntmps170
  go_wp2_with (go_at_call 125; refine (Fl.flags_any _ _ _ _ _ (by omega) (by omega) (by omega) (by omega) (by omega) (by omega)).mono ?_; rintro e w' ⟨rfl, rfl⟩)
  go_region
  go_wp2
  refine bodyPost_ret (v := .agg #[.int .u32 c0, .int .u32 c1, .int .u32 c2, .int .u32 c3, .int .u32 c4, .int .u32 c5, .int .u32 c6, .int .u32 c7, .int .u32 pc, .int .u32 (Fl.fl c8 c9 c10 c11)]) (by simp [results, Try.results170, go_sem]) rfl ⟨rfl, ?_⟩
  clear hcp
  repeat (first | exact Below.refl _ _ | apply Below.drew | (refine Below.alloc ?_ (by simp; try omega) _))
set_option maxRecDepth 100000 in
set_option maxHeartbeats 4000000 in
theorem rstate_any (c0 c1 c2 c3 c4 c5 c6 c7 c8 c9 c10 c11 pc : Int) (w : World) (h8 : 0 ≤ c8) (g8 : c8 < 4294967296) (h9 : 0 ≤ c9) (g9 : c9 < 4294967296) (h10 : 0 ≤ c10) (g10 : c10 < 4294967296) (h11 : 0 ≤ c11) (g11 : c11 < 4294967296) :
    Calls Try.prog 43 #[.agg #[.int .u32 c0, .int .u32 c1, .int .u32 c2, .int .u32 c3, .int .u32 c4, .int .u32 c5, .int .u32 c6, .int .u32 c7, .int .u32 c8, .int .u32 c9, .int .u32 c10, .int .u32 c11], .int .u32 pc] w
      fun e w' => e = .returned (.agg #[.int .u32 c0, .int .u32 c1, .int .u32 c2, .int .u32 c3, .int .u32 c4, .int .u32 c5, .int .u32 c6, .int .u32 c7, .int .u32 pc, .int .u32 (Fl.fl c8 c9 c10 c11)]) ∧ Below w.heap.size w w' := by
  go_enter Try.func43, Try.ntmps43
  go_wp2_with (go_at_call 84; refine (Fl.rflags_any _ _ _ _ _ (by omega) (by omega) (by omega) (by omega) (by omega) (by omega)).mono ?_; rintro e w' ⟨rfl, rfl⟩)
  refine wp_loop_rounds 9 ?_
  repeat (rw [rounds_succ]; go_wp2)
  refine bodyPost_ret (v := .agg #[.int .u32 c0, .int .u32 c1, .int .u32 c2, .int .u32 c3, .int .u32 c4, .int .u32 c5, .int .u32 c6, .int .u32 c7, .int .u32 pc, .int .u32 (Fl.fl c8 c9 c10 c11)]) (by simp [results, Try.results43, go_sem]) rfl ⟨rfl, ?_⟩
  repeat (first | exact Below.refl _ _ | apply Below.drew | (refine Below.alloc ?_ (by simp; try omega) _))
end Go.Proofs.Ytcjcmnnhmajocab.Ir
