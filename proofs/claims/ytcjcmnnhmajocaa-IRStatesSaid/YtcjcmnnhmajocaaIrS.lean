/- States as contexts and back: ir.Enter, ir.State and the reference's: contracts. -/
import Derived.Test.YtcjcmnnhmajocaaFlagsB
import Derived.Test.YtcjcmnnhmajocaaFlagsT
import Derived.Test.YtcjcmnnhmajocaaKitB
namespace Go.Proofs.Ytcjcmnnhmajocaa.Ir
open Go.RowKit Kt
set_option linter.unusedVariables false
/-- a state's cells -/
def stC (r0 r1 r2 r3 r4 r5 r6 r7 pc f : Int) : Array Value := #[.int .u32 r0, .int .u32 r1, .int .u32 r2, .int .u32 r3, .int .u32 r4, .int .u32 r5, .int .u32 r6, .int .u32 r7, .int .u32 pc, .int .u32 f]
set_option maxRecDepth 100000 in
set_option maxHeartbeats 4000000 in
theorem enter_any (r0 r1 r2 r3 r4 r5 r6 r7 pc f : Int) (w : World) (h : 0 ≤ f) (g : f < 4294967296) :
    Calls Try.prog 20 #[.agg #[.int .u32 r0, .int .u32 r1, .int .u32 r2, .int .u32 r3, .int .u32 r4, .int .u32 r5, .int .u32 r6, .int .u32 r7, .int .u32 pc, .int .u32 f]] w
      fun e w' => e = .returned (.agg #[.int .u32 r0, .int .u32 r1, .int .u32 r2, .int .u32 r3, .int .u32 r4, .int .u32 r5, .int .u32 r6, .int .u32 r7, .int .u32 0, .int .u32 0, .int .u32 0, .int .u32 (f % 16)]) ∧ Below w.heap.size w w' := by
  have e1 := Fl.mask15 f h g
  have hcp := copy_new (P := Try.prog) ((w.alloc (.cells #[.int .u32 r0, .int .u32 r1, .int .u32 r2, .int .u32 r3, .int .u32 r4, .int .u32 r5, .int .u32 r6, .int .u32 r7, .int .u32 pc, .int .u32 f] 37)).alloc (.cells #[.int .u32 0, .int .u32 0, .int .u32 0, .int .u32 0, .int .u32 0, .int .u32 0, .int .u32 0, .int .u32 0, .int .u32 0, .int .u32 0, .int .u32 0, .int .u32 0] 39))
    ⟨w.heap.size, 0, none⟩ 8 8 #[.int .u32 0, .int .u32 0, .int .u32 0, .int .u32 0, .int .u32 0, .int .u32 0, .int .u32 0, .int .u32 0, .int .u32 0, .int .u32 0, .int .u32 0, .int .u32 0] 39 43 43 3 25
    [.int .u32 r0, .int .u32 r1, .int .u32 r2, .int .u32 r3, .int .u32 r4, .int .u32 r5, .int .u32 r6, .int .u32 r7] 12 12 Try.underlying43 (by kernel_rfl) rfl
    (by intro j v hj; match j, hj with
      | 0, hj | 1, hj | 2, hj | 3, hj | 4, hj | 5, hj | 6, hj | 7, hj => simp at hj; subst hj; simp [Addr.add, go_sem]) (by simp) (by simp [Value.oneCell'])
  simp only [World.size_alloc, List.length_cons, List.length_nil, List.drop_succ_cons, List.drop_zero, List.cons_append, List.nil_append, Nat.reduceAdd, goInt] at hcp
  go_enter Try.func20, Try.ntmps20
  go_wp2
  go_region
  go_wp2
  refine bodyPost_ret (v := .agg #[.int .u32 r0, .int .u32 r1, .int .u32 r2, .int .u32 r3, .int .u32 r4, .int .u32 r5, .int .u32 r6, .int .u32 r7, .int .u32 0, .int .u32 0, .int .u32 0, .int .u32 (f % 16)]) (by simp [results, Try.results20, go_sem]) rfl ⟨rfl, ?_⟩
  clear hcp
  repeat (first | exact Below.refl _ _ | apply Below.drew | (refine Below.alloc ?_ (by simp; try omega) _))

set_option maxRecDepth 100000 in
set_option maxHeartbeats 4000000 in
theorem renter_any (r0 r1 r2 r3 r4 r5 r6 r7 pc f : Int) (w : World) (h : 0 ≤ f) (g : f < 4294967296) :
    Calls Try.prog 21 #[.agg #[.int .u32 r0, .int .u32 r1, .int .u32 r2, .int .u32 r3, .int .u32 r4, .int .u32 r5, .int .u32 r6, .int .u32 r7, .int .u32 pc, .int .u32 f]] w
      fun e w' => e = .returned (.agg #[.int .u32 r0, .int .u32 r1, .int .u32 r2, .int .u32 r3, .int .u32 r4, .int .u32 r5, .int .u32 r6, .int .u32 r7, .int .u32 0, .int .u32 0, .int .u32 0, .int .u32 (f % 16)]) ∧ Below w.heap.size w w' := by
  have i0 : ∀ w : World, (Instr.index 35 (.agg #[.int .u32 r0, .int .u32 r1, .int .u32 r2, .int .u32 r3, .int .u32 r4, .int .u32 r5, .int .u32 r6, .int .u32 r7]) (.int .i64 0)).run Try.prog w = .ok (.int .u32 r0) w := fun _ => by kernel_rfl
  have i1 : ∀ w : World, (Instr.index 35 (.agg #[.int .u32 r0, .int .u32 r1, .int .u32 r2, .int .u32 r3, .int .u32 r4, .int .u32 r5, .int .u32 r6, .int .u32 r7]) (.int .i64 1)).run Try.prog w = .ok (.int .u32 r1) w := fun _ => by kernel_rfl
  have i2 : ∀ w : World, (Instr.index 35 (.agg #[.int .u32 r0, .int .u32 r1, .int .u32 r2, .int .u32 r3, .int .u32 r4, .int .u32 r5, .int .u32 r6, .int .u32 r7]) (.int .i64 2)).run Try.prog w = .ok (.int .u32 r2) w := fun _ => by kernel_rfl
  have i3 : ∀ w : World, (Instr.index 35 (.agg #[.int .u32 r0, .int .u32 r1, .int .u32 r2, .int .u32 r3, .int .u32 r4, .int .u32 r5, .int .u32 r6, .int .u32 r7]) (.int .i64 3)).run Try.prog w = .ok (.int .u32 r3) w := fun _ => by kernel_rfl
  have i4 : ∀ w : World, (Instr.index 35 (.agg #[.int .u32 r0, .int .u32 r1, .int .u32 r2, .int .u32 r3, .int .u32 r4, .int .u32 r5, .int .u32 r6, .int .u32 r7]) (.int .i64 4)).run Try.prog w = .ok (.int .u32 r4) w := fun _ => by kernel_rfl
  have i5 : ∀ w : World, (Instr.index 35 (.agg #[.int .u32 r0, .int .u32 r1, .int .u32 r2, .int .u32 r3, .int .u32 r4, .int .u32 r5, .int .u32 r6, .int .u32 r7]) (.int .i64 5)).run Try.prog w = .ok (.int .u32 r5) w := fun _ => by kernel_rfl
  have i6 : ∀ w : World, (Instr.index 35 (.agg #[.int .u32 r0, .int .u32 r1, .int .u32 r2, .int .u32 r3, .int .u32 r4, .int .u32 r5, .int .u32 r6, .int .u32 r7]) (.int .i64 6)).run Try.prog w = .ok (.int .u32 r6) w := fun _ => by kernel_rfl
  have i7 : ∀ w : World, (Instr.index 35 (.agg #[.int .u32 r0, .int .u32 r1, .int .u32 r2, .int .u32 r3, .int .u32 r4, .int .u32 r5, .int .u32 r6, .int .u32 r7]) (.int .i64 7)).run Try.prog w = .ok (.int .u32 r7) w := fun _ => by kernel_rfl
  go_enter Try.func21, Try.ntmps21
  go_wp2
  refine wp_loop_rounds 9 ?_
  repeat (rw [rounds_succ]; go_wp2)
  refine bodyPost_ret (v := .agg #[.int .u32 r0, .int .u32 r1, .int .u32 r2, .int .u32 r3, .int .u32 r4, .int .u32 r5, .int .u32 r6, .int .u32 r7, .int .u32 0, .int .u32 0, .int .u32 0, .int .u32 (f % 16)]) (by simp [results, Try.results21, go_sem]) rfl ⟨rfl, ?_⟩
  repeat (first | exact Below.refl _ _ | apply Below.drew | (refine Below.alloc ?_ (by simp; try omega) _))
set_option maxRecDepth 100000 in
set_option maxHeartbeats 4000000 in
theorem state_any (c0 c1 c2 c3 c4 c5 c6 c7 c8 c9 c10 c11 pc : Int) (w : World) (h8 : 0 ≤ c8) (g8 : c8 < 4294967296) (h9 : 0 ≤ c9) (g9 : c9 < 4294967296) (h10 : 0 ≤ c10) (g10 : c10 < 4294967296) (h11 : 0 ≤ c11) (g11 : c11 < 4294967296) :
    Calls Try.prog 22 #[.agg #[.int .u32 c0, .int .u32 c1, .int .u32 c2, .int .u32 c3, .int .u32 c4, .int .u32 c5, .int .u32 c6, .int .u32 c7, .int .u32 c8, .int .u32 c9, .int .u32 c10, .int .u32 c11], .int .u32 pc] w
      fun e w' => e = .returned (.agg #[.int .u32 c0, .int .u32 c1, .int .u32 c2, .int .u32 c3, .int .u32 c4, .int .u32 c5, .int .u32 c6, .int .u32 c7, .int .u32 pc, .int .u32 (Fl.fl c8 c9 c10 c11)]) ∧ Below w.heap.size w w' := by
  have hcp := copy_new (P := Try.prog) ((w.alloc (.cells #[.int .u32 c0, .int .u32 c1, .int .u32 c2, .int .u32 c3, .int .u32 c4, .int .u32 c5, .int .u32 c6, .int .u32 c7, .int .u32 c8, .int .u32 c9, .int .u32 c10, .int .u32 c11] 39)).alloc (.cells #[.int .u32 0, .int .u32 0, .int .u32 0, .int .u32 0, .int .u32 0, .int .u32 0, .int .u32 0, .int .u32 0, .int .u32 0, .int .u32 0] 37))
    ⟨w.heap.size, 0, none⟩ 12 12 #[.int .u32 0, .int .u32 0, .int .u32 0, .int .u32 0, .int .u32 0, .int .u32 0, .int .u32 0, .int .u32 0, .int .u32 pc, .int .u32 (Fl.fl c8 c9 c10 c11)] 37 43 43 3 25
    [.int .u32 c0, .int .u32 c1, .int .u32 c2, .int .u32 c3, .int .u32 c4, .int .u32 c5, .int .u32 c6, .int .u32 c7] 8 8 Try.underlying43 (by kernel_rfl) rfl
    (by intro j v hj; match j, hj with
      | 0, hj | 1, hj | 2, hj | 3, hj | 4, hj | 5, hj | 6, hj | 7, hj => simp at hj; subst hj; simp [Addr.add, go_sem]) (by simp) (by simp [Value.oneCell'])
  simp only [World.size_alloc, List.length_cons, List.length_nil, List.drop_succ_cons, List.drop_zero, List.cons_append, List.nil_append, Nat.reduceAdd, goInt] at hcp
  go_enter Try.func22, Try.ntmps22
  go_wp2_with (go_at_call 46; refine (Fl.flags_any _ _ _ _ _ (by omega) (by omega) (by omega) (by omega) (by omega) (by omega)).mono ?_; rintro e w' ⟨rfl, rfl⟩)
  go_region
  go_wp2
  refine bodyPost_ret (v := .agg #[.int .u32 c0, .int .u32 c1, .int .u32 c2, .int .u32 c3, .int .u32 c4, .int .u32 c5, .int .u32 c6, .int .u32 c7, .int .u32 pc, .int .u32 (Fl.fl c8 c9 c10 c11)]) (by simp [results, Try.results22, go_sem]) rfl ⟨rfl, ?_⟩
  clear hcp
  repeat (first | exact Below.refl _ _ | apply Below.drew | (refine Below.alloc ?_ (by simp; try omega) _))
set_option maxRecDepth 100000 in
set_option maxHeartbeats 4000000 in
theorem rstate_any (c0 c1 c2 c3 c4 c5 c6 c7 c8 c9 c10 c11 pc : Int) (w : World) (h8 : 0 ≤ c8) (g8 : c8 < 4294967296) (h9 : 0 ≤ c9) (g9 : c9 < 4294967296) (h10 : 0 ≤ c10) (g10 : c10 < 4294967296) (h11 : 0 ≤ c11) (g11 : c11 < 4294967296) :
    Calls Try.prog 23 #[.agg #[.int .u32 c0, .int .u32 c1, .int .u32 c2, .int .u32 c3, .int .u32 c4, .int .u32 c5, .int .u32 c6, .int .u32 c7, .int .u32 c8, .int .u32 c9, .int .u32 c10, .int .u32 c11], .int .u32 pc] w
      fun e w' => e = .returned (.agg #[.int .u32 c0, .int .u32 c1, .int .u32 c2, .int .u32 c3, .int .u32 c4, .int .u32 c5, .int .u32 c6, .int .u32 c7, .int .u32 pc, .int .u32 (Fl.fl c8 c9 c10 c11)]) ∧ Below w.heap.size w w' := by
  go_enter Try.func23, Try.ntmps23
  go_wp2_with (go_at_call 47; refine (Fl.rflags_any _ _ _ _ _ (by omega) (by omega) (by omega) (by omega) (by omega) (by omega)).mono ?_; rintro e w' ⟨rfl, rfl⟩)
  refine wp_loop_rounds 9 ?_
  repeat (rw [rounds_succ]; go_wp2)
  refine bodyPost_ret (v := .agg #[.int .u32 c0, .int .u32 c1, .int .u32 c2, .int .u32 c3, .int .u32 c4, .int .u32 c5, .int .u32 c6, .int .u32 c7, .int .u32 pc, .int .u32 (Fl.fl c8 c9 c10 c11)]) (by simp [results, Try.results23, go_sem]) rfl ⟨rfl, ?_⟩
  repeat (first | exact Below.refl _ _ | apply Below.drew | (refine Below.alloc ?_ (by simp; try omega) _))
end Go.Proofs.Ytcjcmnnhmajocaa.Ir
