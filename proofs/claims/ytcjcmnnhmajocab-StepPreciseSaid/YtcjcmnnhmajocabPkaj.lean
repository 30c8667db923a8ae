/- guest.rowOf of every byte; guest.shape.size; guest.Size. -/
import Derived.Test.YtcjcmnnhmajocabProg
import Derived.Below
import Derived.WalkKit
import Derived.LoopN
import Derived.Lib.Hide
import Derived.Outline
import Derived.Handy
import Derived.Deep.DeepCutAuto
import Derived.RegionTactic
namespace Go.Proofs.Ytcjcmnnhmajocab.Gu
open Go.RowKit
set_option linter.unusedVariables false
set_option linter.unusedSimpArgs false
structure Rw where
  op : Int
  sh : Int
  lo : Int
  fi : Int
def Rw.cells (c : Rw) : Array Value := #[.int .i64 c.op, .int .i64 c.sh, .int .i64 c.lo, .int .i64 c.fi]
def stp (f n o s i b : Int) (c : Rw) : Rw := if f ≤ b ∧ b < f + n then ⟨o, s, b - f, i⟩ else c
/-- block x holds the byte, block r the row so far -/
def St (x r : Nat) (b : Int) (c : Rw) (w : World) : Prop := w.heap[x]? = some (.cells #[.int .i64 b] 3 (0, 0)) ∧ w.heap[r]? = some (.cells c.cells 253 (0, 0)) ∧ x ≠ r
set_option maxHeartbeats 1000000 in
theorem in_any (f n o s i b : Int) (c : Rw) (x r B : Nat) (w : World) (hf : 0 ≤ f ∧ f < 1000) (hn : 0 ≤ n ∧ n < 1000) (hb : 0 ≤ b ∧ b < 256) (hx : B ≤ x) (hr : B ≤ r) (h : St x r b c w) :
    Calls Try.prog 201 #[.int .i64 f, .int .i64 n, .int .i64 o, .int .i64 s, .int .i64 i, .pointer (some ⟨x, 0, none⟩), .pointer (some ⟨r, 0, none⟩)] w fun e w' => e = .returned (.tuple #[]) ∧ St x r b (stp f n o s i b c) w' ∧ Below B w w' := by
  obtain ⟨h1, h2, h3⟩ := h
  have cx := cell_of_row w x 0 _ _ _ h1
  have c0 := cell_of_row w r 0 _ _ _ h2
  have c1 := cell_of_row w r 1 _ _ _ h2
  have c2 := cell_of_row w r 2 _ _ _ h2
  have c3 := cell_of_row w r 3 _ _ _ h2
  have z0 := frozen_of_row w r 0 _ _ h2
  have z1 := frozen_of_row w r 1 _ _ h2
  have z2 := frozen_of_row w r 2 _ _ h2
  have z3 := frozen_of_row w r 3 _ _ h2
  simp only [Rw.cells, List.getElem?_toArray, List.getElem?_cons_zero, List.getElem?_cons_succ] at cx c0 c1 c2 c3
  obtain ⟨f0, f1⟩ := hf
  obtain ⟨n0, n1⟩ := hn
  obtain ⟨b0, b1⟩ := hb
  have H1 := Lib.hid h1
  have H2 := Lib.hid h2
  clear h1 h2
  by_cases hc : f ≤ b ∧ b < f + n
  · have e : stp f n o s i b c = ⟨o, s, b - f, i⟩ := if_pos hc
    rw [e]
    clear e
    obtain ⟨k0, k1⟩ := hc
    go_enter Try.func201, Try.ntmps201
    go_wp2
    go_end0
    refine ⟨rfl, ⟨?_, ?_, h3⟩, ?_⟩
    · exact (heap_setCell_other _ _ _ _ h3).trans ((heap_setCell_other _ _ _ _ h3).trans ((heap_setCell_other _ _ _ _ h3).trans ((heap_setCell_other _ _ _ _ h3).trans H1.out)))
    · exact heap_setCell_same _ _ _ _ _ _ (heap_setCell_same _ _ _ _ _ _ (heap_setCell_same _ _ _ _ _ _ (heap_setCell_same _ _ _ _ _ _ H2.out)))
    · exact ((((Below.refl _ _).setCell hr _).setCell hr _).setCell hr _).setCell hr _
  · have e : stp f n o s i b c = c := if_neg hc
    rw [e]
    clear e
    by_cases k0 : f ≤ b
    · have k1 : ¬ b < f + n := by omega
      go_enter Try.func201, Try.ntmps201
      go_wp2
      go_end0
      exact ⟨rfl, ⟨H1.out, H2.out, h3⟩, Below.refl _ _⟩
    · go_enter Try.func201, Try.ntmps201
      go_wp2
      go_end0
      exact ⟨rfl, ⟨H1.out, H2.out, h3⟩, Below.refl _ _⟩
def z4 : Rw := ⟨0, 0, 0, 0⟩
/-- what the calls leave, one behind the other -/
def rowBig (b : Int) : Rw :=
  stp 165 3 31 8 3 b (stp 160 5 30 8 3 b (stp 144 16 29 10 3 b (stp 128 16 28 9 3 b (stp 112 16 27 6 3 b (stp 105 1 22 6 0 b (stp 104 1 21 7 0 b
    (stp 109 1 26 8 0 b (stp 96 8 20 1 1 b (stp 108 1 25 8 0 b (stp 88 8 19 1 1 b (stp 107 1 24 8 0 b (stp 80 8 18 1 1 b (stp 106 1 23 8 0 b (stp 72 8 17 1 1 b
      (stp 64 8 16 11 1 b (stp 56 8 15 1 1 b (stp 48 8 14 1 2 b (stp 32 16 13 4 3 b (stp 16 16 12 3 3 b z4)))))))))))))))))))
theorem blk3 (w : World) (X Y Z : Array Value) (t u v : TypeId) :
    (((w.alloc (.cells X t)).alloc (.cells Y u)).alloc (.cells Z v)).heap[w.heap.size]? = some (.cells X t (0, 0)) ∧ (((w.alloc (.cells X t)).alloc (.cells Y u)).alloc (.cells Z v)).heap[w.heap.size + 1]? = some (.cells Y u (0, 0)) ∧
      (((w.alloc (.cells X t)).alloc (.cells Y u)).alloc (.cells Z v)).heap[w.heap.size + 1 + 1]? = some (.cells Z v (0, 0)) ∧ Below w.heap.size w (((w.alloc (.cells X t)).alloc (.cells Y u)).alloc (.cells Z v)) ∧
        w.heap.size + 1 + 1 < (((w.alloc (.cells X t)).alloc (.cells Y u)).alloc (.cells Z v)).heap.size := by
  have e1 : (w.alloc (.cells X t)).heap.size = w.heap.size + 1 := by simp
  have e2 : ((w.alloc (.cells X t)).alloc (.cells Y u)).heap.size = w.heap.size + 1 + 1 := by simp
  refine ⟨?_, ?_, ?_, (((Below.refl _ _).alloc (Nat.le_refl _) _).alloc (by simp) _).alloc (by simp; omega) _, by simp⟩
  · exact (Below.heap_alloc _ _ _ (by simp; omega)).trans ((Below.heap_alloc _ _ _ (by simp)).trans (heap_alloc_new w _))
  · have := heap_alloc_new (w.alloc (.cells X t)) (.cells Y u)
    rw [e1] at this
    exact (Below.heap_alloc _ _ _ (by simp)).trans this
  · have := heap_alloc_new ((w.alloc (.cells X t)).alloc (.cells Y u)) (.cells Z v)
    rw [e2] at this
    exact this
set_option maxHeartbeats 8000000 in
theorem row_big (b : Int) (h1 : 12 ≤ b) (h2 : b < 256) (w : World) : Calls Try.prog 178 #[.int .u8 b] w fun e w' => e = .returned (.agg (rowBig b).cells) ∧ Below w.heap.size w w' := by
  have hbb : 0 ≤ b ∧ b < 256 := ⟨by omega, h2⟩
  generalize hc : rowBig b = c
  obtain ⟨q0, q1, q2, q3⟩ := c
  have HC := Lib.hid hc
  clear hc
  unfold Rw.cells
  dsimp only
  go_enter Try.func178, Try.ntmps178
  go_upto_region 7 with fail
  obtain ⟨g0, g1, g2, g3, g4⟩ := blk3 w z4.cells #[.int .i64 b] z4.cells 253 3 253
  have hst : St (w.heap.size + 1) (w.heap.size + 1 + 1) b z4 (((w.alloc (.cells z4.cells 253)).alloc (.cells #[.int .i64 b] 3)).alloc (.cells z4.cells 253)) := ⟨g1, g2, by omega⟩
  change Code.wp _ _ _ _ (((w.alloc (.cells z4.cells 253)).alloc (.cells #[.int .i64 b] 3)).alloc (.cells z4.cells 253))
  generalize ((w.alloc (.cells z4.cells 253)).alloc (.cells #[.int .i64 b] 3)).alloc (.cells z4.cells 253) = wA at g0 g3 g4 hst ⊢
  have hx : w.heap.size + 1 ≤ w.heap.size + 1 := Nat.le_refl _
  have hr : w.heap.size + 1 ≤ w.heap.size + 1 + 1 := Nat.le_succ _
  have hlt : w.heap.size < w.heap.size + 1 := by omega
  have G0 := Lib.hid g0
  have G3 := Lib.hid g3
  clear g0 g1 g2 g3
  generalize hz : w.heap.size + 1 + 1 = r at hst hr g4 ⊢
  generalize hy : w.heap.size + 1 = x at hst hr hx hz hlt ⊢
  have HY := Lib.hid hy
  clear hy hz
  have hbA := Below.refl x wA
  go_wp2_with (go_at_call 201; refine (in_any _ _ _ _ _ b _ x r x _ (by omega) (by omega) hbb hx hr (by assumption)).mono ?_; rintro e w2 ⟨rfl, hst, hbT⟩; have hbA : Below x wA w2 := Below.trans (by assumption) hbT)
  refine wp_loop_rounds 5 ?_
  rw [rounds_succ]
  go_wp2_with (go_at_call 201; refine (in_any _ _ _ _ _ b _ x r x _ (by omega) (by omega) hbb hx hr (by assumption)).mono ?_; rintro e w2 ⟨rfl, hst, hbT⟩; have hbA : Below x wA w2 := Below.trans (by assumption) hbT)
  rw [rounds_succ]
  go_wp2_with (go_at_call 201; refine (in_any _ _ _ _ _ b _ x r x _ (by omega) (by omega) hbb hx hr (by assumption)).mono ?_; rintro e w2 ⟨rfl, hst, hbT⟩; have hbA : Below x wA w2 := Below.trans (by assumption) hbT)
  rw [rounds_succ]
  go_wp2_with (go_at_call 201; refine (in_any _ _ _ _ _ b _ x r x _ (by omega) (by omega) hbb hx hr (by assumption)).mono ?_; rintro e w2 ⟨rfl, hst, hbT⟩; have hbA : Below x wA w2 := Below.trans (by assumption) hbT)
  rw [rounds_succ]
  go_wp2_with (go_at_call 201; refine (in_any _ _ _ _ _ b _ x r x _ (by omega) (by omega) hbb hx hr (by assumption)).mono ?_; rintro e w2 ⟨rfl, hst, hbT⟩; have hbA : Below x wA w2 := Below.trans (by assumption) hbT)
  rw [rounds_succ]
  go_upto_region 25 with (go_at_call 201; refine (in_any _ _ _ _ _ b _ x r x _ (by omega) (by omega) hbb hx hr (by assumption)).mono ?_; rintro e w2 ⟨rfl, hst, hbT⟩; have hbA : Below x wA w2 := Below.trans (by assumption) hbT)
  have hfin : St x r b ⟨q0, q1, q2, q3⟩ w2 := by rw [← HC.out]; exact hst
  have hall := hbA
  have gr := (hall.block w.heap.size hlt).trans G0.out
  have hb0 : Below w.heap.size w w2 := G3.out.trans (hall.mono (by omega))
  clear hst hbT hbA
  have k0 := cell_of_row w2 r 0 _ _ _ hfin.2.1
  have k1 := cell_of_row w2 r 1 _ _ _ hfin.2.1
  have k2 := cell_of_row w2 r 2 _ _ _ hfin.2.1
  have k3 := cell_of_row w2 r 3 _ _ _ hfin.2.1
  have m0 := cell_of_row w2 w.heap.size 0 _ _ _ gr
  have m1 := cell_of_row w2 w.heap.size 1 _ _ _ gr
  have m2 := cell_of_row w2 w.heap.size 2 _ _ _ gr
  have m3 := cell_of_row w2 w.heap.size 3 _ _ _ gr
  have n0 := frozen_of_row w2 w.heap.size 0 _ _ gr
  have n1 := frozen_of_row w2 w.heap.size 1 _ _ gr
  have n2 := frozen_of_row w2 w.heap.size 2 _ _ gr
  have n3 := frozen_of_row w2 w.heap.size 3 _ _ gr
  have hsz : w.heap.size < w2.heap.size := by
    have := hb0.size
    have := hall.size
    omega
  simp only [Rw.cells, z4, List.getElem?_toArray, List.getElem?_cons_zero, List.getElem?_cons_succ] at k0 k1 k2 k3 m0 m1 m2 m3
  clear hfin hall gr
  go_wp2
  refine bodyPost_ret (v := .agg #[.int .i64 q0, .int .i64 q1, .int .i64 q2, .int .i64 q3]) (by simp [results, Try.results178, go_sem, m0, m1, m2, m3]) rfl ⟨rfl, ?_⟩
  exact (((hb0.setCell (Nat.le_refl _) _).setCell (Nat.le_refl _) _).setCell (Nat.le_refl _) _).setCell (Nat.le_refl _) _
end Go.Proofs.Ytcjcmnnhmajocab.Gu
namespace Go.Proofs.Ytcjcmnnhmajocab.Gu
open Go.RowKit
set_option linter.unusedVariables false
set_option linter.unusedSimpArgs false
set_option maxHeartbeats 8000000 in
theorem row_0 (w : World) : Calls Try.prog 178 #[.int .u8 0] w fun e w' => e = .returned (.agg #[.int .i64 0, .int .i64 1, .int .i64 0, .int .i64 0]) ∧ Below w.heap.size w w' := by
  go_enter Try.func178, Try.ntmps178
  go_wp2
  go_region
  all_goals go_wp2
  all_goals refine bodyPost_ret (v := .agg #[.int .i64 0, .int .i64 1, .int .i64 0, .int .i64 0]) (by simp [results, Try.results178, go_sem]) rfl ⟨rfl, ?_⟩
  all_goals go_grown
set_option maxHeartbeats 8000000 in
theorem row_1 (w : World) : Calls Try.prog 178 #[.int .u8 1] w fun e w' => e = .returned (.agg #[.int .i64 1, .int .i64 1, .int .i64 0, .int .i64 0]) ∧ Below w.heap.size w w' := by
  go_enter Try.func178, Try.ntmps178
  go_wp2
  go_region
  all_goals go_wp2
  all_goals refine bodyPost_ret (v := .agg #[.int .i64 1, .int .i64 1, .int .i64 0, .int .i64 0]) (by simp [results, Try.results178, go_sem]) rfl ⟨rfl, ?_⟩
  all_goals go_grown
set_option maxHeartbeats 8000000 in
theorem row_2 (w : World) : Calls Try.prog 178 #[.int .u8 2] w fun e w' => e = .returned (.agg #[.int .i64 2, .int .i64 1, .int .i64 0, .int .i64 0]) ∧ Below w.heap.size w w' := by
  go_enter Try.func178, Try.ntmps178
  go_wp2
  go_region
  all_goals go_wp2
  all_goals refine bodyPost_ret (v := .agg #[.int .i64 2, .int .i64 1, .int .i64 0, .int .i64 0]) (by simp [results, Try.results178, go_sem]) rfl ⟨rfl, ?_⟩
  all_goals go_grown
set_option maxHeartbeats 8000000 in
theorem row_3 (w : World) : Calls Try.prog 178 #[.int .u8 3] w fun e w' => e = .returned (.agg #[.int .i64 3, .int .i64 1, .int .i64 0, .int .i64 0]) ∧ Below w.heap.size w w' := by
  go_enter Try.func178, Try.ntmps178
  go_wp2
  go_region
  all_goals go_wp2
  all_goals refine bodyPost_ret (v := .agg #[.int .i64 3, .int .i64 1, .int .i64 0, .int .i64 0]) (by simp [results, Try.results178, go_sem]) rfl ⟨rfl, ?_⟩
  all_goals go_grown
set_option maxHeartbeats 8000000 in
theorem row_4 (w : World) : Calls Try.prog 178 #[.int .u8 4] w fun e w' => e = .returned (.agg #[.int .i64 4, .int .i64 1, .int .i64 0, .int .i64 0]) ∧ Below w.heap.size w w' := by
  go_enter Try.func178, Try.ntmps178
  go_wp2
  go_region
  all_goals go_wp2
  all_goals refine bodyPost_ret (v := .agg #[.int .i64 4, .int .i64 1, .int .i64 0, .int .i64 0]) (by simp [results, Try.results178, go_sem]) rfl ⟨rfl, ?_⟩
  all_goals go_grown
set_option maxHeartbeats 8000000 in
theorem row_5 (w : World) : Calls Try.prog 178 #[.int .u8 5] w fun e w' => e = .returned (.agg #[.int .i64 5, .int .i64 2, .int .i64 0, .int .i64 0]) ∧ Below w.heap.size w w' := by
  go_enter Try.func178, Try.ntmps178
  go_wp2
  go_region
  all_goals go_wp2
  all_goals refine bodyPost_ret (v := .agg #[.int .i64 5, .int .i64 2, .int .i64 0, .int .i64 0]) (by simp [results, Try.results178, go_sem]) rfl ⟨rfl, ?_⟩
  all_goals go_grown
set_option maxHeartbeats 8000000 in
theorem row_6 (w : World) : Calls Try.prog 178 #[.int .u8 6] w fun e w' => e = .returned (.agg #[.int .i64 6, .int .i64 3, .int .i64 0, .int .i64 0]) ∧ Below w.heap.size w w' := by
  go_enter Try.func178, Try.ntmps178
  go_wp2
  go_region
  all_goals go_wp2
  all_goals refine bodyPost_ret (v := .agg #[.int .i64 6, .int .i64 3, .int .i64 0, .int .i64 0]) (by simp [results, Try.results178, go_sem]) rfl ⟨rfl, ?_⟩
  all_goals go_grown
set_option maxHeartbeats 8000000 in
theorem row_7 (w : World) : Calls Try.prog 178 #[.int .u8 7] w fun e w' => e = .returned (.agg #[.int .i64 7, .int .i64 4, .int .i64 0, .int .i64 0]) ∧ Below w.heap.size w w' := by
  go_enter Try.func178, Try.ntmps178
  go_wp2
  go_region
  all_goals go_wp2
  all_goals refine bodyPost_ret (v := .agg #[.int .i64 7, .int .i64 4, .int .i64 0, .int .i64 0]) (by simp [results, Try.results178, go_sem]) rfl ⟨rfl, ?_⟩
  all_goals go_grown
set_option maxHeartbeats 8000000 in
theorem row_8 (w : World) : Calls Try.prog 178 #[.int .u8 8] w fun e w' => e = .returned (.agg #[.int .i64 8, .int .i64 4, .int .i64 0, .int .i64 0]) ∧ Below w.heap.size w w' := by
  go_enter Try.func178, Try.ntmps178
  go_wp2
  go_region
  all_goals go_wp2
  all_goals refine bodyPost_ret (v := .agg #[.int .i64 8, .int .i64 4, .int .i64 0, .int .i64 0]) (by simp [results, Try.results178, go_sem]) rfl ⟨rfl, ?_⟩
  all_goals go_grown
set_option maxHeartbeats 8000000 in
theorem row_9 (w : World) : Calls Try.prog 178 #[.int .u8 9] w fun e w' => e = .returned (.agg #[.int .i64 9, .int .i64 5, .int .i64 0, .int .i64 0]) ∧ Below w.heap.size w w' := by
  go_enter Try.func178, Try.ntmps178
  go_wp2
  go_region
  all_goals go_wp2
  all_goals refine bodyPost_ret (v := .agg #[.int .i64 9, .int .i64 5, .int .i64 0, .int .i64 0]) (by simp [results, Try.results178, go_sem]) rfl ⟨rfl, ?_⟩
  all_goals go_grown
set_option maxHeartbeats 8000000 in
theorem row_10 (w : World) : Calls Try.prog 178 #[.int .u8 10] w fun e w' => e = .returned (.agg #[.int .i64 10, .int .i64 5, .int .i64 0, .int .i64 0]) ∧ Below w.heap.size w w' := by
  go_enter Try.func178, Try.ntmps178
  go_wp2
  go_region
  all_goals go_wp2
  all_goals refine bodyPost_ret (v := .agg #[.int .i64 10, .int .i64 5, .int .i64 0, .int .i64 0]) (by simp [results, Try.results178, go_sem]) rfl ⟨rfl, ?_⟩
  all_goals go_grown
set_option maxHeartbeats 8000000 in
theorem row_11 (w : World) : Calls Try.prog 178 #[.int .u8 11] w fun e w' => e = .returned (.agg #[.int .i64 11, .int .i64 12, .int .i64 0, .int .i64 0]) ∧ Below w.heap.size w w' := by
  go_enter Try.func178, Try.ntmps178
  go_wp2
  go_region
  all_goals go_wp2
  all_goals refine bodyPost_ret (v := .agg #[.int .i64 11, .int .i64 12, .int .i64 0, .int .i64 0]) (by simp [results, Try.results178, go_sem]) rfl ⟨rfl, ?_⟩
  all_goals go_grown
def smSh (b : Int) : Int := match b with
  | 0 => 1
  | 1 => 1
  | 2 => 1
  | 3 => 1
  | 4 => 1
  | 5 => 2
  | 6 => 3
  | 7 => 4
  | 8 => 4
  | 9 => 5
  | 10 => 5
  | 11 => 12
  | _ => 0
def rowOf (b : Int) : Rw := if b < 12 then ⟨b, smSh b, 0, 0⟩ else rowBig b
theorem row_any (b : Int) (h1 : 0 ≤ b) (h2 : b < 256) (w : World) : Calls Try.prog 178 #[.int .u8 b] w fun e w' => e = .returned (.agg #[.int .i64 (rowOf b).op, .int .i64 (rowOf b).sh, .int .i64 (rowOf b).lo, .int .i64 (rowOf b).fi]) ∧ Below w.heap.size w w' := by
  by_cases h : b < 12
  · have hk : b = 0 ∨ b = 1 ∨ b = 2 ∨ b = 3 ∨ b = 4 ∨ b = 5 ∨ b = 6 ∨ b = 7 ∨ b = 8 ∨ b = 9 ∨ b = 10 ∨ b = 11 := by omega
    rcases hk with rfl | rfl | rfl | rfl | rfl | rfl | rfl | rfl | rfl | rfl | rfl | rfl
    · exact row_0 w
    · exact row_1 w
    · exact row_2 w
    · exact row_3 w
    · exact row_4 w
    · exact row_5 w
    · exact row_6 w
    · exact row_7 w
    · exact row_8 w
    · exact row_9 w
    · exact row_10 w
    · exact row_11 w
  · have e : rowOf b = rowBig b := if_neg h
    rw [e]
    exact row_big b (by omega) h2 w
def shSize (s : Int) : Int := match s with
  | 0 => 0
  | 1 => 1
  | 2 => 2
  | 3 => 2
  | 4 => 5
  | 5 => 2
  | 6 => 2
  | 7 => 2
  | 8 => 3
  | 9 => 6
  | 10 => 3
  | 11 => 5
  | 12 => 3
  | _ => 0
set_option maxHeartbeats 8000000 in
theorem size_any (s : Int) (h1 : 0 ≤ s) (h2 : s ≤ 12) (w : World) : Calls Try.prog 179 #[.int .i64 s] w fun e w' => e = .returned (.int .i64 (shSize s)) ∧ Below w.heap.size w w' := by
  have hk : s = 0 ∨ s = 1 ∨ s = 2 ∨ s = 3 ∨ s = 4 ∨ s = 5 ∨ s = 6 ∨ s = 7 ∨ s = 8 ∨ s = 9 ∨ s = 10 ∨ s = 11 ∨ s = 12 := by omega
  rcases hk with rfl | rfl | rfl | rfl | rfl | rfl | rfl | rfl | rfl | rfl | rfl | rfl | rfl
  all_goals go_enter Try.func179, Try.ntmps179
  all_goals go_wp2
  all_goals go_ret
  all_goals exact ⟨rfl, (Below.refl _ _).alloc (Nat.le_refl _) _⟩
theorem row_ok : ∀ n : Fin 256, 0 ≤ (rowOf (n.val : Int)).op ∧ (rowOf (n.val : Int)).op ≤ 31 ∧ 0 ≤ (rowOf (n.val : Int)).sh ∧ (rowOf (n.val : Int)).sh ≤ 12 ∧ 0 ≤ (rowOf (n.val : Int)).lo ∧ (rowOf (n.val : Int)).lo ≤ 15 ∧ 0 ≤ (rowOf (n.val : Int)).fi ∧ (rowOf (n.val : Int)).fi ≤ 3 := by decide +kernel
theorem row_in (b : Int) (h1 : 0 ≤ b) (h2 : b < 256) : 0 ≤ (rowOf b).op ∧ (rowOf b).op ≤ 31 ∧ 0 ≤ (rowOf b).sh ∧ (rowOf b).sh ≤ 12 ∧ 0 ≤ (rowOf b).lo ∧ (rowOf b).lo ≤ 15 ∧ 0 ≤ (rowOf b).fi ∧ (rowOf b).fi ≤ 3 := by
  obtain ⟨n, rfl⟩ := Int.eq_ofNat_of_zero_le h1
  exact row_ok ⟨n, by omega⟩
set_option maxRecDepth 100000 in
set_option maxHeartbeats 1000000 in
theorem Size_any (b : Int) (h1 : 0 ≤ b) (h2 : b < 256) (w : World) : Calls Try.prog 123 #[.int .u8 b] w fun e w' => e = .returned (.int .i64 (shSize (rowOf b).sh)) ∧ Below w.heap.size w w' := by
  obtain ⟨_, _, h3, h4, _, _, _, _⟩ := row_in b h1 h2
  have HR := Lib.hid (row_any b h1 h2)
  have HZ := Lib.hid (size_any (rowOf b).sh h3 h4)
  clear h3 h4
  generalize shSize (rowOf b).sh = z at HZ ⊢
  generalize (rowOf b).sh = q1 at HR HZ
  generalize (rowOf b).op = q0 at HR
  generalize (rowOf b).lo = q2 at HR
  generalize (rowOf b).fi = q3 at HR
  have hfld : ∀ w : World, (Instr.field 253 (.agg #[.int .i64 q0, .int .i64 q1, .int .i64 q2, .int .i64 q3]) 1).run Try.prog w = .ok (.int .i64 q1) w := fun _ => by kernel_rfl
  go_enter Try.func123, Try.ntmps123
  go_wp2_with (first
    | (go_at_call 178; refine (HR.out _).mono ?_; rintro e w1 ⟨rfl, hb1⟩)
    | (go_at_call 179; refine (HZ.out _).mono ?_; rintro e w2 ⟨rfl, hb2⟩))
  go_ret
  exact ⟨rfl, hb1.trans (hb2.mono hb1.size)⟩
end Go.Proofs.Ytcjcmnnhmajocab.Gu
