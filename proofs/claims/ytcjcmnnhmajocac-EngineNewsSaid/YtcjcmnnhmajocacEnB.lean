/- cache.New. -/
import Derived.Test.YtcjcmnnhmajocacEnA
namespace Go.Proofs.Ytcjcmnnhmajocac.En
open Go.RowKit Kt Me
set_option linter.unusedVariables false
set_option linter.unusedSimpArgs false
theorem entry_info : ∃ i, Try.prog.info? 76 = some i ∧ i.zero = some (.agg #[.int .u32 0, .int .i64 0]) ∧ i.size = 2 ∧ i.bytes = 16 := by
  have h : (Try.prog.info? 76).map (fun i => (i.zero, i.size, i.bytes)) = some (some (.agg #[.int .u32 0, .int .i64 0]), 2, 16) := by kernel_rfl
  obtain ⟨i, hi, hz⟩ := Option.map_eq_some_iff.1 h
  simp only [Prod.mk.injEq] at hz
  exact ⟨i, hi, hz.1, hz.2.1, hz.2.2⟩
theorem blk_top (w : World) (o : Obj) (k : Nat) (h : w.heap.size = k) : (w.alloc o).heap[k]? = some o := by subst h; exact heap_alloc_new w o
theorem blk_old {w : World} {o o' : Obj} {k : Nat} (h : w.heap[k]? = some o) : (w.alloc o').heap[k]? = some o := by
  rw [Below.heap_alloc w o' k (Array.getElem?_eq_some_iff.1 h).1]; exact h
theorem fresh3 (w W2 : World) (c wb tb nw ns : Nat) (Z1 Z2 : Array Value) (hb0 : Below w.heap.size w W2) (hq : W2.heap.size = c)
    (hb : W2.heap[wb]? = some (.cells Z1 30 (0, 0))) (ht : W2.heap[tb]? = some (.cells Z2 76 (0, 0))) (g1 : Z1.size = nw) (g2 : Z2.size = ns * 2) (hge : w.heap.size ≤ wb ∧ w.heap.size ≤ tb) (hne : wb ≠ tb) :
    CB w.heap.size c wb tb nw ns (W2.alloc (.cells #[.slice (some ⟨wb, 0, none⟩) nw nw, .int .i64 0, .map none, .map none, .slice (some ⟨tb, 0, none⟩) ns ns] 62)).drew := by
  have lb := (Array.getElem?_eq_some_iff.1 hb).1
  have lt := (Array.getElem?_eq_some_iff.1 ht).1
  have hs := hb0.size
  generalize hz : (.cells #[.slice (some ⟨wb, 0, none⟩) nw nw, .int .i64 0, .map none, .map none, .slice (some ⟨tb, 0, none⟩) ns ns] 62 : Obj) = Z
  have tq := (blk_top W2 Z c hq).trans (congrArg some hz.symm)
  have tb' := blk_old (o' := Z) hb
  have tt := blk_old (o' := Z) ht
  have sz : (W2.alloc Z).heap.size = W2.heap.size + 1 := by simp
  have hc : ∀ i, (W2.alloc Z).drew.cell? ⟨c, i, none⟩ = (#[.slice (some ⟨wb, 0, none⟩) nw nw, .int .i64 0, .map none, .map none, .slice (some ⟨tb, 0, none⟩) ns ns] : Array Value)[i]? := fun i => cell_of_row (W2.alloc Z) _ _ _ _ _ tq
  exact ⟨hc 0, ⟨_, hc 1⟩, ⟨_, hc 2⟩, ⟨_, hc 3⟩, hc 4, fun i => frozen_of_row (W2.alloc Z) _ _ _ _ tq,
    fun j hj => ⟨_, (cell_of_row (W2.alloc Z) _ _ _ _ _ tb').trans (Array.getElem?_eq_getElem (by omega))⟩, fun i => frozen_of_row (W2.alloc Z) _ _ _ _ tb',
    fun j hj => ⟨_, (cell_of_row (W2.alloc Z) _ _ _ _ _ tt).trans (Array.getElem?_eq_getElem (by omega))⟩, fun i => frozen_of_row (W2.alloc Z) _ _ _ _ tt,
    by show c < (W2.alloc Z).heap.size; omega, by show wb < (W2.alloc Z).heap.size; omega, by show tb < (W2.alloc Z).heap.size; omega, by omega, hge.1, hge.2, by omega, by omega, hne⟩
set_option maxHeartbeats 1000000 in
theorem cnew_no (a b : Int) (w : World) (h : ¬ (1 ≤ a ∧ a ≤ 1048576 ∧ 1 ≤ b ∧ b ≤ 65536)) :
    Calls Try.prog 6 #[.int .i64 a, .int .i64 b] w fun e w' => e = .returned (.tuple #[.pointer none, .int .i64 4]) ∧ w = w' := by
  rcases (show a < 1 ∨ (¬ a < 1 ∧ 1048576 < a) ∨ (¬ a < 1 ∧ ¬ 1048576 < a ∧ b < 1) ∨ (¬ a < 1 ∧ ¬ 1048576 < a ∧ ¬ b < 1 ∧ 65536 < b) by omega) with h1 | ⟨h1, h2⟩ | ⟨h1, h2, h3⟩ | ⟨h1, h2, h3, h4⟩
  all_goals clear h
  all_goals go_enter Try.func6, Try.ntmps6
  all_goals go_wp2
  all_goals go_ret2
  all_goals exact ⟨rfl, rfl⟩
set_option maxRecDepth 100000 in
set_option maxHeartbeats 2000000 in
theorem cnew_ok (a b : Int) (w : World) (a0 : 1 ≤ a) (a1 : a ≤ 1048576) (b0 : 1 ≤ b) (b1 : b ≤ 65536) :
    Calls Try.prog 6 #[.int .i64 a, .int .i64 b] w fun e w' => ∃ c, e = .returned (.tuple #[.pointer (some ⟨c, 0, none⟩), .int .i64 0]) ∧ Below w.heap.size w w' := by
  obtain ⟨i1, hi1, hz1, hs1, hb1⟩ := u32_info
  obtain ⟨i2, hi2, hz2, hs2, hb2⟩ := entry_info
  have m1 := fun w => run_make (P := Try.prog) w 32 30 i1 (.int .u32 0) Try.underlying32 hi1 hz1 .i64 .i64 a a (by omega) (Int.le_refl _) (by rw [hb1]; omega) (by omega)
  have m2 := fun w => run_make (P := Try.prog) w 58 76 i2 (.agg #[.int .u32 0, .int .i64 0]) Try.underlying58 hi2 hz2 .i64 .i64 b b (by omega) (Int.le_refl _) (by rw [hb2]; omega) (by omega)
  rw [hs1, Nat.mul_one] at m1
  rw [hs2] at m2
  have g1 : (madeCells (Value.int .u32 0).cells a.toNat).size = a.toNat := by rw [size_madeCells]
  have g2 : (madeCells (Value.agg #[.int .u32 0, .int .i64 0]).cells (b.toNat * 2)).size = b.toNat * 2 := by rw [size_madeCells]
  generalize madeCells (Value.int .u32 0).cells a.toNat = Z1 at m1 g1
  generalize madeCells (Value.agg #[.int .u32 0, .int .i64 0]).cells (b.toNat * 2) = Z2 at m2 g2
  have k1 : ¬ a < 1 := by omega
  have k2 : ¬ 1048576 < a := by omega
  have k3 : ¬ b < 1 := by omega
  have k4 : ¬ 65536 < b := by omega
  have G1 := Lib.hid g1
  have G2 := Lib.hid g2
  clear g1 g2 hi1 hz1 hs1 hb1 hi2 hz2 hs2 hb2
  have HF := Lib.hid (fun W2 c wb tb hb0 hq hb ht hge hne => fresh3 w W2 c wb tb a.toNat b.toNat Z1 Z2 hb0 hq hb ht G1.out G2.out hge hne)
  have FL := Lib.hid (fun c wb tb W h hB => flush_any w.heap.size c wb tb a.toNat b.toNat W h (by omega) (by omega) hB)
  go_enter Try.func6, Try.ntmps6
  go_wp2
  go_region
  all_goals clear m1 m2
  all_goals go_wp2_with fail
  all_goals refine (FL.out _ _ _ _ (HF.out _ _ _ _ (((Below.refl _ _).alloc (by simp) _).alloc (by simp) _) (by simp) ?_ ?_ (by omega) (by omega)) (by simp; omega)).mono ?_
  all_goals first
    | (refine blk_top _ _ _ ?_; simp; done)
    | (refine blk_old (blk_top _ _ _ ?_); simp; done)
    | skip
  all_goals rintro e w5 ⟨rfl, h5, b5⟩
  all_goals go_wp2_with fail
  all_goals go_ret2
  all_goals exact ⟨_, rfl, (((((Below.refl _ _).alloc (by simp) _).alloc (by simp) _).alloc (by simp; omega) _).drew).trans b5⟩
end Go.Proofs.Ytcjcmnnhmajocac.En
