/- crossgrainref2.NewMemory. -/
import Derived.Test.YtcjcmnnhmajocaaMeR
import Derived.Test.YtcjcmnnhmajocaaMeS
import Derived.Deep.OwnRows
namespace Go.Proofs.Ytcjcmnnhmajocaa.Me
open Go.RowKit Kt
set_option linter.unusedVariables false
set_option linter.unusedSimpArgs false
/-- a new block of so many cells, all the same -/
def Rep (z : Value) (n : Nat) : Array Value := madeCells #[z] n
theorem Rep.get (z : Value) (n i : Nat) (h : i < n) : (Rep z n)[i]? = some z := by unfold Rep; simp [madeCells, h, Nat.mod_one]
theorem blk_top (w : World) (o : Obj) (k : Nat) (h : w.heap.size = k) : (w.alloc o).heap[k]? = some o := by subst h; exact heap_alloc_new w o
theorem blk_old {w : World} {o o' : Obj} {k : Nat} (h : w.heap[k]? = some o) : (w.alloc o').heap[k]? = some o := by
  rw [Below.heap_alloc w o' k (Array.getElem?_eq_some_iff.1 h).1]; exact h
theorem fresh5 (w W4 : World) (q b r m t : Nat) (hb0 : Below w.heap.size w W4) (hq : W4.heap.size = q)
    (hb : W4.heap[b]? = some (.cells (Rep (.int .u8 0) 65536) 5 (0, 0))) (hr : W4.heap[r]? = some (.cells (Rep (.int .i64 0) 256) 3 (0, 0))) (hm : W4.heap[m]? = some (.cells (Rep (.bool false) 256) 4 (0, 0))) (ht : W4.heap[t]? = some (.cells (Rep (.bool false) 256) 4 (0, 0)))
    (hge : w.heap.size ≤ b ∧ w.heap.size ≤ r ∧ w.heap.size ≤ m ∧ w.heap.size ≤ t) (hne : b ≠ r ∧ b ≠ m ∧ b ≠ t ∧ r ≠ m ∧ r ≠ t ∧ m ≠ t) :
    ∃ P : RP, Ending.returned (.pointer (some ⟨q, 0, none⟩)) = Ending.returned (.pointer (some ⟨P.q, 0, none⟩)) ∧ RM P M0 (W4.alloc (.cells #[.slice (some ⟨b, 0, none⟩) 65536 65536, .slice (some ⟨r, 0, none⟩) 256 256, .slice (some ⟨m, 0, none⟩) 256 256, .slice (some ⟨t, 0, none⟩) 256 256] 126)).drew ∧
      Below w.heap.size w (W4.alloc (.cells #[.slice (some ⟨b, 0, none⟩) 65536 65536, .slice (some ⟨r, 0, none⟩) 256 256, .slice (some ⟨m, 0, none⟩) 256 256, .slice (some ⟨t, 0, none⟩) 256 256] 126)).drew ∧ (∀ k, P.has k → w.heap.size ≤ k) := by
  have lb := (Array.getElem?_eq_some_iff.1 hb).1
  have lr := (Array.getElem?_eq_some_iff.1 hr).1
  have lm := (Array.getElem?_eq_some_iff.1 hm).1
  have lt := (Array.getElem?_eq_some_iff.1 ht).1
  have hs := hb0.size
  obtain ⟨n1, n2, n3, n4, n5, n6⟩ := hne
  generalize hz : (.cells #[.slice (some ⟨b, 0, none⟩) 65536 65536, .slice (some ⟨r, 0, none⟩) 256 256, .slice (some ⟨m, 0, none⟩) 256 256, .slice (some ⟨t, 0, none⟩) 256 256] 126 : Obj) = Z
  have tq := (blk_top W4 Z q hq).trans (congrArg some hz.symm)
  have tb := blk_old (o' := Z) hb
  have tr := blk_old (o' := Z) hr
  have tm := blk_old (o' := Z) hm
  have tt := blk_old (o' := Z) ht
  have sz : (W4.alloc Z).heap.size = W4.heap.size + 1 := by simp
  have R : RM ⟨q, b, r, m, t⟩ M0 (W4.alloc Z) := by
    refine ⟨(show q ≠ b ∧ q ≠ r ∧ q ≠ m ∧ q ≠ t ∧ b ≠ r ∧ b ≠ m ∧ b ≠ t ∧ r ≠ m ∧ r ≠ t ∧ m ≠ t from ⟨by omega, by omega, by omega, by omega, n1, n2, n3, n4, n5, n6⟩), ?_, ?_, ?_, ?_, fun j hj => ?_, fun j hj => ?_, fun j hj => ?_, fun j hj => ?_, fun j => frozen_of_row _ _ _ _ _ tb, fun j => frozen_of_row _ _ _ _ _ tr, fun j => frozen_of_row _ _ _ _ _ tm, fun j => frozen_of_row _ _ _ _ _ tt, ?_, ?_, ?_, ?_, ?_⟩
    · rw [cell_of_row _ _ _ _ _ _ tq]; rfl
    · rw [cell_of_row _ _ _ _ _ _ tq]; rfl
    · rw [cell_of_row _ _ _ _ _ _ tq]; rfl
    · rw [cell_of_row _ _ _ _ _ _ tq]; rfl
    · rw [cell_of_row _ _ _ _ _ _ tb, Rep.get _ _ _ hj]; rfl
    · rw [cell_of_row _ _ _ _ _ _ tr, Rep.get _ _ _ hj]; rfl
    · rw [cell_of_row _ _ _ _ _ _ tm, Rep.get _ _ _ hj]; rfl
    · rw [cell_of_row _ _ _ _ _ _ tt, Rep.get _ _ _ hj]; rfl
    · show q < _; omega
    · show b < _; omega
    · show r < _; omega
    · show m < _; omega
    · show t < _; omega
  refine ⟨⟨q, b, r, m, t⟩, rfl, R.drew, (hb0.alloc hs _).drew, ?_⟩
  obtain ⟨g1, g2, g3, g4⟩ := hge
  rintro k (h | h | h | h | h)
  all_goals rw [h]
  · show w.heap.size ≤ q
    exact hq ▸ hs
  · exact g1
  · exact g2
  · exact g3
  · exact g4
set_option maxRecDepth 100000 in
set_option maxHeartbeats 2000000 in
theorem rnew_any (w : World) : Calls Try.prog 39 #[] w fun e w' => ∃ P : RP, e = .returned (.pointer (some ⟨P.q, 0, none⟩)) ∧ RM P M0 w' ∧ Below w.heap.size w w' ∧ (∀ k, P.has k → w.heap.size ≤ k) := by
  have m1 : ∀ w, (Instr.makeSlice 54 (.int .i64 65536) (.int .i64 65536)).run Try.prog w = .ok (.slice (some ⟨w.heap.size, 0, none⟩) 65536 65536) (w.alloc (.cells (Rep (.int .u8 0) 65536) 5)) := fun w => by
    obtain ⟨i, hi, hz, hs, hb⟩ := Gu.u8_info
    exact run_make_row 54 5 i (.int .u8 0) Try.underlying54 hi hz hs rfl .i64 .i64 65536 (by rw [hb]; omega) (by omega) w
  have m2 : ∀ w, (Instr.makeSlice 106 (.int .i64 256) (.int .i64 256)).run Try.prog w = .ok (.slice (some ⟨w.heap.size, 0, none⟩) 256 256) (w.alloc (.cells (Rep (.int .i64 0) 256) 3)) := fun w => by
    obtain ⟨i, hi, hz, hs, hb⟩ := i64_info
    exact run_make_row 106 3 i (.int .i64 0) Try.underlying106 hi hz hs rfl .i64 .i64 256 (by rw [hb]; omega) (by omega) w
  have m3 : ∀ w, (Instr.makeSlice 65 (.int .i64 256) (.int .i64 256)).run Try.prog w = .ok (.slice (some ⟨w.heap.size, 0, none⟩) 256 256) (w.alloc (.cells (Rep (.bool false) 256) 4)) := fun w => by
    have hh : (Try.prog.info? 4).map (fun i => (i.zero, i.size, i.bytes)) = some (some (.bool false), 1, 1) := by kernel_rfl
    exact run_make_row' 65 4 (.bool false) 1 Try.underlying65 hh rfl .i64 .i64 256 (by omega) (by omega) w
  have HF := Lib.hid fresh5
  generalize Rep (.int .u8 0) 65536 = Z1 at m1 HF
  generalize Rep (.int .i64 0) 256 = Z2 at m2 HF
  generalize Rep (.bool false) 256 = Z3 at m3 HF
  go_enter Try.func39, Try.ntmps39
  go_wp2
  go_region
  all_goals clear m1 m2 m3
  all_goals go_wp2
  all_goals go_ret
  all_goals refine HF.out w _ _ _ _ _ _ (((((Below.refl _ _).alloc (by simp) _).alloc (by simp) _).alloc (by simp; omega) _).alloc (by simp; omega) _) (by simp) ?_ ?_ ?_ ?_ (by omega) (by omega)
  all_goals first
    | (refine blk_top _ _ _ ?_; simp; done)
    | (refine blk_old (blk_top _ _ _ ?_); simp; done)
    | (refine blk_old (blk_old (blk_top _ _ _ ?_)); simp; done)
    | (refine blk_old (blk_old (blk_old (blk_top _ _ _ ?_))); simp; done)
end Go.Proofs.Ytcjcmnnhmajocaa.Me
