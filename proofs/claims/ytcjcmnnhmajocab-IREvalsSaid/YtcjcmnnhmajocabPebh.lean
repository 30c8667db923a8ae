/- A context in a box; the result's cells. -/
import Derived.Test.YtcjcmnnhmajocabPebf
namespace Go.Proofs.Ytcjcmnnhmajocab.Ev
open Go.RowKit Kt Me Fl
set_option linter.unusedVariables false
set_option linter.unusedSimpArgs false
def ctL (c : Nat → Int) : Array Value := #[.int .u32 (c 0), .int .u32 (c 1), .int .u32 (c 2), .int .u32 (c 3), .int .u32 (c 4), .int .u32 (c 5), .int .u32 (c 6), .int .u32 (c 7), .int .u32 (c 8), .int .u32 (c 9), .int .u32 (c 10), .int .u32 (c 11)]
/-- a context in a box -/
structure CB (h : Nat) (c : Nat → Int) (W : World) : Prop where
  r : ∀ j, j < 12 → W.cell? ⟨h, j, none⟩ = some (.int .u32 (c j))
  z : ∀ j, W.frozen? ⟨h, j, none⟩ = false
  l : h < W.heap.size
variable {h : Nat} {c : Nat → Int} {W W' : World}
theorem CB.upto {S : Nat → Prop} (a : CB h c W) (u : Upto S W W') (hs : ¬ S h) : CB h c W' :=
  ⟨fun j hj => (u.cell (q := ⟨h, j, none⟩) a.l hs).trans (a.r j hj), fun j => (u.frozen (q := ⟨h, j, none⟩) a.l hs).trans (a.z j), Nat.lt_of_lt_of_le a.l u.size⟩
theorem CB.drew (a : CB h c W) : CB h c W.drew := a.upto (Upto.refl (fun _ => False) W).drew id
theorem CB.new (w : World) (c : Nat → Int) (t : TypeId) : CB w.heap.size c (w.alloc (.cells (ctL c) t)) := by
  refine ⟨fun j hj => ?_, fun j => fz_new w _ _ j, by simp⟩
  rw [box_at w (ctL c) t j]
  match j, hj with
  | 0, _ | 1, _ | 2, _ | 3, _ | 4, _ | 5, _ | 6, _ | 7, _ | 8, _ | 9, _ | 10, _ | 11, _ => rfl
  | n + 12, h => omega
theorem CB.all (a : CB h c W) : W.cell? ⟨h, 0, none⟩ = some (.int .u32 (c 0)) ∧ W.cell? ⟨h, 1, none⟩ = some (.int .u32 (c 1)) ∧ W.cell? ⟨h, 2, none⟩ = some (.int .u32 (c 2)) ∧ W.cell? ⟨h, 3, none⟩ = some (.int .u32 (c 3)) ∧ W.cell? ⟨h, 4, none⟩ = some (.int .u32 (c 4)) ∧ W.cell? ⟨h, 5, none⟩ = some (.int .u32 (c 5)) ∧ W.cell? ⟨h, 6, none⟩ = some (.int .u32 (c 6)) ∧ W.cell? ⟨h, 7, none⟩ = some (.int .u32 (c 7)) ∧ W.cell? ⟨h, 8, none⟩ = some (.int .u32 (c 8)) ∧ W.cell? ⟨h, 9, none⟩ = some (.int .u32 (c 9)) ∧ W.cell? ⟨h, 10, none⟩ = some (.int .u32 (c 10)) ∧ W.cell? ⟨h, 11, none⟩ = some (.int .u32 (c 11)) :=
  ⟨a.r 0 (by omega), a.r 1 (by omega), a.r 2 (by omega), a.r 3 (by omega), a.r 4 (by omega), a.r 5 (by omega), a.r 6 (by omega), a.r 7 (by omega), a.r 8 (by omega), a.r 9 (by omega), a.r 10 (by omega), a.r 11 (by omega)⟩
theorem CB.set (a : CB h c W) (i : Nat) (hi : i < 12) (z : Int) : CB h (upd c i z) (W.setCell ⟨h, i, none⟩ (.int .u32 z)) := by
  refine ⟨fun j hj => ?_, fun j => by simpa using a.z j, by simpa using a.l⟩
  by_cases e : j = i
  · subst e; rw [World.cell?_setCell_same _ _ _ (a.r j hj)]; simp [upd]
  · rw [off e, a.r j hj]; simp [upd, e]
theorem CB.congr {c' : Nat → Int} (a : CB h c W) (e : ∀ j, j < 12 → c j = c' j) : CB h c' W := ⟨fun j hj => (a.r j hj).trans (by rw [e j hj]), a.z, a.l⟩
theorem CB.put (a : CB h c W) (c' : Nat → Int) : CB h c' ((((((((((((W.setCell ⟨h, 0, none⟩ (.int .u32 (c' 0))).setCell ⟨h, 1, none⟩ (.int .u32 (c' 1))).setCell ⟨h, 2, none⟩ (.int .u32 (c' 2))).setCell ⟨h, 3, none⟩ (.int .u32 (c' 3))).setCell ⟨h, 4, none⟩ (.int .u32 (c' 4))).setCell ⟨h, 5, none⟩ (.int .u32 (c' 5))).setCell ⟨h, 6, none⟩ (.int .u32 (c' 6))).setCell ⟨h, 7, none⟩ (.int .u32 (c' 7))).setCell ⟨h, 8, none⟩ (.int .u32 (c' 8))).setCell ⟨h, 9, none⟩ (.int .u32 (c' 9))).setCell ⟨h, 10, none⟩ (.int .u32 (c' 10))).setCell ⟨h, 11, none⟩ (.int .u32 (c' 11))) := by
  refine ((((((((((((a.set 0 (by omega) (c' 0)).set 1 (by omega) (c' 1)).set 2 (by omega) (c' 2)).set 3 (by omega) (c' 3)).set 4 (by omega) (c' 4)).set 5 (by omega) (c' 5)).set 6 (by omega) (c' 6)).set 7 (by omega) (c' 7)).set 8 (by omega) (c' 8)).set 9 (by omega) (c' 9)).set 10 (by omega) (c' 10)).set 11 (by omega) (c' 11)).congr fun j hj => ?_
  match j, hj with
  | 0, _ | 1, _ | 2, _ | 3, _ | 4, _ | 5, _ | 6, _ | 7, _ | 8, _ | 9, _ | 10, _ | 11, _ => simp [upd]
  | n + 12, h => omega
theorem up_put12 {S : Nat → Prop} {w W : World} (b : Upto S w W) (hh : S h ∨ w.heap.size ≤ h) (c' : Nat → Int) : Upto S w ((((((((((((W.setCell ⟨h, 0, none⟩ (.int .u32 (c' 0))).setCell ⟨h, 1, none⟩ (.int .u32 (c' 1))).setCell ⟨h, 2, none⟩ (.int .u32 (c' 2))).setCell ⟨h, 3, none⟩ (.int .u32 (c' 3))).setCell ⟨h, 4, none⟩ (.int .u32 (c' 4))).setCell ⟨h, 5, none⟩ (.int .u32 (c' 5))).setCell ⟨h, 6, none⟩ (.int .u32 (c' 6))).setCell ⟨h, 7, none⟩ (.int .u32 (c' 7))).setCell ⟨h, 8, none⟩ (.int .u32 (c' 8))).setCell ⟨h, 9, none⟩ (.int .u32 (c' 9))).setCell ⟨h, 10, none⟩ (.int .u32 (c' 10))).setCell ⟨h, 11, none⟩ (.int .u32 (c' 11))) :=
  (((((((((((b.setCell (q := ⟨h, 0, none⟩) hh (.int .u32 (c' 0))).setCell (q := ⟨h, 1, none⟩) hh (.int .u32 (c' 1))).setCell (q := ⟨h, 2, none⟩) hh (.int .u32 (c' 2))).setCell (q := ⟨h, 3, none⟩) hh (.int .u32 (c' 3))).setCell (q := ⟨h, 4, none⟩) hh (.int .u32 (c' 4))).setCell (q := ⟨h, 5, none⟩) hh (.int .u32 (c' 5))).setCell (q := ⟨h, 6, none⟩) hh (.int .u32 (c' 6))).setCell (q := ⟨h, 7, none⟩) hh (.int .u32 (c' 7))).setCell (q := ⟨h, 8, none⟩) hh (.int .u32 (c' 8))).setCell (q := ⟨h, 9, none⟩) hh (.int .u32 (c' 9))).setCell (q := ⟨h, 10, none⟩) hh (.int .u32 (c' 10))).setCell (q := ⟨h, 11, none⟩) hh (.int .u32 (c' 11))
theorem up_put4 {S : Nat → Prop} {w W : World} (b : Upto S w W) (hh : S h ∨ w.heap.size ≤ h) (k' x' p' n' : Int) : Upto S w ((((W.setCell ⟨h, 0, none⟩ (.int .i64 k')).setCell ⟨h, 1, none⟩ (.int .u32 x')).setCell ⟨h, 2, none⟩ (.int .u32 p')).setCell ⟨h, 3, none⟩ (.int .i64 n')) :=
  (((b.setCell (q := ⟨h, 0, none⟩) hh (.int .i64 k')).setCell (q := ⟨h, 1, none⟩) hh (.int .u32 x')).setCell (q := ⟨h, 2, none⟩) hh (.int .u32 p')).setCell (q := ⟨h, 3, none⟩) hh (.int .i64 n')
end Go.Proofs.Ytcjcmnnhmajocab.Ev
