/- A memory in a world (mem.Memory: one block); isPage, page, in, change. -/
import Derived.Test.YtcjcmnnhmajocacProg
import Derived.Test.YtcjcmnnhmajocacPost
import Derived.Below
import Derived.WalkKit
import Derived.Lib.Hide
namespace Go.Proofs.Ytcjcmnnhmajocac.Me
open Go.RowKit Kt
set_option linter.unusedVariables false
set_option linter.unusedSimpArgs false
/-- a memory, told plainly -/
structure MM where
  by_ : Nat → Int
  rt : Nat → Int
  wd : Nat → Bool
  hi : Nat → Bool
def upd {α : Type} (f : Nat → α) (k : Nat) (v : α) : Nat → α := fun j => if j = k then v else f j
/-- mem.Memory's block -/
def HM (p : Nat) (M : MM) (n : Int) (W : World) : Prop :=
  (∀ j, j < 65536 → W.cell? ⟨p, j, none⟩ = some (.int .u8 (M.by_ j))) ∧ (∀ j, j < 256 → W.cell? ⟨p, 65536 + j, none⟩ = some (.int .u8 (M.rt j))) ∧ (∀ j, j < 256 → W.cell? ⟨p, 65792 + j, none⟩ = some (.bool (M.wd j))) ∧
    (∀ j, j < 256 → W.cell? ⟨p, 66048 + j, none⟩ = some (.bool (M.hi j))) ∧ W.cell? ⟨p, 66304, none⟩ = some (.int .i64 n) ∧ (∀ i, W.frozen? ⟨p, i, none⟩ = false) ∧ p < W.heap.size
/-- nothing but block p has changed -/
def Only (p : Nat) (W W' : World) : Prop := W'.heap.size = W.heap.size ∧ (∀ b, b ≠ p → W'.heap[b]? = W.heap[b]?) ∧ ∀ B, B ≤ p → Below B W W'
theorem Only.refl (p : Nat) (W : World) : Only p W W := ⟨rfl, fun _ _ => rfl, fun B _ => Below.refl B W⟩
theorem Only.set {p : Nat} {W W' : World} (h : Only p W W') (j : Nat) (v : Value) : Only p W (W'.setCell ⟨p, j, none⟩ v) :=
  ⟨by rw [← h.1]; simp, fun b hb => (heap_setCell_other _ ⟨p, j, none⟩ b _ hb).trans (h.2.1 b hb), fun B hB => (h.2.2 B hB).setCell hB _⟩
theorem HM.cell_other {p : Nat} {W : World} {j i : Nat} {v : Value} (hne : i ≠ j) : (W.setCell ⟨p, j, none⟩ v).cell? ⟨p, i, none⟩ = W.cell? ⟨p, i, none⟩ :=
  World.cell?_setCell_other _ _ _ _ (by intro h; simp only [Addr.mk.injEq] at h; omega)
theorem HM.setHi {p : Nat} {M : MM} {n : Int} {W : World} (h : HM p M n W) (k : Nat) (hk : k < 256) (b : Bool) : HM p { M with hi := upd M.hi k b } n (W.setCell ⟨p, 66048 + k, none⟩ (.bool b)) := by
  obtain ⟨h1, h2, h3, h4, h5, h6, h7⟩ := h
  refine ⟨fun j hj => ?_, fun j hj => ?_, fun j hj => ?_, fun j hj => ?_, ?_, fun i => by simpa using h6 i, by simpa using h7⟩
  · rw [HM.cell_other (by omega)]; exact h1 j hj
  · rw [HM.cell_other (by omega)]; exact h2 j hj
  · rw [HM.cell_other (by omega)]; exact h3 j hj
  · by_cases hjk : j = k
    · subst hjk
      rw [World.cell?_setCell_same _ _ _ (h4 j hj)]
      simp [upd]
    · rw [HM.cell_other (by omega), h4 j hj]
      simp [upd, hjk]
  · rw [HM.cell_other (by omega)]; exact h5
theorem HM.setN {p : Nat} {M : MM} {n : Int} {W : World} (h : HM p M n W) (n' : Int) : HM p M n' (W.setCell ⟨p, 66304, none⟩ (.int .i64 n')) := by
  obtain ⟨h1, h2, h3, h4, h5, h6, h7⟩ := h
  refine ⟨fun j hj => ?_, fun j hj => ?_, fun j hj => ?_, fun j hj => ?_, ?_, fun i => by simpa using h6 i, by simpa using h7⟩
  · rw [HM.cell_other (by omega)]; exact h1 j hj
  · rw [HM.cell_other (by omega)]; exact h2 j hj
  · rw [HM.cell_other (by omega)]; exact h3 j hj
  · rw [HM.cell_other (by omega)]; exact h4 j hj
  · exact World.cell?_setCell_same _ _ _ h5
set_option maxHeartbeats 1000000 in
theorem isPage_any (k : Int) (w : World) : Calls Try.prog 67 #[.int .i64 k] w fun e w' => e = .returned (.bool (decide (0 ≤ k) && decide (k < 256))) ∧ w = w' := by
  by_cases h : 0 ≤ k
  · go_enter Try.func67, Try.ntmps67
    go_wp2
    go_ret
    exact ⟨by simp [h], rfl⟩
  · go_enter Try.func67, Try.ntmps67
    go_wp2
    go_ret
    exact ⟨by simp; omega, rfl⟩
/-- a page is changed -/
def chg (M : MM) (k : Nat) : MM := if M.wd k && !M.hi k then { M with hi := upd M.hi k true } else M
def chgN (M : MM) (n : Int) (k : Nat) : Int := if M.wd k && !M.hi k then n + 1 else n
end Go.Proofs.Ytcjcmnnhmajocac.Me
