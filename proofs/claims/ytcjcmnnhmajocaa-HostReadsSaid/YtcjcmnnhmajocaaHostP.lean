import Derived.Test.YtcjcmnnhmajocaaProg
import Derived.Below
import Derived.WalkKit
import Derived.BigQuiet
namespace Go.Proofs.Ytcjcmnnhmajocaa.Ho
open Go.RowKit
set_option linter.unusedVariables false
theorem mask15 (x : Int) (h : 0 ≤ x) (g : x < 4294967296) : bits .and .u32 x 15 = x % 16 := bits_mask .u32 32 (by decide) (fun n h₀ h₁ => by rw [IntKind.wrap_u32]; omega) 4 (by decide) x h g
theorem mask255 (x : Int) (h : 0 ≤ x) (g : x < 4294967296) : bits .and .u32 x 255 = x % 256 := bits_mask .u32 32 (by decide) (fun n h₀ h₁ => by rw [IntKind.wrap_u32]; omega) 8 (by decide) x h g
theorem mask65535 (x : Int) (h : 0 ≤ x) (g : x < 4294967296) : bits .and .u32 x 65535 = x % 65536 := bits_mask .u32 32 (by decide) (fun n h₀ h₁ => by rw [IntKind.wrap_u32]; omega) 16 (by decide) x h g
/-- the closure 'part': what it leaves -/
def Parted (B X R j : Nat) (cs : Array Value) (v q : Int) (is : Bool) (w w' : World) : Prop :=
  w'.heap.size = w.heap.size ∧ w'.heap[X]? = some (.cells (if is then cs.setIfInBounds j (.int .i64 v) else cs) 46 (0, 0)) ∧ w'.heap[R]? = some (.cells #[.int .u32 q] 25 (0, 0)) ∧
    (∀ k, k ≠ X → k ≠ R → w'.heap[k]? = w.heap[k]?) ∧ Below B w w'
theorem parted_of {B X R j : Nat} {cs : Array Value} {r v q : Int} {w : World} (hX : w.heap[X]? = some (.cells cs 46 (0, 0))) (hR : w.heap[R]? = some (.cells #[.int .u32 r] 25 (0, 0))) (hx : B ≤ X) (hr : B ≤ R) (hne : X ≠ R) :
    Parted B X R j cs v q false w (w.setCell ⟨R, 0, none⟩ (.int .u32 q)).drew ∧ Parted B X R j cs v q true w ((w.setCell ⟨R, 0, none⟩ (.int .u32 q)).setCell ⟨X, j, none⟩ (.int .i64 v)).drew := by
  have h1 : (w.setCell ⟨R, 0, none⟩ (.int .u32 q)).heap[X]? = some (.cells cs 46 (0, 0)) := (heap_setCell_other _ _ _ _ hne).trans hX
  refine ⟨⟨?_, ?_, one_setCell hR, fun k h1 h2 => heap_setCell_other _ _ _ _ h2, ((Below.refl _ _).setCell hr _).drew⟩, ?_, ?_, ?_, fun k h1 h2 => ?_, (((Below.refl _ _).setCell hr _).setCell hx _).drew⟩
  · show (w.setCell _ _).heap.size = _; simp
  · exact h1
  · show ((w.setCell _ _).setCell _ _).heap.size = _; simp
  · exact heap_setCell_same _ _ _ _ _ _ h1
  · exact (heap_setCell_other _ _ _ _ (fun e => hne e.symm)).trans (one_setCell hR)
  · exact (heap_setCell_other _ _ _ _ h1).trans (heap_setCell_other _ _ _ _ h2)
theorem part4 (is : Bool) (B X R j : Nat) (cs : Array Value) (r : Int) (w : World) (hX : w.heap[X]? = some (.cells cs 46 (0, 0))) (hR : w.heap[R]? = some (.cells #[.int .u32 r] 25 (0, 0)))
   (hx : B ≤ X) (hr : B ≤ R) (hne : X ≠ R) (hj : j < cs.size) (h0 : 0 ≤ r) (g0 : r < 4294967296) :
   Calls Try.prog 57 #[.bool is, .pointer (some ⟨X, j, none⟩), .int .i64 4, .pointer (some ⟨R, 0, none⟩)] w fun e w' => e = .returned (.bool (is || r % 16 == 0)) ∧ Parted B X R j cs (r % 16) (r / 16) is w w' := by
  have cR := cell_of_one hR
  have zR := free_of_one hR
  obtain ⟨v, hv⟩ : ∃ v, cs[j]? = some v := ⟨cs[j], by simp [hj]⟩
  have cX : w.cell? ⟨X, j, none⟩ = some v := by simp [World.cell?, hX, hv]
  have zX : w.frozen? ⟨X, j, none⟩ = false := frozen_of_row w X j cs _ hX
  have m := mask15 r h0 g0
  have hP := parted_of (j := j) (v := r % 16) (q := r / 16) hX hR hx hr hne
  cases is
  · go_enter Try.func57, Try.ntmps57
    go_wp2
    go_region
    go_wp2
    go_ret
    exact ⟨rfl, hP.1⟩
  · go_enter Try.func57, Try.ntmps57
    go_wp2
    go_region
    go_wp2
    go_ret
    exact ⟨rfl, hP.2⟩
theorem part16 (B X R j : Nat) (cs : Array Value) (r : Int) (w : World) (hX : w.heap[X]? = some (.cells cs 46 (0, 0))) (hR : w.heap[R]? = some (.cells #[.int .u32 r] 25 (0, 0)))
   (hx : B ≤ X) (hr : B ≤ R) (hne : X ≠ R) (hj : j < cs.size) (h0 : 0 ≤ r) (g0 : r < 4294967296) :
   Calls Try.prog 57 #[.bool true, .pointer (some ⟨X, j, none⟩), .int .i64 16, .pointer (some ⟨R, 0, none⟩)] w fun e w' => e = .returned (.bool true) ∧ Parted B X R j cs (r % 65536) (r / 65536) true w w' := by
  have cR := cell_of_one hR
  have zR := free_of_one hR
  obtain ⟨v, hv⟩ : ∃ v, cs[j]? = some v := ⟨cs[j], by simp [hj]⟩
  have cX : w.cell? ⟨X, j, none⟩ = some v := by simp [World.cell?, hX, hv]
  have zX : w.frozen? ⟨X, j, none⟩ = false := frozen_of_row w X j cs _ hX
  have m := mask65535 r h0 g0
  have hP := parted_of (j := j) (v := r % 65536) (q := r / 65536) hX hR hx hr hne
  go_enter Try.func57, Try.ntmps57
  go_wp2
  go_region
  go_wp2
  go_ret
  exact ⟨rfl, hP.2⟩
end Go.Proofs.Ytcjcmnnhmajocaa.Ho
