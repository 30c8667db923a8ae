/- guest.row.field: where the low bits of a first byte go. -/
import Derived.RegionTactic
import Derived.BigRegion
import Derived.Deep.RegionWith
import Derived.Deep.RegionHeld3
import Derived.Test.YtcjcmnnhmajocabProg
import Derived.Below
import Derived.WalkKit
import Derived.Test.YtcjcmnnhmajocabPkaa
import Derived.Test.YtcjcmnnhmajocabPkaj
namespace Go.Proofs.Ytcjcmnnhmajocab.Gu
open Go.RowKit
set_option linter.unusedVariables false
set_option linter.unusedSimpArgs false
theorem and15 (x : Int) (h : 0 ≤ x) (g : x < 256) : bits .and .u8 x 15 = x % 16 := bits_mask .u8 8 (by decide) (fun n h₀ h₁ => by rw [IntKind.wrap_u8]; omega) 4 (by decide) x h g
def In5 (o d s f m : Int) : Array Value := #[.int .i64 o, .int .i64 d, .int .i64 s, .int .i64 f, .int .u32 m]
/-- only block X has changed -/
def Opd (X : Nat) (cs : Array Value) (w w' : World) : Prop :=
  w'.heap[X]? = some (.cells cs 149 (0, 0)) ∧ w'.heap.size = w.heap.size ∧ (∀ k, k ≠ X → w'.heap[k]? = w.heap[k]?) ∧ ∀ B, B ≤ X → Below B w w'
theorem Opd.start {X : Nat} {cs : Array Value} {w : World} (h : w.heap[X]? = some (.cells cs 149 (0, 0))) : Opd X cs w w := ⟨h, rfl, fun _ _ => rfl, fun B _ => Below.refl B w⟩
theorem Opd.set {X : Nat} {cs : Array Value} {w w' : World} (h : Opd X cs w w') (j : Nat) (v : Value) : Opd X (cs.setIfInBounds j v) w (w'.setCell ⟨X, j, none⟩ v) :=
  ⟨heap_setCell_same _ _ _ _ _ _ h.1, by rw [← h.2.1]; simp, fun k hk => (heap_setCell_other _ _ _ _ hk).trans (h.2.2.1 k hk), fun B hB => (h.2.2.2 B hB).setCell hB _⟩
theorem Opd.drew {X : Nat} {cs : Array Value} {w w' : World} (h : Opd X cs w w') : Opd X cs w w'.drew := ⟨h.1, h.2.1, h.2.2.1, fun B hB => (h.2.2.2 B hB).drew⟩
theorem Opd.drewN {X : Nat} {cs : Array Value} {w w' : World} (h : Opd X cs w w') (n : Nat) : Opd X cs w (w'.drewN n) := ⟨h.1, h.2.1, h.2.2.1, fun B hB => ⟨(h.2.2.2 B hB).os, (h.2.2.2 B hB).tape, (h.2.2.2 B hB).output, (h.2.2.2 B hB).size, (h.2.2.2 B hB).block⟩⟩
set_option maxRecDepth 100000 in
set_option maxHeartbeats 4000000 in
theorem opnd_2 (X g off n cap : Nat) (o d s f m a0 : Int) (w : World) (hX : w.heap[X]? = some (.cells (In5 o d s f m) 149 (0, 0))) (hne : g ≠ X) (hn : 1 ≤ n) (ha0 : 0 ≤ a0 ∧ a0 < 256) (c0 : w.cell? ⟨g, off, none⟩ = some (.int .u8 a0)) :
    Calls Try.prog 181 #[.pointer (some ⟨X, 0, none⟩), .int .i64 2, .slice (some ⟨g, off, none⟩) n cap] w fun e w' => e = .returned (.bool (decide (d < 8) && decide (s < 8))) ∧ Opd X (In5 o d s f a0) w w' := by
  have n0 : (0 : Int) < (n : Int) := by omega
  have e15_0 := and15 a0 ha0.1 ha0.2
  have sg0 := Lib.hid (signed_any a0 ha0.1 ha0.2)
  obtain ⟨l0, u0⟩ := ha0
  have x0 := cell_of_row w X 0 _ _ _ hX
  have z0 := frozen_of_row w X 0 _ _ hX
  have x1 := cell_of_row w X 1 _ _ _ hX
  have z1 := frozen_of_row w X 1 _ _ hX
  have x2 := cell_of_row w X 2 _ _ _ hX
  have z2 := frozen_of_row w X 2 _ _ hX
  have x3 := cell_of_row w X 3 _ _ _ hX
  have z3 := frozen_of_row w X 3 _ _ hX
  have x4 := cell_of_row w X 4 _ _ _ hX
  have z4 := frozen_of_row w X 4 _ _ hX
  simp only [In5, List.getElem?_toArray, List.getElem?_cons_zero, List.getElem?_cons_succ] at x0 x1 x2 x3 x4
  have HX := Lib.hid (Opd.start hX)
  clear hX
  go_enter Try.func181, Try.ntmps181
  go_wp2
  all_goals go_ret
  all_goals refine ⟨congrArg (fun b => Ending.returned (.bool b)) ?_, (Opd.set HX.out 4 (.int .u32 a0))⟩
  all_goals (rw [Bool.eq_iff_iff]; simp [*] <;> omega)
set_option maxRecDepth 100000 in
set_option maxHeartbeats 4000000 in
theorem opnd_3 (X g off n cap : Nat) (o d s f m a0 : Int) (w : World) (hX : w.heap[X]? = some (.cells (In5 o d s f m) 149 (0, 0))) (hne : g ≠ X) (hn : 1 ≤ n) (ha0 : 0 ≤ a0 ∧ a0 < 256) (c0 : w.cell? ⟨g, off, none⟩ = some (.int .u8 a0)) :
    Calls Try.prog 181 #[.pointer (some ⟨X, 0, none⟩), .int .i64 3, .slice (some ⟨g, off, none⟩) n cap] w fun e w' => e = .returned (.bool (decide (d < 8) && decide (s < 8))) ∧ Opd X (In5 o d s f (sgn a0)) w w' := by
  have n0 : (0 : Int) < (n : Int) := by omega
  have e15_0 := and15 a0 ha0.1 ha0.2
  have sg0 := Lib.hid (signed_any a0 ha0.1 ha0.2)
  obtain ⟨l0, u0⟩ := ha0
  have x0 := cell_of_row w X 0 _ _ _ hX
  have z0 := frozen_of_row w X 0 _ _ hX
  have x1 := cell_of_row w X 1 _ _ _ hX
  have z1 := frozen_of_row w X 1 _ _ hX
  have x2 := cell_of_row w X 2 _ _ _ hX
  have z2 := frozen_of_row w X 2 _ _ hX
  have x3 := cell_of_row w X 3 _ _ _ hX
  have z3 := frozen_of_row w X 3 _ _ hX
  have x4 := cell_of_row w X 4 _ _ _ hX
  have z4 := frozen_of_row w X 4 _ _ hX
  simp only [In5, List.getElem?_toArray, List.getElem?_cons_zero, List.getElem?_cons_succ] at x0 x1 x2 x3 x4
  have HX := Lib.hid (Opd.start hX)
  clear hX
  go_enter Try.func181, Try.ntmps181
  go_wp2_with (go_at_call 202; refine (sg0.out _).mono ?_; rintro e w' ⟨rfl, rfl⟩)
  all_goals go_ret
  all_goals refine ⟨congrArg (fun b => Ending.returned (.bool b)) ?_, (Opd.set HX.out 4 (.int .u32 (sgn a0)))⟩
  all_goals (rw [Bool.eq_iff_iff]; simp [*] <;> omega)
set_option maxRecDepth 100000 in
set_option maxHeartbeats 4000000 in
theorem opnd_4 (X g off n cap : Nat) (o d s f m a0 a1 a2 a3 : Int) (w : World) (hX : w.heap[X]? = some (.cells (In5 o d s f m) 149 (0, 0))) (hne : g ≠ X) (hn : 4 ≤ n) (ha0 : 0 ≤ a0 ∧ a0 < 256) (ha1 : 0 ≤ a1 ∧ a1 < 256) (ha2 : 0 ≤ a2 ∧ a2 < 256) (ha3 : 0 ≤ a3 ∧ a3 < 256) (c0 : w.cell? ⟨g, off, none⟩ = some (.int .u8 a0)) (c1 : w.cell? ⟨g, off + 1, none⟩ = some (.int .u8 a1)) (c2 : w.cell? ⟨g, off + 2, none⟩ = some (.int .u8 a2)) (c3 : w.cell? ⟨g, off + 3, none⟩ = some (.int .u8 a3)) :
    Calls Try.prog 181 #[.pointer (some ⟨X, 0, none⟩), .int .i64 4, .slice (some ⟨g, off, none⟩) n cap] w fun e w' => e = .returned (.bool (decide (d < 8) && decide (s < 8))) ∧ Opd X (In5 o d s f (four a0 a1 a2 a3)) w w' := by
  have n0 : (0 : Int) < (n : Int) := by omega
  have e15_0 := and15 a0 ha0.1 ha0.2
  have sg0 := Lib.hid (signed_any a0 ha0.1 ha0.2)
  obtain ⟨l0, u0⟩ := ha0
  have n1 : (1 : Int) < (n : Int) := by omega
  have e15_1 := and15 a1 ha1.1 ha1.2
  have sg1 := Lib.hid (signed_any a1 ha1.1 ha1.2)
  obtain ⟨l1, u1⟩ := ha1
  have n2 : (2 : Int) < (n : Int) := by omega
  have e15_2 := and15 a2 ha2.1 ha2.2
  have sg2 := Lib.hid (signed_any a2 ha2.1 ha2.2)
  obtain ⟨l2, u2⟩ := ha2
  have n3 : (3 : Int) < (n : Int) := by omega
  have e15_3 := and15 a3 ha3.1 ha3.2
  have sg3 := Lib.hid (signed_any a3 ha3.1 ha3.2)
  obtain ⟨l3, u3⟩ := ha3
  have x0 := cell_of_row w X 0 _ _ _ hX
  have z0 := frozen_of_row w X 0 _ _ hX
  have x1 := cell_of_row w X 1 _ _ _ hX
  have z1 := frozen_of_row w X 1 _ _ hX
  have x2 := cell_of_row w X 2 _ _ _ hX
  have z2 := frozen_of_row w X 2 _ _ hX
  have x3 := cell_of_row w X 3 _ _ _ hX
  have z3 := frozen_of_row w X 3 _ _ hX
  have x4 := cell_of_row w X 4 _ _ _ hX
  have z4 := frozen_of_row w X 4 _ _ hX
  simp only [In5, List.getElem?_toArray, List.getElem?_cons_zero, List.getElem?_cons_succ] at x0 x1 x2 x3 x4
  have HX := Lib.hid (Opd.start hX)
  clear hX
  go_enter Try.func181, Try.ntmps181
  have hfour := Lib.hid (four_any g off n cap a0 a1 a2 a3 w (by omega) ⟨l0, u0⟩ ⟨l1, u1⟩ ⟨l2, u2⟩ ⟨l3, u3⟩ c0 c1 c2 c3)
  go_wp2_with (go_at_call 203; refine (hfour.out).mono ?_; rintro e w' ⟨rfl, m4, rfl⟩)
  all_goals go_ret
  all_goals refine ⟨congrArg (fun b => Ending.returned (.bool b)) ?_, (Opd.set (Opd.drewN HX.out _) 4 (.int .u32 (four a0 a1 a2 a3)))⟩
  all_goals (rw [Bool.eq_iff_iff]; simp [*] <;> omega)
set_option maxRecDepth 100000 in
set_option maxHeartbeats 4000000 in
theorem opnd_5 (X g off n cap : Nat) (o d s f m a0 : Int) (w : World) (hX : w.heap[X]? = some (.cells (In5 o d s f m) 149 (0, 0))) (hne : g ≠ X) (hn : 1 ≤ n) (ha0 : 0 ≤ a0 ∧ a0 < 256) (c0 : w.cell? ⟨g, off, none⟩ = some (.int .u8 a0)) :
    Calls Try.prog 181 #[.pointer (some ⟨X, 0, none⟩), .int .i64 5, .slice (some ⟨g, off, none⟩) n cap] w fun e w' => e = .returned (.bool (decide (d < 8) && decide (a0 < 8))) ∧ Opd X (In5 o d a0 f m) w w' := by
  have n0 : (0 : Int) < (n : Int) := by omega
  have e15_0 := and15 a0 ha0.1 ha0.2
  have sg0 := Lib.hid (signed_any a0 ha0.1 ha0.2)
  obtain ⟨l0, u0⟩ := ha0
  have x0 := cell_of_row w X 0 _ _ _ hX
  have z0 := frozen_of_row w X 0 _ _ hX
  have x1 := cell_of_row w X 1 _ _ _ hX
  have z1 := frozen_of_row w X 1 _ _ hX
  have x2 := cell_of_row w X 2 _ _ _ hX
  have z2 := frozen_of_row w X 2 _ _ hX
  have x3 := cell_of_row w X 3 _ _ _ hX
  have z3 := frozen_of_row w X 3 _ _ hX
  have x4 := cell_of_row w X 4 _ _ _ hX
  have z4 := frozen_of_row w X 4 _ _ hX
  simp only [In5, List.getElem?_toArray, List.getElem?_cons_zero, List.getElem?_cons_succ] at x0 x1 x2 x3 x4
  have HX := Lib.hid (Opd.start hX)
  clear hX
  go_enter Try.func181, Try.ntmps181
  go_wp2
  all_goals go_ret
  all_goals refine ⟨congrArg (fun b => Ending.returned (.bool b)) ?_, (Opd.set HX.out 2 (.int .i64 a0))⟩
  all_goals (rw [Bool.eq_iff_iff]; simp [*] <;> omega)
set_option maxRecDepth 100000 in
set_option maxHeartbeats 4000000 in
theorem opnd_6 (X g off n cap : Nat) (o d s f m a0 : Int) (w : World) (hX : w.heap[X]? = some (.cells (In5 o d s f m) 149 (0, 0))) (hne : g ≠ X) (hn : 1 ≤ n) (ha0 : 0 ≤ a0 ∧ a0 < 256) (c0 : w.cell? ⟨g, off, none⟩ = some (.int .u8 a0)) :
    Calls Try.prog 181 #[.pointer (some ⟨X, 0, none⟩), .int .i64 6, .slice (some ⟨g, off, none⟩) n cap] w fun e w' => e = .returned (.bool (decide ((a0 / 16) < 8) && decide ((a0 % 16) < 8))) ∧ Opd X (In5 o (a0 / 16) (a0 % 16) f m) w w' := by
  have n0 : (0 : Int) < (n : Int) := by omega
  have e15_0 := and15 a0 ha0.1 ha0.2
  have sg0 := Lib.hid (signed_any a0 ha0.1 ha0.2)
  obtain ⟨l0, u0⟩ := ha0
  have x0 := cell_of_row w X 0 _ _ _ hX
  have z0 := frozen_of_row w X 0 _ _ hX
  have x1 := cell_of_row w X 1 _ _ _ hX
  have z1 := frozen_of_row w X 1 _ _ hX
  have x2 := cell_of_row w X 2 _ _ _ hX
  have z2 := frozen_of_row w X 2 _ _ hX
  have x3 := cell_of_row w X 3 _ _ _ hX
  have z3 := frozen_of_row w X 3 _ _ hX
  have x4 := cell_of_row w X 4 _ _ _ hX
  have z4 := frozen_of_row w X 4 _ _ hX
  simp only [In5, List.getElem?_toArray, List.getElem?_cons_zero, List.getElem?_cons_succ] at x0 x1 x2 x3 x4
  have HX := Lib.hid (Opd.start hX)
  clear hX
  go_enter Try.func181, Try.ntmps181
  go_wp2
  go_region
  go_wp2
  all_goals go_ret
  all_goals refine ⟨congrArg (fun b => Ending.returned (.bool b)) ?_, (Opd.set (Opd.set HX.out 1 (.int .i64 (a0 / 16))) 2 (.int .i64 (a0 % 16))).drew⟩
  all_goals (rw [Bool.eq_iff_iff]; simp [*] <;> omega)
set_option maxRecDepth 100000 in
set_option maxHeartbeats 4000000 in
theorem opnd_7 (X g off n cap : Nat) (o d s f m a0 : Int) (w : World) (hX : w.heap[X]? = some (.cells (In5 o d s f m) 149 (0, 0))) (hne : g ≠ X) (hn : 1 ≤ n) (ha0 : 0 ≤ a0 ∧ a0 < 256) (c0 : w.cell? ⟨g, off, none⟩ = some (.int .u8 a0)) :
    Calls Try.prog 181 #[.pointer (some ⟨X, 0, none⟩), .int .i64 7, .slice (some ⟨g, off, none⟩) n cap] w fun e w' => e = .returned (.bool (decide ((a0 % 16) < 8) && decide (s < 8))) ∧ Opd X (In5 o (a0 % 16) s (a0 / 16) m) w w' := by
  have n0 : (0 : Int) < (n : Int) := by omega
  have e15_0 := and15 a0 ha0.1 ha0.2
  have sg0 := Lib.hid (signed_any a0 ha0.1 ha0.2)
  obtain ⟨l0, u0⟩ := ha0
  have x0 := cell_of_row w X 0 _ _ _ hX
  have z0 := frozen_of_row w X 0 _ _ hX
  have x1 := cell_of_row w X 1 _ _ _ hX
  have z1 := frozen_of_row w X 1 _ _ hX
  have x2 := cell_of_row w X 2 _ _ _ hX
  have z2 := frozen_of_row w X 2 _ _ hX
  have x3 := cell_of_row w X 3 _ _ _ hX
  have z3 := frozen_of_row w X 3 _ _ hX
  have x4 := cell_of_row w X 4 _ _ _ hX
  have z4 := frozen_of_row w X 4 _ _ hX
  simp only [In5, List.getElem?_toArray, List.getElem?_cons_zero, List.getElem?_cons_succ] at x0 x1 x2 x3 x4
  have HX := Lib.hid (Opd.start hX)
  clear hX
  go_enter Try.func181, Try.ntmps181
  go_wp2
  go_region
  go_wp2
  all_goals go_ret
  all_goals refine ⟨congrArg (fun b => Ending.returned (.bool b)) ?_, (Opd.set (Opd.set HX.out 3 (.int .i64 (a0 / 16))) 1 (.int .i64 (a0 % 16))).drew⟩
  all_goals (rw [Bool.eq_iff_iff]; simp [*] <;> omega)
set_option maxRecDepth 100000 in
set_option maxHeartbeats 4000000 in
theorem opnd_11 (X g off n cap : Nat) (o d s f m a0 a1 a2 a3 : Int) (w : World) (hX : w.heap[X]? = some (.cells (In5 o d s f m) 149 (0, 0))) (hne : g ≠ X) (hn : 4 ≤ n) (ha0 : 0 ≤ a0 ∧ a0 < 256) (ha1 : 0 ≤ a1 ∧ a1 < 256) (ha2 : 0 ≤ a2 ∧ a2 < 256) (ha3 : 0 ≤ a3 ∧ a3 < 256) (c0 : w.cell? ⟨g, off, none⟩ = some (.int .u8 a0)) (c1 : w.cell? ⟨g, off + 1, none⟩ = some (.int .u8 a1)) (c2 : w.cell? ⟨g, off + 2, none⟩ = some (.int .u8 a2)) (c3 : w.cell? ⟨g, off + 3, none⟩ = some (.int .u8 a3)) :
    Calls Try.prog 181 #[.pointer (some ⟨X, 0, none⟩), .int .i64 11, .slice (some ⟨g, off, none⟩) n cap] w fun e w' => e = .returned (.bool (decide (d < 8) && decide (s < 8))) ∧ Opd X (In5 o d s f (four a0 a1 a2 a3)) w w' := by
  have n0 : (0 : Int) < (n : Int) := by omega
  have e15_0 := and15 a0 ha0.1 ha0.2
  have sg0 := Lib.hid (signed_any a0 ha0.1 ha0.2)
  obtain ⟨l0, u0⟩ := ha0
  have n1 : (1 : Int) < (n : Int) := by omega
  have e15_1 := and15 a1 ha1.1 ha1.2
  have sg1 := Lib.hid (signed_any a1 ha1.1 ha1.2)
  obtain ⟨l1, u1⟩ := ha1
  have n2 : (2 : Int) < (n : Int) := by omega
  have e15_2 := and15 a2 ha2.1 ha2.2
  have sg2 := Lib.hid (signed_any a2 ha2.1 ha2.2)
  obtain ⟨l2, u2⟩ := ha2
  have n3 : (3 : Int) < (n : Int) := by omega
  have e15_3 := and15 a3 ha3.1 ha3.2
  have sg3 := Lib.hid (signed_any a3 ha3.1 ha3.2)
  obtain ⟨l3, u3⟩ := ha3
  have x0 := cell_of_row w X 0 _ _ _ hX
  have z0 := frozen_of_row w X 0 _ _ hX
  have x1 := cell_of_row w X 1 _ _ _ hX
  have z1 := frozen_of_row w X 1 _ _ hX
  have x2 := cell_of_row w X 2 _ _ _ hX
  have z2 := frozen_of_row w X 2 _ _ hX
  have x3 := cell_of_row w X 3 _ _ _ hX
  have z3 := frozen_of_row w X 3 _ _ hX
  have x4 := cell_of_row w X 4 _ _ _ hX
  have z4 := frozen_of_row w X 4 _ _ hX
  simp only [In5, List.getElem?_toArray, List.getElem?_cons_zero, List.getElem?_cons_succ] at x0 x1 x2 x3 x4
  have HX := Lib.hid (Opd.start hX)
  clear hX
  go_enter Try.func181, Try.ntmps181
  have hfour := Lib.hid (four_any g off n cap a0 a1 a2 a3 w (by omega) ⟨l0, u0⟩ ⟨l1, u1⟩ ⟨l2, u2⟩ ⟨l3, u3⟩ c0 c1 c2 c3)
  go_wp2_with (go_at_call 203; refine (hfour.out).mono ?_; rintro e w' ⟨rfl, m4, rfl⟩)
  all_goals go_ret
  all_goals refine ⟨congrArg (fun b => Ending.returned (.bool b)) ?_, (Opd.set (Opd.drewN HX.out _) 4 (.int .u32 (four a0 a1 a2 a3)))⟩
  all_goals (rw [Bool.eq_iff_iff]; simp [*] <;> omega)
end Go.Proofs.Ytcjcmnnhmajocab.Gu
namespace Go.Proofs.Ytcjcmnnhmajocab.Gu
open Go.RowKit
set_option linter.unusedVariables false
set_option linter.unusedSimpArgs false
set_option maxRecDepth 100000 in
set_option maxHeartbeats 4000000 in
theorem opnd_10 (X g off n cap : Nat) (o d s f m a0 a1 : Int) (w : World) (hX : w.heap[X]? = some (.cells (In5 o d s f m) 149 (0, 0))) (hne : g ≠ X) (hn : 2 ≤ n) (ha0 : 0 ≤ a0 ∧ a0 < 256) (ha1 : 0 ≤ a1 ∧ a1 < 256) (c0 : w.cell? ⟨g, off, none⟩ = some (.int .u8 a0)) (c1 : w.cell? ⟨g, off + 1, none⟩ = some (.int .u8 a1)) :
    Calls Try.prog 181 #[.pointer (some ⟨X, 0, none⟩), .int .i64 10, .slice (some ⟨g, off, none⟩) n cap] w fun e w' => e = .returned (.bool (decide (a0 < 8) && decide (s < 8))) ∧ Opd X (In5 o a0 s f (sgn a1)) w w' := by
  have n0 : (0 : Int) < (n : Int) := by omega
  have e15_0 := and15 a0 ha0.1 ha0.2
  have sg0 := Lib.hid (signed_any a0 ha0.1 ha0.2)
  obtain ⟨l0, u0⟩ := ha0
  have n1 : (1 : Int) < (n : Int) := by omega
  have e15_1 := and15 a1 ha1.1 ha1.2
  have sg1 := Lib.hid (signed_any a1 ha1.1 ha1.2)
  obtain ⟨l1, u1⟩ := ha1
  have x0 := cell_of_row w X 0 _ _ _ hX
  have z0 := frozen_of_row w X 0 _ _ hX
  have x1 := cell_of_row w X 1 _ _ _ hX
  have z1 := frozen_of_row w X 1 _ _ hX
  have x2 := cell_of_row w X 2 _ _ _ hX
  have z2 := frozen_of_row w X 2 _ _ hX
  have x3 := cell_of_row w X 3 _ _ _ hX
  have z3 := frozen_of_row w X 3 _ _ hX
  have x4 := cell_of_row w X 4 _ _ _ hX
  have z4 := frozen_of_row w X 4 _ _ hX
  simp only [In5, List.getElem?_toArray, List.getElem?_cons_zero, List.getElem?_cons_succ] at x0 x1 x2 x3 x4
  have HX := Lib.hid (Opd.start hX)
  clear hX
  go_enter Try.func181, Try.ntmps181
  go_wp2_with fail
  go_region_with (go_at_call 202; refine (sg1.out _).mono ?_; rintro e w' ⟨rfl, rfl⟩)
  all_goals go_wp2
  all_goals go_ret
  all_goals refine ⟨congrArg (fun b => Ending.returned (.bool b)) ?_, (Opd.set (Opd.set HX.out 1 (.int .i64 a0)) 4 (.int .u32 (sgn a1))).drew⟩
  all_goals (rw [Bool.eq_iff_iff]; simp [*] <;> omega)
set_option maxRecDepth 100000 in
set_option maxHeartbeats 4000000 in
theorem opnd_12 (X g off n cap : Nat) (o d s f m a0 a1 : Int) (w : World) (hX : w.heap[X]? = some (.cells (In5 o d s f m) 149 (0, 0))) (hne : g ≠ X) (hn : 2 ≤ n) (ha0 : 0 ≤ a0 ∧ a0 < 256) (ha1 : 0 ≤ a1 ∧ a1 < 256) (c0 : w.cell? ⟨g, off, none⟩ = some (.int .u8 a0)) (c1 : w.cell? ⟨g, off + 1, none⟩ = some (.int .u8 a1)) :
    Calls Try.prog 181 #[.pointer (some ⟨X, 0, none⟩), .int .i64 12, .slice (some ⟨g, off, none⟩) n cap] w fun e w' => e = .returned (.bool (decide (d < 8) && decide (a0 < 8))) ∧ Opd X (In5 o d a0 f (sgn a1)) w w' := by
  have n0 : (0 : Int) < (n : Int) := by omega
  have e15_0 := and15 a0 ha0.1 ha0.2
  have sg0 := Lib.hid (signed_any a0 ha0.1 ha0.2)
  obtain ⟨l0, u0⟩ := ha0
  have n1 : (1 : Int) < (n : Int) := by omega
  have e15_1 := and15 a1 ha1.1 ha1.2
  have sg1 := Lib.hid (signed_any a1 ha1.1 ha1.2)
  obtain ⟨l1, u1⟩ := ha1
  have x0 := cell_of_row w X 0 _ _ _ hX
  have z0 := frozen_of_row w X 0 _ _ hX
  have x1 := cell_of_row w X 1 _ _ _ hX
  have z1 := frozen_of_row w X 1 _ _ hX
  have x2 := cell_of_row w X 2 _ _ _ hX
  have z2 := frozen_of_row w X 2 _ _ hX
  have x3 := cell_of_row w X 3 _ _ _ hX
  have z3 := frozen_of_row w X 3 _ _ hX
  have x4 := cell_of_row w X 4 _ _ _ hX
  have z4 := frozen_of_row w X 4 _ _ hX
  simp only [In5, List.getElem?_toArray, List.getElem?_cons_zero, List.getElem?_cons_succ] at x0 x1 x2 x3 x4
  have HX := Lib.hid (Opd.start hX)
  clear hX
  go_enter Try.func181, Try.ntmps181
  go_wp2_with fail
  go_region_with (go_at_call 202; refine (sg1.out _).mono ?_; rintro e w' ⟨rfl, rfl⟩)
  all_goals go_wp2
  all_goals go_ret
  all_goals refine ⟨congrArg (fun b => Ending.returned (.bool b)) ?_, (Opd.set (Opd.set HX.out 2 (.int .i64 a0)) 4 (.int .u32 (sgn a1))).drew⟩
  all_goals (rw [Bool.eq_iff_iff]; simp [*] <;> omega)
end Go.Proofs.Ytcjcmnnhmajocab.Gu
namespace Go.Proofs.Ytcjcmnnhmajocab.Gu
open Go.RowKit
set_option linter.unusedVariables false
set_option linter.unusedSimpArgs false
theorem some_set {w : World} {a b : Addr} {v : Value} (h : (w.cell? b).isSome = true) : ((w.setCell a v).cell? b).isSome = true := by
  obtain ⟨u, hu⟩ := Option.isSome_iff_exists.1 h
  obtain ⟨u', hu'⟩ := cell?_setCell_some (p := a) (x := v) hu
  rw [hu']; rfl
theorem keep8 {W : World} {g off X : Nat} {a0 a1 : Int} (hne : g ≠ X) (j : Nat) (v : Value) (h : W.cell? ⟨g, off, none⟩ = some (.int .u8 a0) ∧ W.cell? ⟨g, off + 1, none⟩ = some (.int .u8 a1) ∧ (W.cell? ⟨X, 1, none⟩).isSome = true ∧ (W.cell? ⟨X, 2, none⟩).isSome = true ∧ (W.cell? ⟨X, 4, none⟩).isSome = true ∧ W.frozen? ⟨X, 1, none⟩ = false ∧ W.frozen? ⟨X, 2, none⟩ = false ∧ W.frozen? ⟨X, 4, none⟩ = false) :
    (W.setCell ⟨X, j, none⟩ v).drew.cell? ⟨g, off, none⟩ = some (.int .u8 a0) ∧ (W.setCell ⟨X, j, none⟩ v).drew.cell? ⟨g, off + 1, none⟩ = some (.int .u8 a1) ∧ ((W.setCell ⟨X, j, none⟩ v).drew.cell? ⟨X, 1, none⟩).isSome = true ∧ ((W.setCell ⟨X, j, none⟩ v).drew.cell? ⟨X, 2, none⟩).isSome = true ∧ ((W.setCell ⟨X, j, none⟩ v).drew.cell? ⟨X, 4, none⟩).isSome = true ∧ (W.setCell ⟨X, j, none⟩ v).drew.frozen? ⟨X, 1, none⟩ = false ∧ (W.setCell ⟨X, j, none⟩ v).drew.frozen? ⟨X, 2, none⟩ = false ∧ (W.setCell ⟨X, j, none⟩ v).drew.frozen? ⟨X, 4, none⟩ = false := by
  obtain ⟨h1, h2, h3, h4, h5, h6, h7, h8⟩ := h
  refine ⟨?_, ?_, some_set h3, some_set h4, some_set h5, ?_, ?_, ?_⟩
  · exact (World.cell?_of_block (a := ⟨g, off, none⟩) (heap_setCell_other _ _ _ _ hne)).trans h1
  · exact (World.cell?_of_block (a := ⟨g, off + 1, none⟩) (heap_setCell_other _ _ _ _ hne)).trans h2
  · simpa using h6
  · simpa using h7
  · simpa using h8
theorem keep8d {W : World} {g off X : Nat} {a0 a1 : Int} (hne : g ≠ X) (j : Nat) (v : Value) (h : W.drew.cell? ⟨g, off, none⟩ = some (.int .u8 a0) ∧ W.drew.cell? ⟨g, off + 1, none⟩ = some (.int .u8 a1) ∧ (W.drew.cell? ⟨X, 1, none⟩).isSome = true ∧ (W.drew.cell? ⟨X, 2, none⟩).isSome = true ∧ (W.drew.cell? ⟨X, 4, none⟩).isSome = true ∧ W.drew.frozen? ⟨X, 1, none⟩ = false ∧ W.drew.frozen? ⟨X, 2, none⟩ = false ∧ W.drew.frozen? ⟨X, 4, none⟩ = false) :
    (W.setCell ⟨X, j, none⟩ v).drew.cell? ⟨g, off, none⟩ = some (.int .u8 a0) ∧ (W.setCell ⟨X, j, none⟩ v).drew.cell? ⟨g, off + 1, none⟩ = some (.int .u8 a1) ∧ ((W.setCell ⟨X, j, none⟩ v).drew.cell? ⟨X, 1, none⟩).isSome = true ∧ ((W.setCell ⟨X, j, none⟩ v).drew.cell? ⟨X, 2, none⟩).isSome = true ∧ ((W.setCell ⟨X, j, none⟩ v).drew.cell? ⟨X, 4, none⟩).isSome = true ∧ (W.setCell ⟨X, j, none⟩ v).drew.frozen? ⟨X, 1, none⟩ = false ∧ (W.setCell ⟨X, j, none⟩ v).drew.frozen? ⟨X, 2, none⟩ = false ∧ (W.setCell ⟨X, j, none⟩ v).drew.frozen? ⟨X, 4, none⟩ = false := keep8 (W := W) hne j v h
set_option maxRecDepth 100000 in
set_option maxHeartbeats 4000000 in
theorem opnd_8 (X g off n cap : Nat) (o d s f m a0 a1 : Int) (w : World) (hX : w.heap[X]? = some (.cells (In5 o d s f m) 149 (0, 0))) (hne : g ≠ X) (hn : 2 ≤ n) (ha0 : 0 ≤ a0 ∧ a0 < 256) (ha1 : 0 ≤ a1 ∧ a1 < 256) (c0 : w.cell? ⟨g, off, none⟩ = some (.int .u8 a0)) (c1 : w.cell? ⟨g, off + 1, none⟩ = some (.int .u8 a1)) :
    Calls Try.prog 181 #[.pointer (some ⟨X, 0, none⟩), .int .i64 8, .slice (some ⟨g, off, none⟩) n cap] w fun e w' => e = .returned (.bool (decide (a0 / 16 < 8) && decide (a0 % 16 < 8))) ∧ Opd X (In5 o (a0 / 16) (a0 % 16) f (sgn a1)) w w' := by
  have n0 : (0 : Int) < (n : Int) := by omega
  have n1 : (1 : Int) < (n : Int) := by omega
  have e15_0 := and15 a0 ha0.1 ha0.2
  have sg1 := Lib.hid (signed_any a1 ha1.1 ha1.2)
  obtain ⟨l0, u0⟩ := ha0
  obtain ⟨l1, u1⟩ := ha1
  have y1 := cell_of_row w X 1 _ _ _ hX
  have y2 := cell_of_row w X 2 _ _ _ hX
  have y4 := cell_of_row w X 4 _ _ _ hX
  have z1 := frozen_of_row w X 1 _ _ hX
  have z2 := frozen_of_row w X 2 _ _ hX
  have z4 := frozen_of_row w X 4 _ _ hX
  simp only [In5, List.getElem?_toArray, List.getElem?_cons_zero, List.getElem?_cons_succ] at y1 y2 y4
  have n0p : 0 < n := by omega
  have x1 : (w.cell? ⟨X, 1, none⟩).isSome = true := by rw [y1]; rfl
  have x2 : (w.cell? ⟨X, 2, none⟩).isSome = true := by rw [y2]; rfl
  have x4 : (w.cell? ⟨X, 4, none⟩).isSome = true := by rw [y4]; rfl
  have HX := Lib.hid (Opd.start hX)
  clear hX y1 y2 y4
  go_enter Try.func181, Try.ntmps181
  go_wp2_with fail
  go_region_held3 (fun W => W.cell? ⟨g, off, none⟩ = some (.int .u8 a0) ∧ W.cell? ⟨g, off + 1, none⟩ = some (.int .u8 a1) ∧ (W.cell? ⟨X, 1, none⟩).isSome = true ∧ (W.cell? ⟨X, 2, none⟩).isSome = true ∧ (W.cell? ⟨X, 4, none⟩).isSome = true ∧ W.frozen? ⟨X, 1, none⟩ = false ∧ W.frozen? ⟨X, 2, none⟩ = false ∧ W.frozen? ⟨X, 4, none⟩ = false) (first | (refine keep8 hne _ _ ?_; assumption) | (refine keep8d hne _ _ ?_; assumption) | (refine keep8 hne _ _ (keep8 hne _ _ ⟨?_, ?_, ?_, ?_, ?_, ?_, ?_, ?_⟩) <;> assumption) | (refine keep8 hne _ _ (keep8 hne _ _ (keep8 hne _ _ ⟨?_, ?_, ?_, ?_, ?_, ?_, ?_, ?_⟩)) <;> assumption) | (refine keep8d hne _ _ ⟨?_, ?_, ?_, ?_, ?_, ?_, ?_, ?_⟩ <;> assumption) | (refine keep8 hne _ _ ⟨?_, ?_, ?_, ?_, ?_, ?_, ?_, ?_⟩ <;> assumption) | go_keep) (first | (go_at_call 202; refine (sg1.out _).mono ?_; rintro e w' ⟨rfl, rfl⟩) | (go_simp; obtain ⟨u, hu⟩ := Option.isSome_iff_exists.1 (‹(World.cell? _ ⟨X, 1, none⟩).isSome = true›); simp only [hu]; go_simp) | (go_simp; obtain ⟨u, hu⟩ := Option.isSome_iff_exists.1 (‹(World.cell? _ ⟨X, 2, none⟩).isSome = true›); simp only [hu]; go_simp) | (go_simp; obtain ⟨u, hu⟩ := Option.isSome_iff_exists.1 (‹(World.cell? _ ⟨X, 4, none⟩).isSome = true›); simp only [hu]; go_simp))
  rw [show IntKind.i64.wrap (a0 / 16) = a0 / 16 by rw [IntKind.wrap_i64]; omega, show IntKind.i64.wrap (a0 % 16) = a0 % 16 by rw [IntKind.wrap_i64]; omega]
  go_wp2
  all_goals go_ret
  all_goals refine ⟨congrArg (fun b => Ending.returned (.bool b)) ?_, (Opd.set (Opd.set (Opd.set HX.out 1 (.int .i64 (a0 / 16))) 2 (.int .i64 (a0 % 16))) 4 (.int .u32 (sgn a1))).drew⟩
  all_goals (rw [Bool.eq_iff_iff]; simp [*] <;> omega)
end Go.Proofs.Ytcjcmnnhmajocab.Gu
namespace Go.Proofs.Ytcjcmnnhmajocab.Gu
open Go.RowKit
set_option linter.unusedVariables false
set_option linter.unusedSimpArgs false
set_option maxRecDepth 100000 in
set_option maxHeartbeats 4000000 in
theorem opnd_9 (X g off n cap : Nat) (o d s f m a0 a1 a2 a3 a4 : Int) (w : World) (hX : w.heap[X]? = some (.cells (In5 o d s f m) 149 (0, 0))) (hne : g ≠ X) (hn : 5 ≤ n) (hcap : n ≤ cap)
   (ha0 : 0 ≤ a0 ∧ a0 < 256) (ha1 : 0 ≤ a1 ∧ a1 < 256) (ha2 : 0 ≤ a2 ∧ a2 < 256) (ha3 : 0 ≤ a3 ∧ a3 < 256) (ha4 : 0 ≤ a4 ∧ a4 < 256)
   (c0 : w.cell? ⟨g, off, none⟩ = some (.int .u8 a0)) (c1 : w.cell? ⟨g, off + 1, none⟩ = some (.int .u8 a1)) (c2 : w.cell? ⟨g, off + 2, none⟩ = some (.int .u8 a2)) (c3 : w.cell? ⟨g, off + 3, none⟩ = some (.int .u8 a3)) (c4 : w.cell? ⟨g, off + 4, none⟩ = some (.int .u8 a4)) :
    Calls Try.prog 181 #[.pointer (some ⟨X, 0, none⟩), .int .i64 9, .slice (some ⟨g, off, none⟩) n cap] w fun e w' => e = .returned (.bool (decide (a0 < 8) && decide (s < 8))) ∧ Opd X (In5 o a0 s f (four a1 a2 a3 a4)) w w' := by
  have n0 : (0 : Int) < (n : Int) := by omega
  have n1 : (1 : Int) ≤ (n : Int) := by omega
  have n2 : (n : Int) ≤ (cap : Int) := by omega
  have n3 : ¬ cap = 1 := by omega
  obtain ⟨l0, u0⟩ := ha0
  have HC := Lib.hid (And.intro c1 (And.intro c2 (And.intro c3 c4)))
  have x1 := cell_of_row w X 1 _ _ _ hX
  have x2 := cell_of_row w X 2 _ _ _ hX
  have x4 := cell_of_row w X 4 _ _ _ hX
  have z1 := frozen_of_row w X 1 _ _ hX
  have z4 := frozen_of_row w X 4 _ _ hX
  simp only [In5, List.getElem?_toArray, List.getElem?_cons_zero, List.getElem?_cons_succ] at x1 x2 x4
  have HX := Lib.hid (Opd.start hX)
  clear hX c1 c2 c3 c4
  go_enter Try.func181, Try.ntmps181
  go_wp2_with fail
  have h1 : ∀ (W : World), W.heap[g]? = w.heap[g]? → W.cell? ⟨g, off + 1, none⟩ = some (.int .u8 a1) ∧ W.cell? ⟨g, off + 1 + 1, none⟩ = some (.int .u8 a2) ∧ W.cell? ⟨g, off + 1 + 2, none⟩ = some (.int .u8 a3) ∧ W.cell? ⟨g, off + 1 + 3, none⟩ = some (.int .u8 a4) := fun W h =>
    ⟨(World.cell?_of_block (a := ⟨g, off + 1, none⟩) h).trans HC.out.1, (World.cell?_of_block (a := ⟨g, off + 1 + 1, none⟩) h).trans HC.out.2.1, (World.cell?_of_block (a := ⟨g, off + 1 + 2, none⟩) h).trans HC.out.2.2.1, (World.cell?_of_block (a := ⟨g, off + 1 + 3, none⟩) h).trans HC.out.2.2.2⟩
  have hfr : ∀ (W : World) (h : W.heap[g]? = w.heap[g]?), Calls Try.prog 203 #[.slice (some ⟨g, off + 1, none⟩) (n - 1) (cap - 1)] W fun e w' => e = .returned (.int .u32 (four a1 a2 a3 a4)) ∧ ∃ m, w' = W.drewN m := fun W h =>
    four_any g (off + 1) (n - 1) (cap - 1) a1 a2 a3 a4 W (by omega) ha1 ha2 ha3 ha4 (h1 W h).1 (h1 W h).2.1 (h1 W h).2.2.1 (h1 W h).2.2.2
  have HF := Lib.hid hfr
  clear h1 hfr
  go_region_with (go_at_call 203; refine (HF.out _ ?_).mono ?_; (first | rfl | exact heap_setCell_other _ _ _ _ hne); rintro e w' ⟨rfl, m4, rfl⟩)
  all_goals go_wp2
  all_goals go_ret
  all_goals refine ⟨congrArg (fun b => Ending.returned (.bool b)) ?_, Opd.set (Opd.set (Opd.drewN HX.out _) 1 (.int .i64 a0)) 4 (.int .u32 (four a1 a2 a3 a4))⟩
  all_goals (rw [Bool.eq_iff_iff]; simp [*] <;> omega)
end Go.Proofs.Ytcjcmnnhmajocab.Gu
namespace Go.Proofs.Ytcjcmnnhmajocab.Gu
open Go.RowKit
set_option linter.unusedVariables false
set_option linter.unusedSimpArgs false
def oD (sh d : Int) (a : Nat → Int) : Int := if sh = 6 ∨ sh = 8 then a 0 / 16 else if sh = 7 then a 0 % 16 else if sh = 9 ∨ sh = 10 then a 0 else d
def oS (sh s : Int) (a : Nat → Int) : Int := if sh = 5 ∨ sh = 12 then a 0 else if sh = 6 ∨ sh = 8 then a 0 % 16 else s
def oF (sh f : Int) (a : Nat → Int) : Int := if sh = 7 then a 0 / 16 else f
def oM (sh m : Int) (a : Nat → Int) : Int := if sh = 2 then a 0 else if sh = 3 then sgn (a 0) else if sh = 4 ∨ sh = 11 then four (a 0) (a 1) (a 2) (a 3) else if sh = 9 then four (a 1) (a 2) (a 3) (a 4) else if sh = 8 ∨ sh = 10 ∨ sh = 12 then sgn (a 1) else m
set_option maxRecDepth 100000 in
set_option maxHeartbeats 1000000 in
theorem opnd_1 (X g off n cap : Nat) (o d s f m : Int) (w : World) (hX : w.heap[X]? = some (.cells (In5 o d s f m) 149 (0, 0))) :
    Calls Try.prog 181 #[.pointer (some ⟨X, 0, none⟩), .int .i64 1, .slice (some ⟨g, off, none⟩) n cap] w fun e w' => e = .returned (.bool (decide (d < 8) && decide (s < 8))) ∧ Opd X (In5 o d s f m) w w' := by
  have x1 := cell_of_row w X 1 _ _ _ hX
  have x2 := cell_of_row w X 2 _ _ _ hX
  simp only [In5, List.getElem?_toArray, List.getElem?_cons_zero, List.getElem?_cons_succ] at x1 x2
  have HX := Lib.hid (Opd.start hX)
  clear hX
  go_enter Try.func181, Try.ntmps181
  go_wp2
  all_goals go_ret
  all_goals refine ⟨congrArg (fun b => Ending.returned (.bool b)) ?_, HX.out⟩
  all_goals (rw [Bool.eq_iff_iff]; simp [*] <;> omega)
theorem opnd_any (sh : Int) (h1 : 1 ≤ sh) (h12 : sh ≤ 12) (X g off n cap : Nat) (o d s f m : Int) (a : Nat → Int) (w : World) (hX : w.heap[X]? = some (.cells (In5 o d s f m) 149 (0, 0))) (hne : g ≠ X) (hn : shSize sh ≤ (n : Int) + 1) (hcap : n ≤ cap)
    (ha : ∀ j, 0 ≤ a j ∧ a j < 256) (hc : ∀ j, j < n → w.cell? ⟨g, off + j, none⟩ = some (.int .u8 (a j))) :
    Calls Try.prog 181 #[.pointer (some ⟨X, 0, none⟩), .int .i64 sh, .slice (some ⟨g, off, none⟩) n cap] w fun e w' => e = .returned (.bool (decide (oD sh d a < 8) && decide (oS sh s a < 8))) ∧ Opd X (In5 o (oD sh d a) (oS sh s a) (oF sh f a) (oM sh m a)) w w' := by
  have hk : sh = 1 ∨ sh = 2 ∨ sh = 3 ∨ sh = 4 ∨ sh = 5 ∨ sh = 6 ∨ sh = 7 ∨ sh = 8 ∨ sh = 9 ∨ sh = 10 ∨ sh = 11 ∨ sh = 12 := by omega
  rcases hk with rfl | rfl | rfl | rfl | rfl | rfl | rfl | rfl | rfl | rfl | rfl | rfl
  all_goals (simp only [shSize] at hn)
  · exact opnd_1 X g off n cap o d s f m w hX
  · exact opnd_2 X g off n cap o d s f m (a 0) w hX hne (by omega) (ha 0) (hc 0 (by omega))
  · exact opnd_3 X g off n cap o d s f m (a 0) w hX hne (by omega) (ha 0) (hc 0 (by omega))
  · exact opnd_4 X g off n cap o d s f m (a 0) (a 1) (a 2) (a 3) w hX hne (by omega) (ha 0) (ha 1) (ha 2) (ha 3) (hc 0 (by omega)) (hc 1 (by omega)) (hc 2 (by omega)) (hc 3 (by omega))
  · exact opnd_5 X g off n cap o d s f m (a 0) w hX hne (by omega) (ha 0) (hc 0 (by omega))
  · exact opnd_6 X g off n cap o d s f m (a 0) w hX hne (by omega) (ha 0) (hc 0 (by omega))
  · exact opnd_7 X g off n cap o d s f m (a 0) w hX hne (by omega) (ha 0) (hc 0 (by omega))
  · exact opnd_8 X g off n cap o d s f m (a 0) (a 1) w hX hne (by omega) (ha 0) (ha 1) (hc 0 (by omega)) (hc 1 (by omega))
  · exact opnd_9 X g off n cap o d s f m (a 0) (a 1) (a 2) (a 3) (a 4) w hX hne (by omega) hcap (ha 0) (ha 1) (ha 2) (ha 3) (ha 4) (hc 0 (by omega)) (hc 1 (by omega)) (hc 2 (by omega)) (hc 3 (by omega)) (hc 4 (by omega))
  · exact opnd_10 X g off n cap o d s f m (a 0) (a 1) w hX hne (by omega) (ha 0) (ha 1) (hc 0 (by omega)) (hc 1 (by omega))
  · exact opnd_11 X g off n cap o d s f m (a 0) (a 1) (a 2) (a 3) w hX hne (by omega) (ha 0) (ha 1) (ha 2) (ha 3) (hc 0 (by omega)) (hc 1 (by omega)) (hc 2 (by omega)) (hc 3 (by omega))
  · exact opnd_12 X g off n cap o d s f m (a 0) (a 1) w hX hne (by omega) (ha 0) (ha 1) (hc 0 (by omega)) (hc 1 (by omega))
end Go.Proofs.Ytcjcmnnhmajocab.Gu
namespace Go.Proofs.Ytcjcmnnhmajocab.Gu
open Go.RowKit
set_option linter.unusedVariables false
def fptr (X : Nat) (fi : Int) : Value := if fi = 1 then .pointer (some ⟨X, 1, none⟩) else if fi = 2 then .pointer (some ⟨X, 2, none⟩) else if fi = 3 then .pointer (some ⟨X, 3, none⟩) else .pointer none
set_option maxHeartbeats 1000000 in
theorem field_any (X : Nat) (o s l fi : Int) (h0 : 0 ≤ fi) (h3 : fi ≤ 3) (w : World) : Calls Try.prog 180 #[.agg #[.int .i64 o, .int .i64 s, .int .i64 l, .int .i64 fi], .pointer (some ⟨X, 0, none⟩)] w fun e w' => e = .returned (fptr X fi) ∧ Below w.heap.size w w' := by
  rcases (show fi = 0 ∨ fi = 1 ∨ fi = 2 ∨ fi = 3 by omega) with rfl | rfl | rfl | rfl
  all_goals go_enter Try.func180, Try.ntmps180
  all_goals go_wp2
  all_goals go_ret
  all_goals exact ⟨rfl, (Below.refl _ _).alloc (Nat.le_refl _) _⟩
end Go.Proofs.Ytcjcmnnhmajocab.Gu
