/- guest.operands, by shapes. -/
import Derived.Deep.RegionWith
import Derived.Test.YtcjcmnnhmajocabGreatPlae
set_option linter.unusedVariables false
set_option linter.unusedSimpArgs false
set_option maxRecDepth 100000
set_option maxHeartbeats 16000000
namespace Go.Proofs.YtcjcmnnhmajocabGreat.Gu
open Go.RowKit
theorem and15 (x : Int) (h : 0 ≤ x) (g : x < 256) : bits .and .u8 x 15 = x % 16 := bits_mask .u8 8 (by decide) (fun n h₀ h₁ => by rw [IntKind.wrap_u8]; omega) 4 (by decide) x h g
def In5 (o d s f m : Int) : Array Value := #[.int .i64 o, .int .i64 d, .int .i64 s, .int .i64 f, .int .u32 m]
/-- only block X has changed -/
def Opd (X : Nat) (cs : Array Value) (w w' : World) : Prop :=
 w'.heap[X]? = some (.cells cs 74 (0, 0)) ∧ w'.heap.size = w.heap.size ∧ (∀ k, k ≠ X → w'.heap[k]? = w.heap[k]?) ∧ ∀ B, B ≤ X → Below B w w'
theorem Opd.start {X : Nat} {cs : Array Value} {w : World} (h : w.heap[X]? = some (.cells cs 74 (0, 0))) : Opd X cs w w := ⟨h, rfl, fun _ _ => rfl, fun B _ => Below.refl B w⟩
theorem Opd.set {X : Nat} {cs : Array Value} {w w' : World} (h : Opd X cs w w') (j : Nat) (v : Value) : Opd X (cs.setIfInBounds j v) w (w'.setCell ⟨X, j, none⟩ v) :=
 ⟨heap_setCell_same _ _ _ _ _ _ h.1, by rw [← h.2.1]; simp, fun k hk => (heap_setCell_other _ _ _ _ hk).trans (h.2.2.1 k hk), fun B hB => (h.2.2.2 B hB).setCell hB _⟩
theorem Opd.drew {X : Nat} {cs : Array Value} {w w' : World} (h : Opd X cs w w') : Opd X cs w w'.drew := ⟨h.1, h.2.1, h.2.2.1, fun B hB => (h.2.2.2 B hB).drew⟩
theorem Opd.drewN {X : Nat} {cs : Array Value} {w w' : World} (h : Opd X cs w w') (n : Nat) : Opd X cs w (w'.drewN n) := ⟨h.1, h.2.1, h.2.2.1, fun B hB => ⟨(h.2.2.2 B hB).os, (h.2.2.2 B hB).tape, (h.2.2.2 B hB).output, (h.2.2.2 B hB).size, (h.2.2.2 B hB).block⟩⟩
theorem opnd_2 (X g off n cap : Nat) (o d s f m a0 : Int) (w : World) (hX : w.heap[X]? = some (.cells (In5 o d s f m) 74 (0, 0))) (hne : g ≠ X) (hn : 1 ≤ n) (ha0 : 0 ≤ a0 ∧ a0 < 256) (c0 : w.cell? ⟨g, off, none⟩ = some (.int .u8 a0)) :
  Calls Tryz.prog 115 #[.pointer (some ⟨X, 0, none⟩), .int .i64 2, .slice (some ⟨g, off, none⟩) n cap] w fun e w' => e = .returned (.bool (decide (d < 8) && decide (s < 8))) ∧ Opd X (In5 o d s f a0) w w' := by
 have n0 : (0 : Int) < (n : Int) := by omega
 have e15_0 := and15 a0 ha0.1 ha0.2
 have sg0 := κ (signed_any a0 ha0.1 ha0.2)
 obtain ⟨l0, u0⟩ := ha0
 have x0 := cell_of_row w X 0 _ _ _ hX
 have z0 := frozen_of_row w X 0 _ _ hX
 have x1 := cell_of_row w X 1 _ _ _ hX
 have z1 := frozen_of_row w X 1 _ _ hX
 have x2 := cell_of_row w X 2 _ _ _ hX
 have z2 := frozen_of_row w X 2 _ _ hX
 have x3 := cell_of_row w X 3 _ _ _ hX
 have z3 := frozen_of_row w X 3 _ _ hX
 have x4 := cell_of_row w X 4 _ _ _ hX
 have z4 := frozen_of_row w X 4 _ _ hX
 simp only [In5, List.getElem?_toArray, List.getElem?_cons_zero, List.getElem?_cons_succ] at x0 x1 x2 x3 x4
 have HX := κ (Opd.start hX)
 clear hX
 go_enter Tryz.func115, Tryz.ntmps115
 go_wp2
 all_goals go_ret
 all_goals refine ⟨congrArg (fun b => Ending.returned (.bool b)) ?_, (Opd.set HX.out 4 (.int .u32 a0))⟩
 all_goals (rw [Bool.eq_iff_iff]; simp [*] <;> omega)
theorem opnd_3 (X g off n cap : Nat) (o d s f m a0 : Int) (w : World) (hX : w.heap[X]? = some (.cells (In5 o d s f m) 74 (0, 0))) (hne : g ≠ X) (hn : 1 ≤ n) (ha0 : 0 ≤ a0 ∧ a0 < 256) (c0 : w.cell? ⟨g, off, none⟩ = some (.int .u8 a0)) :
  Calls Tryz.prog 115 #[.pointer (some ⟨X, 0, none⟩), .int .i64 3, .slice (some ⟨g, off, none⟩) n cap] w fun e w' => e = .returned (.bool (decide (d < 8) && decide (s < 8))) ∧ Opd X (In5 o d s f (sgn a0)) w w' := by
 have n0 : (0 : Int) < (n : Int) := by omega
 have e15_0 := and15 a0 ha0.1 ha0.2
 have sg0 := κ (signed_any a0 ha0.1 ha0.2)
 obtain ⟨l0, u0⟩ := ha0
 have x0 := cell_of_row w X 0 _ _ _ hX
 have z0 := frozen_of_row w X 0 _ _ hX
 have x1 := cell_of_row w X 1 _ _ _ hX
 have z1 := frozen_of_row w X 1 _ _ hX
 have x2 := cell_of_row w X 2 _ _ _ hX
 have z2 := frozen_of_row w X 2 _ _ hX
 have x3 := cell_of_row w X 3 _ _ _ hX
 have z3 := frozen_of_row w X 3 _ _ hX
 have x4 := cell_of_row w X 4 _ _ _ hX
 have z4 := frozen_of_row w X 4 _ _ hX
 simp only [In5, List.getElem?_toArray, List.getElem?_cons_zero, List.getElem?_cons_succ] at x0 x1 x2 x3 x4
 have HX := κ (Opd.start hX)
 clear hX
 go_enter Tryz.func115, Tryz.ntmps115
 go_wp2_with (go_at_call 180; refine (sg0.out _).mono ?_; rintro e w' ⟨rfl, rfl⟩)
 all_goals go_ret
 all_goals refine ⟨congrArg (fun b => Ending.returned (.bool b)) ?_, (Opd.set HX.out 4 (.int .u32 (sgn a0)))⟩
 all_goals (rw [Bool.eq_iff_iff]; simp [*] <;> omega)
theorem opnd_4 (X g off n cap : Nat) (o d s f m a0 a1 a2 a3 : Int) (w : World) (hX : w.heap[X]? = some (.cells (In5 o d s f m) 74 (0, 0))) (hne : g ≠ X) (hn : 4 ≤ n) (ha0 : 0 ≤ a0 ∧ a0 < 256) (ha1 : 0 ≤ a1 ∧ a1 < 256) (ha2 : 0 ≤ a2 ∧ a2 < 256) (ha3 : 0 ≤ a3 ∧ a3 < 256) (c0 : w.cell? ⟨g, off, none⟩ = some (.int .u8 a0)) (c1 : w.cell? ⟨g, off + 1, none⟩ = some (.int .u8 a1)) (c2 : w.cell? ⟨g, off + 2, none⟩ = some (.int .u8 a2)) (c3 : w.cell? ⟨g, off + 3, none⟩ = some (.int .u8 a3)) :
  Calls Tryz.prog 115 #[.pointer (some ⟨X, 0, none⟩), .int .i64 4, .slice (some ⟨g, off, none⟩) n cap] w fun e w' => e = .returned (.bool (decide (d < 8) && decide (s < 8))) ∧ Opd X (In5 o d s f (four a0 a1 a2 a3)) w w' := by
 have n0 : (0 : Int) < (n : Int) := by omega
 have e15_0 := and15 a0 ha0.1 ha0.2
 have sg0 := κ (signed_any a0 ha0.1 ha0.2)
 obtain ⟨l0, u0⟩ := ha0
 have n1 : (1 : Int) < (n : Int) := by omega
 have e15_1 := and15 a1 ha1.1 ha1.2
 have sg1 := κ (signed_any a1 ha1.1 ha1.2)
 obtain ⟨l1, u1⟩ := ha1
 have n2 : (2 : Int) < (n : Int) := by omega
 have e15_2 := and15 a2 ha2.1 ha2.2
 have sg2 := κ (signed_any a2 ha2.1 ha2.2)
 obtain ⟨l2, u2⟩ := ha2
 have n3 : (3 : Int) < (n : Int) := by omega
 have e15_3 := and15 a3 ha3.1 ha3.2
 have sg3 := κ (signed_any a3 ha3.1 ha3.2)
 obtain ⟨l3, u3⟩ := ha3
 have x0 := cell_of_row w X 0 _ _ _ hX
 have z0 := frozen_of_row w X 0 _ _ hX
 have x1 := cell_of_row w X 1 _ _ _ hX
 have z1 := frozen_of_row w X 1 _ _ hX
 have x2 := cell_of_row w X 2 _ _ _ hX
 have z2 := frozen_of_row w X 2 _ _ hX
 have x3 := cell_of_row w X 3 _ _ _ hX
 have z3 := frozen_of_row w X 3 _ _ hX
 have x4 := cell_of_row w X 4 _ _ _ hX
 have z4 := frozen_of_row w X 4 _ _ hX
 simp only [In5, List.getElem?_toArray, List.getElem?_cons_zero, List.getElem?_cons_succ] at x0 x1 x2 x3 x4
 have HX := κ (Opd.start hX)
 clear hX
 go_enter Tryz.func115, Tryz.ntmps115
 have hfour := κ (four_any g off n cap a0 a1 a2 a3 w (by omega) ⟨l0, u0⟩ ⟨l1, u1⟩ ⟨l2, u2⟩ ⟨l3, u3⟩ c0 c1 c2 c3)
 go_wp2_with (go_at_call 181; refine (hfour.out).mono ?_; rintro e w' ⟨rfl, m4, rfl⟩)
 all_goals go_ret
 all_goals refine ⟨congrArg (fun b => Ending.returned (.bool b)) ?_, (Opd.set (Opd.drewN HX.out _) 4 (.int .u32 (four a0 a1 a2 a3)))⟩
 all_goals (rw [Bool.eq_iff_iff]; simp [*] <;> omega)
theorem opnd_5 (X g off n cap : Nat) (o d s f m a0 : Int) (w : World) (hX : w.heap[X]? = some (.cells (In5 o d s f m) 74 (0, 0))) (hne : g ≠ X) (hn : 1 ≤ n) (ha0 : 0 ≤ a0 ∧ a0 < 256) (c0 : w.cell? ⟨g, off, none⟩ = some (.int .u8 a0)) :
  Calls Tryz.prog 115 #[.pointer (some ⟨X, 0, none⟩), .int .i64 5, .slice (some ⟨g, off, none⟩) n cap] w fun e w' => e = .returned (.bool (decide (d < 8) && decide (a0 < 8))) ∧ Opd X (In5 o d a0 f m) w w' := by
 have n0 : (0 : Int) < (n : Int) := by omega
 have e15_0 := and15 a0 ha0.1 ha0.2
 have sg0 := κ (signed_any a0 ha0.1 ha0.2)
 obtain ⟨l0, u0⟩ := ha0
 have x0 := cell_of_row w X 0 _ _ _ hX
 have z0 := frozen_of_row w X 0 _ _ hX
 have x1 := cell_of_row w X 1 _ _ _ hX
 have z1 := frozen_of_row w X 1 _ _ hX
 have x2 := cell_of_row w X 2 _ _ _ hX
 have z2 := frozen_of_row w X 2 _ _ hX
 have x3 := cell_of_row w X 3 _ _ _ hX
 have z3 := frozen_of_row w X 3 _ _ hX
 have x4 := cell_of_row w X 4 _ _ _ hX
 have z4 := frozen_of_row w X 4 _ _ hX
 simp only [In5, List.getElem?_toArray, List.getElem?_cons_zero, List.getElem?_cons_succ] at x0 x1 x2 x3 x4
 have HX := κ (Opd.start hX)
 clear hX
 go_enter Tryz.func115, Tryz.ntmps115
 go_wp2
 all_goals go_ret
 all_goals refine ⟨congrArg (fun b => Ending.returned (.bool b)) ?_, (Opd.set HX.out 2 (.int .i64 a0))⟩
 all_goals (rw [Bool.eq_iff_iff]; simp [*] <;> omega)
theorem opnd_6 (X g off n cap : Nat) (o d s f m a0 : Int) (w : World) (hX : w.heap[X]? = some (.cells (In5 o d s f m) 74 (0, 0))) (hne : g ≠ X) (hn : 1 ≤ n) (ha0 : 0 ≤ a0 ∧ a0 < 256) (c0 : w.cell? ⟨g, off, none⟩ = some (.int .u8 a0)) :
  Calls Tryz.prog 115 #[.pointer (some ⟨X, 0, none⟩), .int .i64 6, .slice (some ⟨g, off, none⟩) n cap] w fun e w' => e = .returned (.bool (decide ((a0 / 16) < 8) && decide ((a0 % 16) < 8))) ∧ Opd X (In5 o (a0 / 16) (a0 % 16) f m) w w' := by
 have n0 : (0 : Int) < (n : Int) := by omega
 have e15_0 := and15 a0 ha0.1 ha0.2
 have sg0 := κ (signed_any a0 ha0.1 ha0.2)
 obtain ⟨l0, u0⟩ := ha0
 have x0 := cell_of_row w X 0 _ _ _ hX
 have z0 := frozen_of_row w X 0 _ _ hX
 have x1 := cell_of_row w X 1 _ _ _ hX
 have z1 := frozen_of_row w X 1 _ _ hX
 have x2 := cell_of_row w X 2 _ _ _ hX
 have z2 := frozen_of_row w X 2 _ _ hX
 have x3 := cell_of_row w X 3 _ _ _ hX
 have z3 := frozen_of_row w X 3 _ _ hX
 have x4 := cell_of_row w X 4 _ _ _ hX
 have z4 := frozen_of_row w X 4 _ _ hX
 simp only [In5, List.getElem?_toArray, List.getElem?_cons_zero, List.getElem?_cons_succ] at x0 x1 x2 x3 x4
 have HX := κ (Opd.start hX)
 clear hX
 go_enter Tryz.func115, Tryz.ntmps115
 go_wp2
 go_region
 go_wp2
 all_goals go_ret
 all_goals refine ⟨congrArg (fun b => Ending.returned (.bool b)) ?_, (Opd.set (Opd.set HX.out 1 (.int .i64 (a0 / 16))) 2 (.int .i64 (a0 % 16))).drew⟩
 all_goals (rw [Bool.eq_iff_iff]; simp [*] <;> omega)
theorem opnd_7 (X g off n cap : Nat) (o d s f m a0 : Int) (w : World) (hX : w.heap[X]? = some (.cells (In5 o d s f m) 74 (0, 0))) (hne : g ≠ X) (hn : 1 ≤ n) (ha0 : 0 ≤ a0 ∧ a0 < 256) (c0 : w.cell? ⟨g, off, none⟩ = some (.int .u8 a0)) :
  Calls Tryz.prog 115 #[.pointer (some ⟨X, 0, none⟩), .int .i64 7, .slice (some ⟨g, off, none⟩) n cap] w fun e w' => e = .returned (.bool (decide ((a0 % 16) < 8) && decide (s < 8))) ∧ Opd X (In5 o (a0 % 16) s (a0 / 16) m) w w' := by
 have n0 : (0 : Int) < (n : Int) := by omega
 have e15_0 := and15 a0 ha0.1 ha0.2
 have sg0 := κ (signed_any a0 ha0.1 ha0.2)
 obtain ⟨l0, u0⟩ := ha0
 have x0 := cell_of_row w X 0 _ _ _ hX
 have z0 := frozen_of_row w X 0 _ _ hX
 have x1 := cell_of_row w X 1 _ _ _ hX
 have z1 := frozen_of_row w X 1 _ _ hX
 have x2 := cell_of_row w X 2 _ _ _ hX
 have z2 := frozen_of_row w X 2 _ _ hX
 have x3 := cell_of_row w X 3 _ _ _ hX
 have z3 := frozen_of_row w X 3 _ _ hX
 have x4 := cell_of_row w X 4 _ _ _ hX
 have z4 := frozen_of_row w X 4 _ _ hX
 simp only [In5, List.getElem?_toArray, List.getElem?_cons_zero, List.getElem?_cons_succ] at x0 x1 x2 x3 x4
 have HX := κ (Opd.start hX)
 clear hX
 go_enter Tryz.func115, Tryz.ntmps115
 go_wp2
 go_region
 go_wp2
 all_goals go_ret
 all_goals refine ⟨congrArg (fun b => Ending.returned (.bool b)) ?_, (Opd.set (Opd.set HX.out 3 (.int .i64 (a0 / 16))) 1 (.int .i64 (a0 % 16))).drew⟩
 all_goals (rw [Bool.eq_iff_iff]; simp [*] <;> omega)
theorem opnd_11 (X g off n cap : Nat) (o d s f m a0 a1 a2 a3 : Int) (w : World) (hX : w.heap[X]? = some (.cells (In5 o d s f m) 74 (0, 0))) (hne : g ≠ X) (hn : 4 ≤ n) (ha0 : 0 ≤ a0 ∧ a0 < 256) (ha1 : 0 ≤ a1 ∧ a1 < 256) (ha2 : 0 ≤ a2 ∧ a2 < 256) (ha3 : 0 ≤ a3 ∧ a3 < 256) (c0 : w.cell? ⟨g, off, none⟩ = some (.int .u8 a0)) (c1 : w.cell? ⟨g, off + 1, none⟩ = some (.int .u8 a1)) (c2 : w.cell? ⟨g, off + 2, none⟩ = some (.int .u8 a2)) (c3 : w.cell? ⟨g, off + 3, none⟩ = some (.int .u8 a3)) :
  Calls Tryz.prog 115 #[.pointer (some ⟨X, 0, none⟩), .int .i64 11, .slice (some ⟨g, off, none⟩) n cap] w fun e w' => e = .returned (.bool (decide (d < 8) && decide (s < 8))) ∧ Opd X (In5 o d s f (four a0 a1 a2 a3)) w w' := by
 have n0 : (0 : Int) < (n : Int) := by omega
 have e15_0 := and15 a0 ha0.1 ha0.2
 have sg0 := κ (signed_any a0 ha0.1 ha0.2)
 obtain ⟨l0, u0⟩ := ha0
 have n1 : (1 : Int) < (n : Int) := by omega
 have e15_1 := and15 a1 ha1.1 ha1.2
 have sg1 := κ (signed_any a1 ha1.1 ha1.2)
 obtain ⟨l1, u1⟩ := ha1
 have n2 : (2 : Int) < (n : Int) := by omega
 have e15_2 := and15 a2 ha2.1 ha2.2
 have sg2 := κ (signed_any a2 ha2.1 ha2.2)
 obtain ⟨l2, u2⟩ := ha2
 have n3 : (3 : Int) < (n : Int) := by omega
 have e15_3 := and15 a3 ha3.1 ha3.2
 have sg3 := κ (signed_any a3 ha3.1 ha3.2)
 obtain ⟨l3, u3⟩ := ha3
 have x0 := cell_of_row w X 0 _ _ _ hX
 have z0 := frozen_of_row w X 0 _ _ hX
 have x1 := cell_of_row w X 1 _ _ _ hX
 have z1 := frozen_of_row w X 1 _ _ hX
 have x2 := cell_of_row w X 2 _ _ _ hX
 have z2 := frozen_of_row w X 2 _ _ hX
 have x3 := cell_of_row w X 3 _ _ _ hX
 have z3 := frozen_of_row w X 3 _ _ hX
 have x4 := cell_of_row w X 4 _ _ _ hX
 have z4 := frozen_of_row w X 4 _ _ hX
 simp only [In5, List.getElem?_toArray, List.getElem?_cons_zero, List.getElem?_cons_succ] at x0 x1 x2 x3 x4
 have HX := κ (Opd.start hX)
 clear hX
 go_enter Tryz.func115, Tryz.ntmps115
 have hfour := κ (four_any g off n cap a0 a1 a2 a3 w (by omega) ⟨l0, u0⟩ ⟨l1, u1⟩ ⟨l2, u2⟩ ⟨l3, u3⟩ c0 c1 c2 c3)
 go_wp2_with (go_at_call 181; refine (hfour.out).mono ?_; rintro e w' ⟨rfl, m4, rfl⟩)
 all_goals go_ret
 all_goals refine ⟨congrArg (fun b => Ending.returned (.bool b)) ?_, (Opd.set (Opd.drewN HX.out _) 4 (.int .u32 (four a0 a1 a2 a3)))⟩
 all_goals (rw [Bool.eq_iff_iff]; simp [*] <;> omega)
end Go.Proofs.YtcjcmnnhmajocabGreat.Gu
