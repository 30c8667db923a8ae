/- guest.operands: a register and four bytes. -/
import Derived.Test.YtcjcmnnhmajocaaGuO
namespace Go.Proofs.Ytcjcmnnhmajocaa.Gu
open Go.RowKit
set_option linter.unusedVariables false
set_option linter.unusedSimpArgs false
set_option maxRecDepth 100000 in
set_option maxHeartbeats 4000000 in
theorem opnd_9 (X g off n cap : Nat) (o d s f m a0 a1 a2 a3 a4 : Int) (w : World) (hX : w.heap[X]? = some (.cells (In5 o d s f m) 57 (0, 0))) (hne : g ≠ X) (hn : 5 ≤ n) (hcap : n ≤ cap)
   (ha0 : 0 ≤ a0 ∧ a0 < 256) (ha1 : 0 ≤ a1 ∧ a1 < 256) (ha2 : 0 ≤ a2 ∧ a2 < 256) (ha3 : 0 ≤ a3 ∧ a3 < 256) (ha4 : 0 ≤ a4 ∧ a4 < 256)
   (c0 : w.cell? ⟨g, off, none⟩ = some (.int .u8 a0)) (c1 : w.cell? ⟨g, off + 1, none⟩ = some (.int .u8 a1)) (c2 : w.cell? ⟨g, off + 2, none⟩ = some (.int .u8 a2)) (c3 : w.cell? ⟨g, off + 3, none⟩ = some (.int .u8 a3)) (c4 : w.cell? ⟨g, off + 4, none⟩ = some (.int .u8 a4)) :
    Calls Try.prog 64 #[.pointer (some ⟨X, 0, none⟩), .int .i64 9, .slice (some ⟨g, off, none⟩) n cap] w fun e w' => e = .returned (.bool (decide (a0 < 8) && decide (s < 8))) ∧ Opd X (In5 o a0 s f (four a1 a2 a3 a4)) w w' := by
  have n0 : (0 : Int) < (n : Int) := by omega
  have n1 : (1 : Int) ≤ (n : Int) := by omega
  have n2 : (n : Int) ≤ (cap : Int) := by omega
  have n3 : ¬ cap = 1 := by omega
  obtain ⟨l0, u0⟩ := ha0
  have HC := Lib.hid (And.intro c1 (And.intro c2 (And.intro c3 c4)))
  have x1 := cell_of_row w X 1 _ _ _ hX
  have x2 := cell_of_row w X 2 _ _ _ hX
  have x4 := cell_of_row w X 4 _ _ _ hX
  have z1 := frozen_of_row w X 1 _ _ hX
  have z4 := frozen_of_row w X 4 _ _ hX
  simp only [In5, List.getElem?_toArray, List.getElem?_cons_zero, List.getElem?_cons_succ] at x1 x2 x4
  have HX := Lib.hid (Opd.start hX)
  clear hX c1 c2 c3 c4
  go_enter Try.func64, Try.ntmps64
  go_wp2_with fail
  have h1 : ∀ (W : World), W.heap[g]? = w.heap[g]? → W.cell? ⟨g, off + 1, none⟩ = some (.int .u8 a1) ∧ W.cell? ⟨g, off + 1 + 1, none⟩ = some (.int .u8 a2) ∧ W.cell? ⟨g, off + 1 + 2, none⟩ = some (.int .u8 a3) ∧ W.cell? ⟨g, off + 1 + 3, none⟩ = some (.int .u8 a4) := fun W h =>
    ⟨(World.cell?_of_block (a := ⟨g, off + 1, none⟩) h).trans HC.out.1, (World.cell?_of_block (a := ⟨g, off + 1 + 1, none⟩) h).trans HC.out.2.1, (World.cell?_of_block (a := ⟨g, off + 1 + 2, none⟩) h).trans HC.out.2.2.1, (World.cell?_of_block (a := ⟨g, off + 1 + 3, none⟩) h).trans HC.out.2.2.2⟩
  have hfr : ∀ (W : World) (h : W.heap[g]? = w.heap[g]?), Calls Try.prog 111 #[.slice (some ⟨g, off + 1, none⟩) (n - 1) (cap - 1)] W fun e w' => e = .returned (.int .u32 (four a1 a2 a3 a4)) ∧ ∃ m, w' = W.drewN m := fun W h =>
    four_any g (off + 1) (n - 1) (cap - 1) a1 a2 a3 a4 W (by omega) ha1 ha2 ha3 ha4 (h1 W h).1 (h1 W h).2.1 (h1 W h).2.2.1 (h1 W h).2.2.2
  have HF := Lib.hid hfr
  clear h1 hfr
  go_region_with (go_at_call 111; refine (HF.out _ ?_).mono ?_; (first | rfl | exact heap_setCell_other _ _ _ _ hne); rintro e w' ⟨rfl, m4, rfl⟩)
  all_goals go_wp2
  all_goals go_ret
  all_goals refine ⟨congrArg (fun b => Ending.returned (.bool b)) ?_, Opd.set (Opd.set (Opd.drewN HX.out _) 1 (.int .i64 a0)) 4 (.int .u32 (four a1 a2 a3 a4))⟩
  all_goals (rw [Bool.eq_iff_iff]; simp [*] <;> omega)
end Go.Proofs.Ytcjcmnnhmajocaa.Gu
