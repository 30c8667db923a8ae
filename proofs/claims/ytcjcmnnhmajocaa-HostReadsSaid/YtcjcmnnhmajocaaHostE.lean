import Derived.Test.YtcjcmnnhmajocaaHostD
import Derived.Test.YtcjcmnnhmajocaaHostH
namespace Go.Proofs.Ytcjcmnnhmajocaa.Ho
open Go.RowKit Kt
set_option linter.unusedVariables false
set_option linter.unusedSimpArgs false
theorem rint {k : IntKind} {a b : Int} (h : a = b) : Ending.returned (.int k a) = .returned (.int k b) := by rw [h]
set_option maxHeartbeats 4000000 in
theorem first_any (o d a b c n k x : Int) (w : World) : Calls Try.prog 60 #[.agg #[.int .i64 o, .int .i64 d, .int .i64 a, .int .i64 b, .int .i64 c, .int .i64 n, .int .u32 k, .int .u32 x]] w fun e w' => e = .returned (.int .u32 ((o + 256 * d + 4096 * a + 65536 * b + 1048576 * c + 65536 * n) % 4294967296)) ∧ Below w.heap.size w w' := by
  go_enter Try.func60, Try.ntmps60
  go_wp2
  go_ret
  refine ⟨rint ?_, (Below.refl _ _).alloc (Nat.le_refl _) _⟩
  omega
theorem fin26 {W : World} {tmps : Array Value} {T : Nat} {o d a b c n k x m e : Int} (hT : W.heap[T]? = some (.cells (cod o d a b c n k x) 46 (0, 0))) (h4 : tmps.getD 4 undef = .pointer (some ⟨T, 0, none⟩)) (h5 : tmps.getD 5 undef = .int .i64 m) (h6 : tmps.getD 6 undef = .int .i64 e) :
    (results Try.f26 tmps).run Try.prog W = .ok (.tuple #[.agg (cod o d a b c n k x), .int .i64 m, .int .i64 e]) W := by
  have kT := (cells_of hT).1
  simp only [Array.getD_eq_getD_getElem?] at h4 h5 h6
  simp [results, Try.results26, h4, h5, h6, go_sem, kT, cod]
theorem rend_any {w W : World} {a : Act} {v : Value} {o d r b c n k x m e : Int} (hT : W.heap[w.heap.size]? = some (.cells zer 46 (0, 0))) (hB : Below w.heap.size w W) (hv : v = .tuple #[.agg (cod o d r b c n k x), .int .i64 m, .int .i64 e])
    (h4 : a.tmps.getD 4 undef = .pointer (some ⟨w.heap.size, 0, none⟩)) (h5 : a.tmps.getD 5 undef = .int .i64 m) (h6 : a.tmps.getD 6 undef = .int .i64 e) (hd : a.defers = []) :
    bodyPost Try.prog Try.f26 (fun e w' => e = .returned v ∧ Below w.heap.size w w') .ret a
      ((((((((W.setCell ⟨w.heap.size, 0, none⟩ (.int .i64 o)).setCell ⟨w.heap.size, 1, none⟩ (.int .i64 d)).setCell ⟨w.heap.size, 2, none⟩ (.int .i64 r)).setCell ⟨w.heap.size, 3, none⟩ (.int .i64 b)).setCell ⟨w.heap.size, 4, none⟩ (.int .i64 c)).setCell ⟨w.heap.size, 5, none⟩ (.int .i64 n)).setCell ⟨w.heap.size, 6, none⟩ (.int .u32 k)).setCell ⟨w.heap.size, 7, none⟩ (.int .u32 x)) := by
  subst hv
  exact bodyPost_ret (fin26 (set8 hT rfl _ _ _ _ _ _ _ _) h4 h5 h6) hd ⟨rfl, set8_below hB (Nat.le_refl _) _ _ _ _ _ _ _ _⟩
theorem behindT {w w1 : World} {A B : Array Value} {ta tb : TypeId} (hb1 : Below ((w.alloc (.cells A ta)).alloc (.cells B tb)).heap.size ((w.alloc (.cells A ta)).alloc (.cells B tb)) w1) :
    w1.heap[w.heap.size]? = some (.cells A ta (0, 0)) := by
  rw [hb1.block _ (by simp; omega), Below.heap_alloc _ _ _ (by simp)]
  exact heap_alloc_new w _
theorem fsm14 {o : Int} (h : fsm o = 14) : o = 12 := by
  by_cases a0 : o = 0
  · subst a0; exact absurd h (by decide)
  by_cases a1 : o = 1
  · subst a1; exact absurd h (by decide)
  by_cases a2 : o = 2
  · subst a2; exact absurd h (by decide)
  by_cases a4 : o = 4
  · subst a4; exact absurd h (by decide)
  by_cases a6 : o = 6
  · subst a6; exact absurd h (by decide)
  by_cases a7 : o = 7
  · subst a7; exact absurd h (by decide)
  by_cases a8 : o = 8
  · subst a8; exact absurd h (by decide)
  by_cases a9 : o = 9
  · subst a9; exact absurd h (by decide)
  by_cases a10 : o = 10
  · subst a10; exact absurd h (by decide)
  by_cases a11 : o = 11
  · subst a11; exact absurd h (by decide)
  by_cases a12 : o = 12
  · exact a12
  by_cases a13 : o = 13
  · subst a13; exact absurd h (by decide)
  by_cases a14 : o = 14
  · subst a14; exact absurd h (by decide)
  by_cases a15 : o = 15
  · subst a15; exact absurd h (by decide)
  unfold fsm at h
  rw [if_neg a0, if_neg a1, if_neg a2, if_neg a4, if_neg a6, if_neg a7, if_neg a8, if_neg a9, if_neg a10, if_neg a11, if_neg a12, if_neg a13, if_neg a14, if_neg a15] at h
  exact absurd h (by decide)
theorem fcls14 {o : Int} (h : fcls o = 14) : o = 12 := by
  by_cases b1 : 16 ≤ o ∧ o < 32
  · rw [fcls_1 o b1] at h; exact absurd h (by decide)
  by_cases b2 : 32 ≤ o ∧ o < 39 ∨ 64 ≤ o ∧ o < 80 ∨ o = 3
  · rw [fcls_2 o b2] at h; exact absurd h (by decide)
  by_cases b3 : 48 ≤ o ∧ o < 61 ∨ o = 5
  · rw [fcls_3 o b3] at h; exact absurd h (by decide)
  by_cases b4 : 80 ≤ o ∧ o < 85 ∨ 88 ≤ o ∧ o < 91
  · rw [fcls_4 o b4] at h; exact absurd h (by decide)
  by_cases b5 : o = 97
  · rw [fcls_5 o b5] at h; exact absurd h (by decide)
  by_cases b6 : o = 96
  · rw [fcls_6 o b6] at h; exact absurd h (by decide)
  rw [fsm_of o b1 b2 b3 b4 b5 b6] at h
  exact fsm14 h
theorem fsm15 {o : Int} (h : fsm o = 15) : o = 13 := by
  by_cases a0 : o = 0
  · subst a0; exact absurd h (by decide)
  by_cases a1 : o = 1
  · subst a1; exact absurd h (by decide)
  by_cases a2 : o = 2
  · subst a2; exact absurd h (by decide)
  by_cases a4 : o = 4
  · subst a4; exact absurd h (by decide)
  by_cases a6 : o = 6
  · subst a6; exact absurd h (by decide)
  by_cases a7 : o = 7
  · subst a7; exact absurd h (by decide)
  by_cases a8 : o = 8
  · subst a8; exact absurd h (by decide)
  by_cases a9 : o = 9
  · subst a9; exact absurd h (by decide)
  by_cases a10 : o = 10
  · subst a10; exact absurd h (by decide)
  by_cases a11 : o = 11
  · subst a11; exact absurd h (by decide)
  by_cases a12 : o = 12
  · subst a12; exact absurd h (by decide)
  by_cases a13 : o = 13
  · exact a13
  by_cases a14 : o = 14
  · subst a14; exact absurd h (by decide)
  by_cases a15 : o = 15
  · subst a15; exact absurd h (by decide)
  unfold fsm at h
  rw [if_neg a0, if_neg a1, if_neg a2, if_neg a4, if_neg a6, if_neg a7, if_neg a8, if_neg a9, if_neg a10, if_neg a11, if_neg a12, if_neg a13, if_neg a14, if_neg a15] at h
  exact absurd h (by decide)
theorem fcls15 {o : Int} (h : fcls o = 15) : o = 13 := by
  by_cases b1 : 16 ≤ o ∧ o < 32
  · rw [fcls_1 o b1] at h; exact absurd h (by decide)
  by_cases b2 : 32 ≤ o ∧ o < 39 ∨ 64 ≤ o ∧ o < 80 ∨ o = 3
  · rw [fcls_2 o b2] at h; exact absurd h (by decide)
  by_cases b3 : 48 ≤ o ∧ o < 61 ∨ o = 5
  · rw [fcls_3 o b3] at h; exact absurd h (by decide)
  by_cases b4 : 80 ≤ o ∧ o < 85 ∨ 88 ≤ o ∧ o < 91
  · rw [fcls_4 o b4] at h; exact absurd h (by decide)
  by_cases b5 : o = 97
  · rw [fcls_5 o b5] at h; exact absurd h (by decide)
  by_cases b6 : o = 96
  · rw [fcls_6 o b6] at h; exact absurd h (by decide)
  rw [fsm_of o b1 b2 b3 b4 b5 b6] at h
  exact fsm15 h
end Go.Proofs.Ytcjcmnnhmajocaa.Ho
