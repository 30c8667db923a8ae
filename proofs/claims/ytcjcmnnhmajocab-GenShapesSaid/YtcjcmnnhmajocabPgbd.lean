/- gen: takes. -/
import Derived.Test.YtcjcmnnhmajocabPgba
namespace Go.Proofs.Ytcjcmnnhmajocab.Gn
open Go.RowKit Kt Ic Hr Ho Me
set_option linter.unusedVariables false
set_option linter.unusedSimpArgs false
/-- ints in a slice that lies behind B -/
def TS (B : Nat) (l : List Int) (ao : Option Addr) (cap : Nat) (w : World) : Prop := l.length ≤ cap ∧ (0 < l.length → ∃ b, ao = some ⟨b, 0, none⟩ ∧ B ≤ b ∧ b < w.heap.size ∧ ∀ j, j < l.length → w.cell? ⟨b, j, none⟩ = some (.int .i64 (l.getD j 0)))
theorem TS.upto {B : Nat} {l : List Int} {ao : Option Addr} {cap : Nat} {S : Nat → Prop} {w w' : World} (a : TS B l ao cap w) (u : Upto S w w') (hs : ∀ q, ao = some q → 0 < l.length → ¬ S q.block) : TS B l ao cap w' := by
  obtain ⟨h1, h2⟩ := a
  refine ⟨h1, fun h0 => ?_⟩
  obtain ⟨b, e, l1, l2, hc⟩ := h2 h0
  exact ⟨b, e, l1, Nat.lt_of_lt_of_le l2 u.size, fun j hj => (u.cell (q := ⟨b, j, none⟩) l2 (show ¬ S b from hs _ e h0)).trans (hc j hj)⟩
theorem ts_new (w : World) (B : Nat) (l : List Int) (cs : Array Value) (t : TypeId) (hB : B ≤ w.heap.size) (hcs : cs = (l.map (Value.int .i64)).toArray) : TS B l (some ⟨w.heap.size, 0, none⟩) l.length (w.alloc (.cells cs t)) := by
  refine ⟨Nat.le_refl _, fun _ => ⟨w.heap.size, rfl, hB, by simp, fun j hj => ?_⟩⟩
  subst hcs
  rw [cell_of_row _ w.heap.size j _ _ _ (heap_alloc_new w _), List.getElem?_toArray, List.getElem?_map, List.getD_eq_getElem?_getD, List.getElem?_eq_getElem hj]
  rfl
set_option maxRecDepth 100000 in
set_option maxHeartbeats 16000000 in
theorem takes_any (o : Opr) (w : World) :
    Calls Try.prog 46 #[.agg #[.int .i64 o.k, .int .i64 o.w, .int .i64 o.a, .int .i64 o.b, .int .i64 o.c, .int .u32 o.kn, .int .i64 o.n]] w fun e w' => (∃ ao cap, e = .returned (.slice ao (tk o).length cap) ∧ TS w.heap.size (tk o) ao cap w') ∧ Below w.heap.size w w' := by
  obtain ⟨k, ow, a, b, c, kn, n⟩ := o
  have b1 := ((Below.refl w.heap.size w).alloc (Nat.le_refl _) (.cells #[.int .i64 k, .int .i64 ow, .int .i64 a, .int .i64 b, .int .i64 c, .int .u32 kn, .int .i64 n] 31))
  have B1 := Lib.hid b1
  have sz : (w.alloc (.cells #[.int .i64 k, .int .i64 ow, .int .i64 a, .int .i64 b, .int .i64 c, .int .u32 kn, .int .i64 n] 31)).heap.size = w.heap.size + 1 := by simp
  have SZ := Lib.hid sz
  clear b1 sz
  dsimp only
  by_cases hk : k = 4 ∨ k = 10 ∨ k = 6 ∨ k = 7 ∨ k = 3 ∨ k = 5 ∨ k = 8 ∨ k = 9 ∨ k = 12 ∨ k = 13 ∨ k = 16
  · rcases hk with rfl | rfl | rfl | rfl | rfl | rfl | rfl | rfl | rfl | rfl | rfl
    · rw [show tk ⟨4, ow, a, b, c, kn, n⟩ = [a, b] from rfl] at *
      go_enter Try.func46, Try.ntmps46
      go_wp2
      go_ret
      refine ⟨⟨_, _, rfl, ?_⟩, B1.out.alloc (by rw [SZ.out]; omega) _⟩
      have := ts_new (w.alloc (.cells #[.int .i64 4, .int .i64 ow, .int .i64 a, .int .i64 b, .int .i64 c, .int .u32 kn, .int .i64 n] 31)) w.heap.size [a, b] #[.int .i64 a, .int .i64 b] 3 (by rw [SZ.out]; omega) rfl
      rw [SZ.out] at this
      exact this
    · rw [show tk ⟨10, ow, a, b, c, kn, n⟩ = [a, b] from rfl] at *
      go_enter Try.func46, Try.ntmps46
      go_wp2
      go_ret
      refine ⟨⟨_, _, rfl, ?_⟩, B1.out.alloc (by rw [SZ.out]; omega) _⟩
      have := ts_new (w.alloc (.cells #[.int .i64 10, .int .i64 ow, .int .i64 a, .int .i64 b, .int .i64 c, .int .u32 kn, .int .i64 n] 31)) w.heap.size [a, b] #[.int .i64 a, .int .i64 b] 3 (by rw [SZ.out]; omega) rfl
      rw [SZ.out] at this
      exact this
    · rw [show tk ⟨6, ow, a, b, c, kn, n⟩ = [a, b, c] from rfl] at *
      go_enter Try.func46, Try.ntmps46
      go_wp2
      go_ret
      refine ⟨⟨_, _, rfl, ?_⟩, B1.out.alloc (by rw [SZ.out]; omega) _⟩
      have := ts_new (w.alloc (.cells #[.int .i64 6, .int .i64 ow, .int .i64 a, .int .i64 b, .int .i64 c, .int .u32 kn, .int .i64 n] 31)) w.heap.size [a, b, c] #[.int .i64 a, .int .i64 b, .int .i64 c] 3 (by rw [SZ.out]; omega) rfl
      rw [SZ.out] at this
      exact this
    · rw [show tk ⟨7, ow, a, b, c, kn, n⟩ = [a, b, c] from rfl] at *
      go_enter Try.func46, Try.ntmps46
      go_wp2
      go_ret
      refine ⟨⟨_, _, rfl, ?_⟩, B1.out.alloc (by rw [SZ.out]; omega) _⟩
      have := ts_new (w.alloc (.cells #[.int .i64 7, .int .i64 ow, .int .i64 a, .int .i64 b, .int .i64 c, .int .u32 kn, .int .i64 n] 31)) w.heap.size [a, b, c] #[.int .i64 a, .int .i64 b, .int .i64 c] 3 (by rw [SZ.out]; omega) rfl
      rw [SZ.out] at this
      exact this
    · rw [show tk ⟨3, ow, a, b, c, kn, n⟩ = [a] from rfl] at *
      go_enter Try.func46, Try.ntmps46
      go_wp2
      go_ret
      refine ⟨⟨_, _, rfl, ?_⟩, B1.out.alloc (by rw [SZ.out]; omega) _⟩
      have := ts_new (w.alloc (.cells #[.int .i64 3, .int .i64 ow, .int .i64 a, .int .i64 b, .int .i64 c, .int .u32 kn, .int .i64 n] 31)) w.heap.size [a] #[.int .i64 a] 3 (by rw [SZ.out]; omega) rfl
      rw [SZ.out] at this
      exact this
    · rw [show tk ⟨5, ow, a, b, c, kn, n⟩ = [a] from rfl] at *
      go_enter Try.func46, Try.ntmps46
      go_wp2
      go_ret
      refine ⟨⟨_, _, rfl, ?_⟩, B1.out.alloc (by rw [SZ.out]; omega) _⟩
      have := ts_new (w.alloc (.cells #[.int .i64 5, .int .i64 ow, .int .i64 a, .int .i64 b, .int .i64 c, .int .u32 kn, .int .i64 n] 31)) w.heap.size [a] #[.int .i64 a] 3 (by rw [SZ.out]; omega) rfl
      rw [SZ.out] at this
      exact this
    · rw [show tk ⟨8, ow, a, b, c, kn, n⟩ = [a] from rfl] at *
      go_enter Try.func46, Try.ntmps46
      go_wp2
      go_ret
      refine ⟨⟨_, _, rfl, ?_⟩, B1.out.alloc (by rw [SZ.out]; omega) _⟩
      have := ts_new (w.alloc (.cells #[.int .i64 8, .int .i64 ow, .int .i64 a, .int .i64 b, .int .i64 c, .int .u32 kn, .int .i64 n] 31)) w.heap.size [a] #[.int .i64 a] 3 (by rw [SZ.out]; omega) rfl
      rw [SZ.out] at this
      exact this
    · rw [show tk ⟨9, ow, a, b, c, kn, n⟩ = [a] from rfl] at *
      go_enter Try.func46, Try.ntmps46
      go_wp2
      go_ret
      refine ⟨⟨_, _, rfl, ?_⟩, B1.out.alloc (by rw [SZ.out]; omega) _⟩
      have := ts_new (w.alloc (.cells #[.int .i64 9, .int .i64 ow, .int .i64 a, .int .i64 b, .int .i64 c, .int .u32 kn, .int .i64 n] 31)) w.heap.size [a] #[.int .i64 a] 3 (by rw [SZ.out]; omega) rfl
      rw [SZ.out] at this
      exact this
    · rw [show tk ⟨12, ow, a, b, c, kn, n⟩ = [a] from rfl] at *
      go_enter Try.func46, Try.ntmps46
      go_wp2
      go_ret
      refine ⟨⟨_, _, rfl, ?_⟩, B1.out.alloc (by rw [SZ.out]; omega) _⟩
      have := ts_new (w.alloc (.cells #[.int .i64 12, .int .i64 ow, .int .i64 a, .int .i64 b, .int .i64 c, .int .u32 kn, .int .i64 n] 31)) w.heap.size [a] #[.int .i64 a] 3 (by rw [SZ.out]; omega) rfl
      rw [SZ.out] at this
      exact this
    · rw [show tk ⟨13, ow, a, b, c, kn, n⟩ = [a] from rfl] at *
      go_enter Try.func46, Try.ntmps46
      go_wp2
      go_ret
      refine ⟨⟨_, _, rfl, ?_⟩, B1.out.alloc (by rw [SZ.out]; omega) _⟩
      have := ts_new (w.alloc (.cells #[.int .i64 13, .int .i64 ow, .int .i64 a, .int .i64 b, .int .i64 c, .int .u32 kn, .int .i64 n] 31)) w.heap.size [a] #[.int .i64 a] 3 (by rw [SZ.out]; omega) rfl
      rw [SZ.out] at this
      exact this
    · rw [show tk ⟨16, ow, a, b, c, kn, n⟩ = [a] from rfl] at *
      go_enter Try.func46, Try.ntmps46
      go_wp2
      go_ret
      refine ⟨⟨_, _, rfl, ?_⟩, B1.out.alloc (by rw [SZ.out]; omega) _⟩
      have := ts_new (w.alloc (.cells #[.int .i64 16, .int .i64 ow, .int .i64 a, .int .i64 b, .int .i64 c, .int .u32 kn, .int .i64 n] 31)) w.heap.size [a] #[.int .i64 a] 3 (by rw [SZ.out]; omega) rfl
      rw [SZ.out] at this
      exact this
  · have et : tk ⟨k, ow, a, b, c, kn, n⟩ = [] := by unfold tk; dsimp only; rw [if_neg (by omega), if_neg (by omega), if_neg (by omega)]
    rw [et]
    have e4 : (k == 4) = false := by simp; omega
    have e10 : (k == 10) = false := by simp; omega
    have e6 : (k == 6) = false := by simp; omega
    have e7 : (k == 7) = false := by simp; omega
    have e3 : (k == 3) = false := by simp; omega
    have e5 : (k == 5) = false := by simp; omega
    have e8 : (k == 8) = false := by simp; omega
    have e9 : (k == 9) = false := by simp; omega
    have e12 : (k == 12) = false := by simp; omega
    have e13 : (k == 13) = false := by simp; omega
    have e16 : (k == 16) = false := by simp; omega
    clear hk
    go_enter Try.func46, Try.ntmps46
    go_wp2
    go_ret
    exact ⟨⟨_, _, rfl, Nat.le_refl _, fun h => absurd h (by decide)⟩, B1.out⟩
end Go.Proofs.Ytcjcmnnhmajocab.Gn
