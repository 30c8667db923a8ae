/- guest.operands of every shape. -/
import Derived.Test.YtcjcmnnhmajocaaGuS
import Derived.Test.YtcjcmnnhmajocaaGuOb
import Derived.Test.YtcjcmnnhmajocaaGuO8
import Derived.Test.YtcjcmnnhmajocaaGuO9
namespace Go.Proofs.Ytcjcmnnhmajocaa.Gu
open Go.RowKit
set_option linter.unusedVariables false
set_option linter.unusedSimpArgs false
def oD (sh d : Int) (a : Nat → Int) : Int := if sh = 6 ∨ sh = 8 then a 0 / 16 else if sh = 7 then a 0 % 16 else if sh = 9 ∨ sh = 10 then a 0 else d
def oS (sh s : Int) (a : Nat → Int) : Int := if sh = 5 ∨ sh = 12 then a 0 else if sh = 6 ∨ sh = 8 then a 0 % 16 else s
def oF (sh f : Int) (a : Nat → Int) : Int := if sh = 7 then a 0 / 16 else f
def oM (sh m : Int) (a : Nat → Int) : Int := if sh = 2 then a 0 else if sh = 3 then sgn (a 0) else if sh = 4 ∨ sh = 11 then four (a 0) (a 1) (a 2) (a 3) else if sh = 9 then four (a 1) (a 2) (a 3) (a 4) else if sh = 8 ∨ sh = 10 ∨ sh = 12 then sgn (a 1) else m
set_option maxRecDepth 100000 in
set_option maxHeartbeats 1000000 in
theorem opnd_1 (X g off n cap : Nat) (o d s f m : Int) (w : World) (hX : w.heap[X]? = some (.cells (In5 o d s f m) 57 (0, 0))) :
    Calls Try.prog 64 #[.pointer (some ⟨X, 0, none⟩), .int .i64 1, .slice (some ⟨g, off, none⟩) n cap] w fun e w' => e = .returned (.bool (decide (d < 8) && decide (s < 8))) ∧ Opd X (In5 o d s f m) w w' := by
  have x1 := cell_of_row w X 1 _ _ _ hX
  have x2 := cell_of_row w X 2 _ _ _ hX
  simp only [In5, List.getElem?_toArray, List.getElem?_cons_zero, List.getElem?_cons_succ] at x1 x2
  have HX := Lib.hid (Opd.start hX)
  clear hX
  go_enter Try.func64, Try.ntmps64
  go_wp2
  all_goals go_ret
  all_goals refine ⟨congrArg (fun b => Ending.returned (.bool b)) ?_, HX.out⟩
  all_goals (rw [Bool.eq_iff_iff]; simp [*] <;> omega)
theorem opnd_any (sh : Int) (h1 : 1 ≤ sh) (h12 : sh ≤ 12) (X g off n cap : Nat) (o d s f m : Int) (a : Nat → Int) (w : World) (hX : w.heap[X]? = some (.cells (In5 o d s f m) 57 (0, 0))) (hne : g ≠ X) (hn : shSize sh ≤ (n : Int) + 1) (hcap : n ≤ cap)
    (ha : ∀ j, 0 ≤ a j ∧ a j < 256) (hc : ∀ j, j < n → w.cell? ⟨g, off + j, none⟩ = some (.int .u8 (a j))) :
    Calls Try.prog 64 #[.pointer (some ⟨X, 0, none⟩), .int .i64 sh, .slice (some ⟨g, off, none⟩) n cap] w fun e w' => e = .returned (.bool (decide (oD sh d a < 8) && decide (oS sh s a < 8))) ∧ Opd X (In5 o (oD sh d a) (oS sh s a) (oF sh f a) (oM sh m a)) w w' := by
  have hk : sh = 1 ∨ sh = 2 ∨ sh = 3 ∨ sh = 4 ∨ sh = 5 ∨ sh = 6 ∨ sh = 7 ∨ sh = 8 ∨ sh = 9 ∨ sh = 10 ∨ sh = 11 ∨ sh = 12 := by omega
  rcases hk with rfl | rfl | rfl | rfl | rfl | rfl | rfl | rfl | rfl | rfl | rfl | rfl
  all_goals (simp only [shSize] at hn)
  · exact opnd_1 X g off n cap o d s f m w hX
  · exact opnd_2 X g off n cap o d s f m (a 0) w hX hne (by omega) (ha 0) (hc 0 (by omega))
  · exact opnd_3 X g off n cap o d s f m (a 0) w hX hne (by omega) (ha 0) (hc 0 (by omega))
  · exact opnd_4 X g off n cap o d s f m (a 0) (a 1) (a 2) (a 3) w hX hne (by omega) (ha 0) (ha 1) (ha 2) (ha 3) (hc 0 (by omega)) (hc 1 (by omega)) (hc 2 (by omega)) (hc 3 (by omega))
  · exact opnd_5 X g off n cap o d s f m (a 0) w hX hne (by omega) (ha 0) (hc 0 (by omega))
  · exact opnd_6 X g off n cap o d s f m (a 0) w hX hne (by omega) (ha 0) (hc 0 (by omega))
  · exact opnd_7 X g off n cap o d s f m (a 0) w hX hne (by omega) (ha 0) (hc 0 (by omega))
  · exact opnd_8 X g off n cap o d s f m (a 0) (a 1) w hX hne (by omega) (ha 0) (ha 1) (hc 0 (by omega)) (hc 1 (by omega))
  · exact opnd_9 X g off n cap o d s f m (a 0) (a 1) (a 2) (a 3) (a 4) w hX hne (by omega) hcap (ha 0) (ha 1) (ha 2) (ha 3) (ha 4) (hc 0 (by omega)) (hc 1 (by omega)) (hc 2 (by omega)) (hc 3 (by omega)) (hc 4 (by omega))
  · exact opnd_10 X g off n cap o d s f m (a 0) (a 1) w hX hne (by omega) (ha 0) (ha 1) (hc 0 (by omega)) (hc 1 (by omega))
  · exact opnd_11 X g off n cap o d s f m (a 0) (a 1) (a 2) (a 3) w hX hne (by omega) (ha 0) (ha 1) (ha 2) (ha 3) (hc 0 (by omega)) (hc 1 (by omega)) (hc 2 (by omega)) (hc 3 (by omega))
  · exact opnd_12 X g off n cap o d s f m (a 0) (a 1) w hX hne (by omega) (ha 0) (ha 1) (hc 0 (by omega)) (hc 1 (by omega))
end Go.Proofs.Ytcjcmnnhmajocaa.Gu
