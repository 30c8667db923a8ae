/- guest.row.field: where the low bits of a first byte go. -/
import Derived.Test.YtcjcmnnhmajocabGreatPlbe
import Derived.Test.YtcjcmnnhmajocabGreatPlbg
import Derived.Test.YtcjcmnnhmajocabGreatPlbh
set_option linter.unusedVariables false
set_option linter.unusedSimpArgs false
set_option maxRecDepth 100000
set_option maxHeartbeats 16000000
namespace Go.Proofs.YtcjcmnnhmajocabGreat.Gu
open Go.RowKit
theorem opnd_9 (X g off n cap : Nat) (o d s f m a0 a1 a2 a3 a4 : Int) (w : World) (hX : w.heap[X]? = some (.cells (In5 o d s f m) 74 (0, 0))) (hne : g ≠ X) (hn : 5 ≤ n) (hcap : n ≤ cap)
  (ha0 : 0 ≤ a0 ∧ a0 < 256) (ha1 : 0 ≤ a1 ∧ a1 < 256) (ha2 : 0 ≤ a2 ∧ a2 < 256) (ha3 : 0 ≤ a3 ∧ a3 < 256) (ha4 : 0 ≤ a4 ∧ a4 < 256)
  (c0 : w.cell? ⟨g, off, none⟩ = some (.int .u8 a0)) (c1 : w.cell? ⟨g, off + 1, none⟩ = some (.int .u8 a1)) (c2 : w.cell? ⟨g, off + 2, none⟩ = some (.int .u8 a2)) (c3 : w.cell? ⟨g, off + 3, none⟩ = some (.int .u8 a3)) (c4 : w.cell? ⟨g, off + 4, none⟩ = some (.int .u8 a4)) :
  Calls Tryz.prog 115 #[.pointer (some ⟨X, 0, none⟩), .int .i64 9, .slice (some ⟨g, off, none⟩) n cap] w fun e w' => e = .returned (.bool (decide (a0 < 8) && decide (s < 8))) ∧ Opd X (In5 o a0 s f (four a1 a2 a3 a4)) w w' := by
 have n0 : (0 : Int) < (n : Int) := by omega
 have n1 : (1 : Int) ≤ (n : Int) := by omega
 have n2 : (n : Int) ≤ (cap : Int) := by omega
 have n3 : ¬ cap = 1 := by omega
 obtain ⟨l0, u0⟩ := ha0
 have HC := κ (And.intro c1 (And.intro c2 (And.intro c3 c4)))
 have x1 := cell_of_row w X 1 _ _ _ hX
 have x2 := cell_of_row w X 2 _ _ _ hX
 have x4 := cell_of_row w X 4 _ _ _ hX
 have z1 := frozen_of_row w X 1 _ _ hX
 have z4 := frozen_of_row w X 4 _ _ hX
 simp only [In5, List.getElem?_toArray, List.getElem?_cons_zero, List.getElem?_cons_succ] at x1 x2 x4
 have HX := κ (Opd.start hX)
 clear hX c1 c2 c3 c4
 go_enter Tryz.func115, Tryz.ntmps115
 go_wp2_with fail
 have h1 : ∀ (W : World), W.heap[g]? = w.heap[g]? → W.cell? ⟨g, off + 1, none⟩ = some (.int .u8 a1) ∧ W.cell? ⟨g, off + 1 + 1, none⟩ = some (.int .u8 a2) ∧ W.cell? ⟨g, off + 1 + 2, none⟩ = some (.int .u8 a3) ∧ W.cell? ⟨g, off + 1 + 3, none⟩ = some (.int .u8 a4) := fun W h =>
  ⟨(World.cell?_of_block (a := ⟨g, off + 1, none⟩) h).trans HC.out.1, (World.cell?_of_block (a := ⟨g, off + 1 + 1, none⟩) h).trans HC.out.2.1, (World.cell?_of_block (a := ⟨g, off + 1 + 2, none⟩) h).trans HC.out.2.2.1, (World.cell?_of_block (a := ⟨g, off + 1 + 3, none⟩) h).trans HC.out.2.2.2⟩
 have hfr : ∀ (W : World) (h : W.heap[g]? = w.heap[g]?), Calls Tryz.prog 181 #[.slice (some ⟨g, off + 1, none⟩) (n - 1) (cap - 1)] W fun e w' => e = .returned (.int .u32 (four a1 a2 a3 a4)) ∧ ∃ m, w' = W.drewN m := fun W h =>
  four_any g (off + 1) (n - 1) (cap - 1) a1 a2 a3 a4 W (by omega) ha1 ha2 ha3 ha4 (h1 W h).1 (h1 W h).2.1 (h1 W h).2.2.1 (h1 W h).2.2.2
 have HF := κ hfr
 clear h1 hfr
 go_region_with (go_at_call 181; refine (HF.out _ ?_).mono ?_; (first | rfl | exact heap_setCell_other _ _ _ _ hne); rintro e w' ⟨rfl, m4, rfl⟩)
 all_goals go_wp2
 all_goals go_ret
 all_goals refine ⟨congrArg (fun b => Ending.returned (.bool b)) ?_, Opd.set (Opd.set (Opd.drewN HX.out _) 1 (.int .i64 a0)) 4 (.int .u32 (four a1 a2 a3 a4))⟩
 all_goals (rw [Bool.eq_iff_iff]; simp [*] <;> omega)
def oD (sh d : Int) (a : Nat → Int) : Int := if sh = 6 ∨ sh = 8 then a 0 / 16 else if sh = 7 then a 0 % 16 else if sh = 9 ∨ sh = 10 then a 0 else d
def oS (sh s : Int) (a : Nat → Int) : Int := if sh = 5 ∨ sh = 12 then a 0 else if sh = 6 ∨ sh = 8 then a 0 % 16 else s
def oF (sh f : Int) (a : Nat → Int) : Int := if sh = 7 then a 0 / 16 else f
def oM (sh m : Int) (a : Nat → Int) : Int := if sh = 2 then a 0 else if sh = 3 then sgn (a 0) else if sh = 4 ∨ sh = 11 then four (a 0) (a 1) (a 2) (a 3) else if sh = 9 then four (a 1) (a 2) (a 3) (a 4) else if sh = 8 ∨ sh = 10 ∨ sh = 12 then sgn (a 1) else m
theorem opnd_1 (X g off n cap : Nat) (o d s f m : Int) (w : World) (hX : w.heap[X]? = some (.cells (In5 o d s f m) 74 (0, 0))) :
  Calls Tryz.prog 115 #[.pointer (some ⟨X, 0, none⟩), .int .i64 1, .slice (some ⟨g, off, none⟩) n cap] w fun e w' => e = .returned (.bool (decide (d < 8) && decide (s < 8))) ∧ Opd X (In5 o d s f m) w w' := by
 have x1 := cell_of_row w X 1 _ _ _ hX
 have x2 := cell_of_row w X 2 _ _ _ hX
 simp only [In5, List.getElem?_toArray, List.getElem?_cons_zero, List.getElem?_cons_succ] at x1 x2
 have HX := κ (Opd.start hX)
 clear hX
 go_enter Tryz.func115, Tryz.ntmps115
 go_wp2
 all_goals go_ret
 all_goals refine ⟨congrArg (fun b => Ending.returned (.bool b)) ?_, HX.out⟩
 all_goals (rw [Bool.eq_iff_iff]; simp [*] <;> omega)
theorem opnd_any (sh : Int) (h1 : 1 ≤ sh) (h12 : sh ≤ 12) (X g off n cap : Nat) (o d s f m : Int) (a : Nat → Int) (w : World) (hX : w.heap[X]? = some (.cells (In5 o d s f m) 74 (0, 0))) (hne : g ≠ X) (hn : shSize sh ≤ (n : Int) + 1) (hcap : n ≤ cap)
  (ha : ∀ j, 0 ≤ a j ∧ a j < 256) (hc : ∀ j, j < n → w.cell? ⟨g, off + j, none⟩ = some (.int .u8 (a j))) :
  Calls Tryz.prog 115 #[.pointer (some ⟨X, 0, none⟩), .int .i64 sh, .slice (some ⟨g, off, none⟩) n cap] w fun e w' => e = .returned (.bool (decide (oD sh d a < 8) && decide (oS sh s a < 8))) ∧ Opd X (In5 o (oD sh d a) (oS sh s a) (oF sh f a) (oM sh m a)) w w' := by
 have hk : sh = 1 ∨ sh = 2 ∨ sh = 3 ∨ sh = 4 ∨ sh = 5 ∨ sh = 6 ∨ sh = 7 ∨ sh = 8 ∨ sh = 9 ∨ sh = 10 ∨ sh = 11 ∨ sh = 12 := by omega
 rcases hk with rfl | rfl | rfl | rfl | rfl | rfl | rfl | rfl | rfl | rfl | rfl | rfl
 all_goals (simp only [shSize] at hn)
 ·exact opnd_1 X g off n cap o d s f m w hX
 ·exact opnd_2 X g off n cap o d s f m (a 0) w hX hne (by omega) (ha 0) (hc 0 (by omega))
 ·exact opnd_3 X g off n cap o d s f m (a 0) w hX hne (by omega) (ha 0) (hc 0 (by omega))
 ·exact opnd_4 X g off n cap o d s f m (a 0) (a 1) (a 2) (a 3) w hX hne (by omega) (ha 0) (ha 1) (ha 2) (ha 3) (hc 0 (by omega)) (hc 1 (by omega)) (hc 2 (by omega)) (hc 3 (by omega))
 ·exact opnd_5 X g off n cap o d s f m (a 0) w hX hne (by omega) (ha 0) (hc 0 (by omega))
 ·exact opnd_6 X g off n cap o d s f m (a 0) w hX hne (by omega) (ha 0) (hc 0 (by omega))
 ·exact opnd_7 X g off n cap o d s f m (a 0) w hX hne (by omega) (ha 0) (hc 0 (by omega))
 ·exact opnd_8 X g off n cap o d s f m (a 0) (a 1) w hX hne (by omega) (ha 0) (ha 1) (hc 0 (by omega)) (hc 1 (by omega))
 ·exact opnd_9 X g off n cap o d s f m (a 0) (a 1) (a 2) (a 3) (a 4) w hX hne (by omega) hcap (ha 0) (ha 1) (ha 2) (ha 3) (ha 4) (hc 0 (by omega)) (hc 1 (by omega)) (hc 2 (by omega)) (hc 3 (by omega)) (hc 4 (by omega))
 ·exact opnd_10 X g off n cap o d s f m (a 0) (a 1) w hX hne (by omega) (ha 0) (ha 1) (hc 0 (by omega)) (hc 1 (by omega))
 ·exact opnd_11 X g off n cap o d s f m (a 0) (a 1) (a 2) (a 3) w hX hne (by omega) (ha 0) (ha 1) (ha 2) (ha 3) (hc 0 (by omega)) (hc 1 (by omega)) (hc 2 (by omega)) (hc 3 (by omega))
 ·exact opnd_12 X g off n cap o d s f m (a 0) (a 1) w hX hne (by omega) (ha 0) (ha 1) (hc 0 (by omega)) (hc 1 (by omega))
def fptr (X : Nat) (fi : Int) : Value := if fi = 1 then .pointer (some ⟨X, 1, none⟩) else if fi = 2 then .pointer (some ⟨X, 2, none⟩) else if fi = 3 then .pointer (some ⟨X, 3, none⟩) else .pointer none
theorem field_any (X : Nat) (o s l fi : Int) (h0 : 0 ≤ fi) (h3 : fi ≤ 3) (w : World) : Calls Tryz.prog 114 #[.agg #[.int .i64 o, .int .i64 s, .int .i64 l, .int .i64 fi], .pointer (some ⟨X, 0, none⟩)] w fun e w' => e = .returned (fptr X fi) ∧ Below w.heap.size w w' := by
 rcases (show fi = 0 ∨ fi = 1 ∨ fi = 2 ∨ fi = 3 by omega) with rfl | rfl | rfl | rfl
 all_goals go_enter Tryz.func114, Tryz.ntmps114
 all_goals go_wp2
 all_goals go_ret
 all_goals exact ⟨rfl, (Below.refl _ _).alloc (Nat.le_refl _) _⟩
end Go.Proofs.YtcjcmnnhmajocabGreat.Gu
