/- Lemmas. -/
import Derived.WalkKit
import Derived.WalkLawsBesides
import Derived.WalkSpells
import Derived.Below
import Derived.Lib.Hide
import Derived.Test.YtcjcmnnhmajocabProg
import Derived.BigQuiet
import Derived.RowKit
import GoSem.ClaimWide
import Derived.WideShapes
set_option linter.unusedVariables false
set_option linter.unusedSimpArgs false
set_option maxRecDepth 100000
set_option maxHeartbeats 16000000
namespace Go.Proofs.Ytcjcmnnhmajocab.Kt
open Go.RowKit
theorem wpList_value {P : Program} {ops : Array Oper} {rest : List Oper} {o : Oper} {a : Act} {w : World} {Q : Exit → Act → World → Prop} (hg : o.guard = none) {v : Value}
  (h : (execOp a.eval o).run P w = .ok (.value v) w) (hK : wpList P ops Q rest (a.put o.dst v) w) : wpList P ops Q (o :: rest) a w :=
 wpList_plain hg fun K hK' => by
  unfold Oper.wp
  rw [h]
  exact hK' _ _ hK
end Go.Proofs.Ytcjcmnnhmajocab.Kt
namespace Go.Proofs.Ytcjcmnnhmajocab.Ho
open Go.RowKit
theorem mask15 (x : Int) (h : 0 ≤ x) (g : x < 4294967296) : bits .and .u32 x 15 = x % 16 := bits_mask .u32 32 (by decide) (fun n h₀ h₁ => by rw [IntKind.wrap_u32]; omega) 4 (by decide) x h g
theorem mask255 (x : Int) (h : 0 ≤ x) (g : x < 4294967296) : bits .and .u32 x 255 = x % 256 := bits_mask .u32 32 (by decide) (fun n h₀ h₁ => by rw [IntKind.wrap_u32]; omega) 8 (by decide) x h g
theorem mask65535 (x : Int) (h : 0 ≤ x) (g : x < 4294967296) : bits .and .u32 x 65535 = x % 65536 := bits_mask .u32 32 (by decide) (fun n h₀ h₁ => by rw [IntKind.wrap_u32]; omega) 16 (by decide) x h g
/-- the closure 'part': what it leaves -/
def Parted (B X R j : Nat) (cs : Array Value) (v q : Int) (is : Bool) (w w' : World) : Prop :=
 w'.heap.size = w.heap.size ∧ w'.heap[X]? = some (.cells (if is then cs.setIfInBounds j (.int .i64 v) else cs) 108 (0, 0)) ∧ w'.heap[R]? = some (.cells #[.int .u32 q] 22 (0, 0)) ∧
  (∀ k, k ≠ X → k ≠ R → w'.heap[k]? = w.heap[k]?) ∧ Below B w w'
theorem parted_of {B X R j : Nat} {cs : Array Value} {r v q : Int} {w : World} (hX : w.heap[X]? = some (.cells cs 108 (0, 0))) (hR : w.heap[R]? = some (.cells #[.int .u32 r] 22 (0, 0))) (hx : B ≤ X) (hr : B ≤ R) (hne : X ≠ R) :
  Parted B X R j cs v q false w (w.setCell ⟨R, 0, none⟩ (.int .u32 q)).drew ∧ Parted B X R j cs v q true w ((w.setCell ⟨R, 0, none⟩ (.int .u32 q)).setCell ⟨X, j, none⟩ (.int .i64 v)).drew := by
 have h1 : (w.setCell ⟨R, 0, none⟩ (.int .u32 q)).heap[X]? = some (.cells cs 108 (0, 0)) := (heap_setCell_other _ _ _ _ hne).trans hX
 refine ⟨⟨?_, ?_, one_setCell hR, fun k h1 h2 => heap_setCell_other _ _ _ _ h2, ((Below.refl _ _).setCell hr _).drew⟩, ?_, ?_, ?_, fun k h1 h2 => ?_, (((Below.refl _ _).setCell hr _).setCell hx _).drew⟩
 ·show (w.setCell _ _).heap.size = _; simp
 ·exact h1
 ·show ((w.setCell _ _).setCell _ _).heap.size = _; simp
 ·exact heap_setCell_same _ _ _ _ _ _ h1
 ·exact (heap_setCell_other _ _ _ _ (fun e => hne e.symm)).trans (one_setCell hR)
 ·exact (heap_setCell_other _ _ _ _ h1).trans (heap_setCell_other _ _ _ _ h2)
theorem part4 (is : Bool) (B X R j : Nat) (cs : Array Value) (r : Int) (w : World) (hX : w.heap[X]? = some (.cells cs 108 (0, 0))) (hR : w.heap[R]? = some (.cells #[.int .u32 r] 22 (0, 0)))
  (hx : B ≤ X) (hr : B ≤ R) (hne : X ≠ R) (hj : j < cs.size) (h0 : 0 ≤ r) (g0 : r < 4294967296) :
  Calls Try.prog 150 #[.bool is, .pointer (some ⟨X, j, none⟩), .int .i64 4, .pointer (some ⟨R, 0, none⟩)] w fun e w' => e = .returned (.bool (is || r % 16 == 0)) ∧ Parted B X R j cs (r % 16) (r / 16) is w w' := by
 have cR := cell_of_one hR
 have zR := free_of_one hR
 obtain ⟨v, hv⟩ : ∃ v, cs[j]? = some v := ⟨cs[j], by simp [hj]⟩
 have cX : w.cell? ⟨X, j, none⟩ = some v := by simp [World.cell?, hX, hv]
 have zX : w.frozen? ⟨X, j, none⟩ = false := frozen_of_row w X j cs _ hX
 have m := mask15 r h0 g0
 have hP := parted_of (j := j) (v := r % 16) (q := r / 16) hX hR hx hr hne
 cases is
 ·go_enter Try.func150, Try.ntmps150
  go_wp2
  go_region
  go_wp2
  go_ret
  exact ⟨rfl, hP.1⟩
 ·go_enter Try.func150, Try.ntmps150
  go_wp2
  go_region
  go_wp2
  go_ret
  exact ⟨rfl, hP.2⟩
theorem part16 (B X R j : Nat) (cs : Array Value) (r : Int) (w : World) (hX : w.heap[X]? = some (.cells cs 108 (0, 0))) (hR : w.heap[R]? = some (.cells #[.int .u32 r] 22 (0, 0)))
  (hx : B ≤ X) (hr : B ≤ R) (hne : X ≠ R) (hj : j < cs.size) (h0 : 0 ≤ r) (g0 : r < 4294967296) :
  Calls Try.prog 150 #[.bool true, .pointer (some ⟨X, j, none⟩), .int .i64 16, .pointer (some ⟨R, 0, none⟩)] w fun e w' => e = .returned (.bool true) ∧ Parted B X R j cs (r % 65536) (r / 65536) true w w' := by
 have cR := cell_of_one hR
 have zR := free_of_one hR
 obtain ⟨v, hv⟩ : ∃ v, cs[j]? = some v := ⟨cs[j], by simp [hj]⟩
 have cX : w.cell? ⟨X, j, none⟩ = some v := by simp [World.cell?, hX, hv]
 have zX : w.frozen? ⟨X, j, none⟩ = false := frozen_of_row w X j cs _ hX
 have m := mask65535 r h0 g0
 have hP := parted_of (j := j) (v := r % 65536) (q := r / 65536) hX hR hx hr hne
 go_enter Try.func150, Try.ntmps150
 go_wp2
 go_region
 go_wp2
 go_ret
 exact ⟨rfl, hP.2⟩
end Go.Proofs.Ytcjcmnnhmajocab.Ho
namespace Go.Proofs.Ytcjcmnnhmajocab.Kt
open Go
variable {P : Program} {w : World} {r : Reach} {base : Nat} {t : TypeId} {v : Value}
def rowly (P : Program) (t : TypeId) : Bool := match P.underlying t with
 | some (.struct _) => true
 | some (.array _ _) => true
 | _ => false
theorem okWide_cells {n : Nat} {ts : List TypeId} (hu : rowly P t = true) (hc : P.cellsOf t = n) (ht : P.cellTypes P.depth t = some ts) (h : Value.okWide P w r base t v) :
  ∃ cs, v = .agg cs ∧ cs.size = n ∧ ∀ (i : Nat) (x : Value) (u : TypeId), cs[i]? = some x → ts[i]? = some u → Cell.okWide P w r base u x := by
 have h' : ∃ cs, v = .agg cs ∧ cs.size = P.cellsOf t ∧ Row.okWide P w r base t cs := by
  unfold rowly at hu
  unfold Value.okWide at h
  cases hx : P.underlying t with
  | none => simp [hx] at hu
  | some d => cases d <;> simp_all
 obtain ⟨cs, h1, h2, ts', h3, _, h5⟩ := h'
 rw [ht] at h3
 obtain rfl := Option.some.inj h3
 refine ⟨cs, h1, h2.trans hc, fun i x u hi hu' => ?_⟩
 obtain ⟨u2, e1, e2⟩ := h5 i x hi
 have hlt : i < ts.length := by
  by_cases hh : i < ts.length
  ·exact hh
  ·rw [List.getElem?_eq_none (by omega)] at hu'; cases hu'
 rw [Nat.mod_eq_of_lt hlt, hu'] at e1
 obtain rfl := Option.some.inj e1
 exact e2
theorem cell_int {u : TypeId} {k : IntKind} {x : Value} (hu : P.underlying u = some (.int k)) (h : Cell.okWide P w r base u x) : ∃ n, x = .int k n ∧ (Lit.int k n).wf = true := by
 simp only [Cell.okWide, hu] at h
 cases x <;> simp_all [Cell.ok, Lit.wf, IntKind.has]
theorem value_int {k : IntKind} (hu : P.underlying t = some (.int k)) (h : Value.okWide P w r base t v) : ∃ n, v = .int k n ∧ (Lit.int k n).wf = true := by
 simp only [Value.okWide, Cell.okWide, hu] at h
 cases v <;> simp_all [Cell.ok, Lit.wf, IntKind.has]
theorem size8 {cs : Array Value} (h : cs.size = 8) : ∃ x0 x1 x2 x3 x4 x5 x6 x7, cs = #[x0, x1, x2, x3, x4, x5, x6, x7] := by
 rcases cs with ⟨l⟩
 match l, h with
 | [x0, x1, x2, x3, x4, x5, x6, x7], _ => exact ⟨x0, x1, x2, x3, x4, x5, x6, x7, rfl⟩
theorem size12 {cs : Array Value} (h : cs.size = 12) : ∃ x0 x1 x2 x3 x4 x5 x6 x7 x8 x9 x10 x11, cs = #[x0, x1, x2, x3, x4, x5, x6, x7, x8, x9, x10, x11] := by
 rcases cs with ⟨l⟩
 match l, h with
 | [x0, x1, x2, x3, x4, x5, x6, x7, x8, x9, x10, x11], _ => exact ⟨x0, x1, x2, x3, x4, x5, x6, x7, x8, x9, x10, x11, rfl⟩
end Go.Proofs.Ytcjcmnnhmajocab.Kt
