/- A context that came in, told plainly. -/
import Derived.ProofKit
import Derived.Test.YtcjcmnnhmajocabPeag
import Derived.Test.YtcjcmnnhmajocabPeaw
import Derived.Test.YtcjcmnnhmajocabPebd
import Derived.Test.YtcjcmnnhmajocabPebh
namespace Go.Proofs.Ytcjcmnnhmajocab.Ev
open Go.RowKit Kt Me Fl
set_option linter.unusedVariables false
/-- twelve numbers -/
def twelve (a0 a1 a2 a3 a4 a5 a6 a7 a8 a9 a10 a11 : Int) : Nat → Int
  | 0 => a0 | 1 => a1 | 2 => a2 | 3 => a3 | 4 => a4 | 5 => a5 | 6 => a6 | 7 => a7 | 8 => a8 | 9 => a9 | 10 => a10 | 11 => a11 | _ => 0
set_option maxRecDepth 100000 in
theorem open_ctx {r : Reach} {W : World} {b0 : Nat} {v : Value} (h : Value.okWide Try.prog W r b0 37 v) : ∃ cx : Nat → Int, v = .agg (ctL cx) ∧ COk cx := by
  obtain ⟨cs1, rfl, hn1, hc1⟩ := Kt.okWide_cells (n := 12) (ts := [22, 22, 22, 22, 22, 22, 22, 22, 22, 22, 22, 22]) (by kernel_rfl) (by kernel_rfl) (by kernel_rfl) h
  obtain ⟨x0, x1, x2, x3, x4, x5, x6, x7, x8, x9, x10, x11, rfl⟩ := Kt.size12 hn1
  obtain ⟨a0, rfl, w0⟩ := Kt.cell_int (k := .u32) Try.underlying22 (hc1 0 _ 22 rfl rfl)
  obtain ⟨a1, rfl, w1⟩ := Kt.cell_int (k := .u32) Try.underlying22 (hc1 1 _ 22 rfl rfl)
  obtain ⟨a2, rfl, w2⟩ := Kt.cell_int (k := .u32) Try.underlying22 (hc1 2 _ 22 rfl rfl)
  obtain ⟨a3, rfl, w3⟩ := Kt.cell_int (k := .u32) Try.underlying22 (hc1 3 _ 22 rfl rfl)
  obtain ⟨a4, rfl, w4⟩ := Kt.cell_int (k := .u32) Try.underlying22 (hc1 4 _ 22 rfl rfl)
  obtain ⟨a5, rfl, w5⟩ := Kt.cell_int (k := .u32) Try.underlying22 (hc1 5 _ 22 rfl rfl)
  obtain ⟨a6, rfl, w6⟩ := Kt.cell_int (k := .u32) Try.underlying22 (hc1 6 _ 22 rfl rfl)
  obtain ⟨a7, rfl, w7⟩ := Kt.cell_int (k := .u32) Try.underlying22 (hc1 7 _ 22 rfl rfl)
  obtain ⟨a8, rfl, w8⟩ := Kt.cell_int (k := .u32) Try.underlying22 (hc1 8 _ 22 rfl rfl)
  obtain ⟨a9, rfl, w9⟩ := Kt.cell_int (k := .u32) Try.underlying22 (hc1 9 _ 22 rfl rfl)
  obtain ⟨a10, rfl, w10⟩ := Kt.cell_int (k := .u32) Try.underlying22 (hc1 10 _ 22 rfl rfl)
  obtain ⟨a11, rfl, w11⟩ := Kt.cell_int (k := .u32) Try.underlying22 (hc1 11 _ 22 rfl rfl)
  refine ⟨twelve a0 a1 a2 a3 a4 a5 a6 a7 a8 a9 a10 a11, rfl, fun j => ?_⟩
  match j with
  | 0 => exact Kt.bd_u32 w0
  | 1 => exact Kt.bd_u32 w1
  | 2 => exact Kt.bd_u32 w2
  | 3 => exact Kt.bd_u32 w3
  | 4 => exact Kt.bd_u32 w4
  | 5 => exact Kt.bd_u32 w5
  | 6 => exact Kt.bd_u32 w6
  | 7 => exact Kt.bd_u32 w7
  | 8 => exact Kt.bd_u32 w8
  | 9 => exact Kt.bd_u32 w9
  | 10 => exact Kt.bd_u32 w10
  | 11 => exact Kt.bd_u32 w11
  | n + 12 => exact ⟨Int.le_refl _, (by decide : (0 : Int) < 4294967296)⟩
end Go.Proofs.Ytcjcmnnhmajocab.Ev
