import Derived.Test.YtcjcmnnhmajocaaRows
import Derived.Test.YtcjcmnnhmajocaaIrStates
import Derived.Test.YtcjcmnnhmajocaaOpen
import Derived.WalkKit
import Derived.ProofKit
import Derived.OpenShut
import Derived.ShutString
import Derived.ChangeOld
import Derived.Below
namespace Go.Proofs.Ytcjcmnnhmajocaa.iRStates
open Go.ChangeShapes Go.WideShapes Go.ChangeAt Go.RowKit
set_option linter.unusedVariables false
theorem own : ownKnob Try.prog.godebug = none := by kernel_rfl
theorem laidOut : laidOutB Try.prog = true := by kernel_rfl
set_option maxRecDepth 100000 in
theorem lifted (os : Os) (started : os.Started) (H : Type) (enc : TypeId × Value → H) :
    ReturnsInHanded {} Try.checked os 5 .any (Rows.iRStatesSpec.pre6 enc Try.prog Try.f5 Rows.iRStatesRow.domain false) (Rows.iRStatesSpec.post enc Try.prog Try.f5 false true false false) := by
  refine returnsInHanded_of_change (C := Try.checked) own started (by kernel_rfl) Try.func5
    (ChangeSpec.witness6 (enc := enc) (C := Try.checked) false ⟨#[], #[.agg #[.int .u32 0, .int .u32 0, .int .u32 0, .int .u32 0, .int .u32 0, .int .u32 0, .int .u32 0, .int .u32 0, .int .u32 0, .int .u32 0], .agg #[.int .u32 0, .int .u32 0, .int .u32 0, .int .u32 0, .int .u32 0, .int .u32 0, .int .u32 0, .int .u32 0, .int .u32 0, .int .u32 0, .int .u32 0, .int .u32 0], .int .u32 0], []⟩ 8 (by kernel_rfl) (by kernel_rfl) (by kernel_rfl) (by kernel_rfl)) ?_
  intro W base args ds gs before hval0 hW hcnd _
  have hval : ∀ (j : Nat) t v, Try.f5.params[j]? = some t → args[j]? = some v → Value.okWide Try.prog W .any base t v := hval0
  have hW' := hW
  obtain ⟨p, q, hA0, hV, rfl, hfz, hnd⟩ := hW
  have hA : DataW.TrodAll enc Try.prog W 0 (fun _ => true) true Try.f5.params.toList args.toList ds p := hA0
  rw [Try.params5] at hA hval
  obtain ⟨v0, vs0, d0, ds0, p0, q0, hargs, rfl, rfl, h0, r0⟩ := trodAll_cons hA
  obtain ⟨v1, vs1, d1, ds1, p1, q1, rfl, rfl, rfl, h1, r1⟩ := trodAll_cons r0
  obtain ⟨v2, vs2, d2, ds2, p2, q2, rfl, rfl, rfl, h2, r2⟩ := trodAll_cons r1
  obtain ⟨rfl, rfl, rfl⟩ := trodAll_nil r2
  obtain rfl : args = #[v0, v1, v2] := by cases args; simp_all
  obtain ⟨rfl, rfl⟩ := trodVars_none hV
  have k0 := h0
  have lt0 : ∀ x ∈ p0, x.block < W.heap.size := by obtain ⟨m, hm⟩ := k0; exact DataW.trod_lt m _ _ _ hm
  have k1 := h1
  have lt1 : ∀ x ∈ p1, x.block < W.heap.size := by obtain ⟨m, hm⟩ := k1; exact DataW.trod_lt m _ _ _ hm
  have k2 := h2
  have lt2 : ∀ x ∈ p2, x.block < W.heap.size := by obtain ⟨m, hm⟩ := k2; exact DataW.trod_lt m _ _ _ hm
  obtain ⟨cs0, rfl, hn0, hc0⟩ := Kt.okWide_cells (n := 10) (ts := [25, 25, 25, 25, 25, 25, 25, 25, 25, 25]) (by kernel_rfl) (by kernel_rfl) (by kernel_rfl) (hval 0 37 v0 rfl rfl)
  obtain ⟨x0_0, x0_1, x0_2, x0_3, x0_4, x0_5, x0_6, x0_7, x0_8, x0_9, rfl⟩ := Kt.size10 hn0
  obtain ⟨a0_0, rfl, w0_0⟩ := Kt.cell_int (k := .u32) Try.underlying25 (hc0 0 _ 25 rfl rfl)
  obtain ⟨a0_1, rfl, w0_1⟩ := Kt.cell_int (k := .u32) Try.underlying25 (hc0 1 _ 25 rfl rfl)
  obtain ⟨a0_2, rfl, w0_2⟩ := Kt.cell_int (k := .u32) Try.underlying25 (hc0 2 _ 25 rfl rfl)
  obtain ⟨a0_3, rfl, w0_3⟩ := Kt.cell_int (k := .u32) Try.underlying25 (hc0 3 _ 25 rfl rfl)
  obtain ⟨a0_4, rfl, w0_4⟩ := Kt.cell_int (k := .u32) Try.underlying25 (hc0 4 _ 25 rfl rfl)
  obtain ⟨a0_5, rfl, w0_5⟩ := Kt.cell_int (k := .u32) Try.underlying25 (hc0 5 _ 25 rfl rfl)
  obtain ⟨a0_6, rfl, w0_6⟩ := Kt.cell_int (k := .u32) Try.underlying25 (hc0 6 _ 25 rfl rfl)
  obtain ⟨a0_7, rfl, w0_7⟩ := Kt.cell_int (k := .u32) Try.underlying25 (hc0 7 _ 25 rfl rfl)
  obtain ⟨a0_8, rfl, w0_8⟩ := Kt.cell_int (k := .u32) Try.underlying25 (hc0 8 _ 25 rfl rfl)
  obtain ⟨a0_9, rfl, w0_9⟩ := Kt.cell_int (k := .u32) Try.underlying25 (hc0 9 _ 25 rfl rfl)
  clear hc0 hn0
  obtain ⟨cs1, rfl, hn1, hc1⟩ := Kt.okWide_cells (n := 12) (ts := [25, 25, 25, 25, 25, 25, 25, 25, 25, 25, 25, 25]) (by kernel_rfl) (by kernel_rfl) (by kernel_rfl) (hval 1 39 v1 rfl rfl)
  obtain ⟨x1_0, x1_1, x1_2, x1_3, x1_4, x1_5, x1_6, x1_7, x1_8, x1_9, x1_10, x1_11, rfl⟩ := Kt.size12 hn1
  obtain ⟨a1_0, rfl, w1_0⟩ := Kt.cell_int (k := .u32) Try.underlying25 (hc1 0 _ 25 rfl rfl)
  obtain ⟨a1_1, rfl, w1_1⟩ := Kt.cell_int (k := .u32) Try.underlying25 (hc1 1 _ 25 rfl rfl)
  obtain ⟨a1_2, rfl, w1_2⟩ := Kt.cell_int (k := .u32) Try.underlying25 (hc1 2 _ 25 rfl rfl)
  obtain ⟨a1_3, rfl, w1_3⟩ := Kt.cell_int (k := .u32) Try.underlying25 (hc1 3 _ 25 rfl rfl)
  obtain ⟨a1_4, rfl, w1_4⟩ := Kt.cell_int (k := .u32) Try.underlying25 (hc1 4 _ 25 rfl rfl)
  obtain ⟨a1_5, rfl, w1_5⟩ := Kt.cell_int (k := .u32) Try.underlying25 (hc1 5 _ 25 rfl rfl)
  obtain ⟨a1_6, rfl, w1_6⟩ := Kt.cell_int (k := .u32) Try.underlying25 (hc1 6 _ 25 rfl rfl)
  obtain ⟨a1_7, rfl, w1_7⟩ := Kt.cell_int (k := .u32) Try.underlying25 (hc1 7 _ 25 rfl rfl)
  obtain ⟨a1_8, rfl, w1_8⟩ := Kt.cell_int (k := .u32) Try.underlying25 (hc1 8 _ 25 rfl rfl)
  obtain ⟨a1_9, rfl, w1_9⟩ := Kt.cell_int (k := .u32) Try.underlying25 (hc1 9 _ 25 rfl rfl)
  obtain ⟨a1_10, rfl, w1_10⟩ := Kt.cell_int (k := .u32) Try.underlying25 (hc1 10 _ 25 rfl rfl)
  obtain ⟨a1_11, rfl, w1_11⟩ := Kt.cell_int (k := .u32) Try.underlying25 (hc1 11 _ 25 rfl rfl)
  clear hc1 hn1
  obtain ⟨a2, rfl, w2⟩ : ∃ n, v2 = .int .u32 n ∧ (Lit.int .u32 n).wf = true := Kt.value_int Try.underlying25 (hval 2 25 v2 rfl rfl)
  clear hA0 hval0
  refine (Ir.irstates_walk a0_0 a0_1 a0_2 a0_3 a0_4 a0_5 a0_6 a0_7 a0_8 a0_9 a1_0 a1_1 a1_2 a1_3 a1_4 a1_5 a1_6 a1_7 a1_8 a1_9 a1_10 a1_11 a2 W (Kt.bd_u32 w0_9).1 (Kt.bd_u32 w0_9).2 (Kt.bd_u32 w1_8).1 (Kt.bd_u32 w1_8).2 (Kt.bd_u32 w1_9).1 (Kt.bd_u32 w1_9).2 (Kt.bd_u32 w1_10).1 (Kt.bd_u32 w1_10).2 (Kt.bd_u32 w1_11).1 (Kt.bd_u32 w1_11).2).mono fun e W' ⟨he, bel⟩ => ?_
  subst he
  exact ⟨_, rfl, _, _, _, [], _, [], hW', trodAll_mk1 (shut_bool Try.underlying4 _), (trodAll_cons_mk (Below.trod laidOut (by kernel_rfl) (of_decide_eq_true (by kernel_rfl)) k0 bel lt0) (trodAll_cons_mk (Below.trod laidOut (by kernel_rfl) (of_decide_eq_true (by kernel_rfl)) k1 bel lt1) (trodAll_cons_mk (Below.trod laidOut (by kernel_rfl) (of_decide_eq_true (by kernel_rfl)) k2 bel lt2) trodAll_mk0))), rfl, bel.frame _, fun h => by cases h⟩
theorem over : Rows.iRStatesRow.holds Try.pinned (OpenSpec.ofChange Rows.iRStatesSpec) :=
  OpenClaim.holds_of_wide 5 Try.f5 rfl rfl rfl rfl rfl rfl rfl ⟨rfl, rfl, rfl, rfl, rfl⟩ rfl rfl rfl rfl rfl (by kernel_rfl) Try.func5 (by kernel_rfl)
    (of_decide_eq_true (by kernel_rfl)) (by unfold Func.isWrapper; first | (rw [if_pos (by decide +kernel)]; kernel_rfl) | (rw [if_neg (by decide +kernel)]; exact ⟨rfl, rfl⟩))
    (fun os started H enc _ => lifted os started H enc)
theorem proved : Rows.IRStatesSaid := over
#print axioms proved
end Go.Proofs.Ytcjcmnnhmajocaa.iRStates
