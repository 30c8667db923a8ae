/- Proved: StepPrecise returns true for every input and leaves all memory as it was. No condition. -/
import Derived.Test.YtcjcmnnhmajocabRows
import Derived.WalkKit
import Derived.ProofKit
import Derived.SizedLaws
import Derived.ChangeSlices
import Derived.OpenShut
import Derived.ShutString
import Derived.ChangeOld
import Derived.Below
import Derived.Test.YtcjcmnnhmajocabPkbn
namespace Go.Proofs.Ytcjcmnnhmajocab.stepPrecise
open Go.ChangeShapes Go.WideShapes Go.ChangeAt Go.RowKit
set_option linter.unusedVariables false
theorem own : ownKnob Try.prog.godebug = none := by kernel_rfl
theorem laidOut : laidOutB Try.prog = true := by kernel_rfl
set_option maxRecDepth 100000 in
theorem lifted (os : Os) (started : os.Started) (H : Type) (enc : TypeId × Value → H) :
    ReturnsInHanded {} Try.checked os 7 .any (Rows.stepPreciseSpec.pre6 enc Try.prog Try.f7 Rows.stepPreciseRow.domain false) (Rows.stepPreciseSpec.post enc Try.prog Try.f7 false true false false) := by
  refine returnsInHanded_of_change (C := Try.checked) own started (by kernel_rfl) Try.func7
    (ChangeSpec.witness6 (enc := enc) (C := Try.checked) false ⟨#[], #[.slice none 0 0, .agg #[.int .u32 0, .int .u32 0, .int .u32 0, .int .u32 0, .int .u32 0, .int .u32 0, .int .u32 0, .int .u32 0, .int .u32 0, .int .u32 0]], []⟩ 8 (by kernel_rfl) (by kernel_rfl) (by kernel_rfl) (by kernel_rfl)) ?_
  intro W base args ds gs before hval0 hW hcnd _
  have hval : ∀ (j : Nat) t v, Try.f7.params[j]? = some t → args[j]? = some v → Value.okWide Try.prog W .any base t v := hval0
  have hW' := hW
  obtain ⟨p, q, hA0, hV, rfl, hfz, hnd⟩ := hW
  have hA : DataW.TrodAll enc Try.prog W 0 (fun _ => true) true Try.f7.params.toList args.toList ds p := hA0
  rw [Try.params7] at hA hval
  obtain ⟨v0, vs0, d0, ds0, p0, q0, hargs, rfl, rfl, h0, r0⟩ := trodAll_cons hA
  obtain ⟨v1, vs1, d1, ds1, p1, q1, rfl, rfl, rfl, h1, r1⟩ := trodAll_cons r0
  obtain ⟨rfl, rfl, rfl⟩ := trodAll_nil r1
  obtain rfl : args = #[v0, v1] := by cases args; simp_all
  obtain ⟨rfl, rfl⟩ := trodVars_none hV
  have k0 := h0
  have lt0 : ∀ x ∈ p0, x.block < W.heap.size := by obtain ⟨m, hm⟩ := k0; exact DataW.trod_lt m _ _ _ hm
  have k1 := h1
  have lt1 : ∀ x ∈ p1, x.block < W.heap.size := by obtain ⟨m, hm⟩ := k1; exact DataW.trod_lt m _ _ _ hm
  obtain ⟨a0, l0, c0, rfl⟩ := okWide_slice Try.underlying69 (hval 0 69 v0 rfl rfl)
  obtain ⟨cs1, rfl, hn1, hc1⟩ := Kt.okWide_cells (n := 10) (ts := [22, 22, 22, 22, 22, 22, 22, 22, 22, 22]) (by kernel_rfl) (by kernel_rfl) (by kernel_rfl) (hval 1 72 v1 rfl rfl)
  obtain ⟨x1_0, x1_1, x1_2, x1_3, x1_4, x1_5, x1_6, x1_7, x1_8, x1_9, rfl⟩ := Kt.size10 hn1
  obtain ⟨a1_0, rfl, w1_0⟩ := Kt.cell_int (k := .u32) Try.underlying22 (hc1 0 _ 22 rfl rfl)
  obtain ⟨a1_1, rfl, w1_1⟩ := Kt.cell_int (k := .u32) Try.underlying22 (hc1 1 _ 22 rfl rfl)
  obtain ⟨a1_2, rfl, w1_2⟩ := Kt.cell_int (k := .u32) Try.underlying22 (hc1 2 _ 22 rfl rfl)
  obtain ⟨a1_3, rfl, w1_3⟩ := Kt.cell_int (k := .u32) Try.underlying22 (hc1 3 _ 22 rfl rfl)
  obtain ⟨a1_4, rfl, w1_4⟩ := Kt.cell_int (k := .u32) Try.underlying22 (hc1 4 _ 22 rfl rfl)
  obtain ⟨a1_5, rfl, w1_5⟩ := Kt.cell_int (k := .u32) Try.underlying22 (hc1 5 _ 22 rfl rfl)
  obtain ⟨a1_6, rfl, w1_6⟩ := Kt.cell_int (k := .u32) Try.underlying22 (hc1 6 _ 22 rfl rfl)
  obtain ⟨a1_7, rfl, w1_7⟩ := Kt.cell_int (k := .u32) Try.underlying22 (hc1 7 _ 22 rfl rfl)
  obtain ⟨a1_8, rfl, w1_8⟩ := Kt.cell_int (k := .u32) Try.underlying22 (hc1 8 _ 22 rfl rfl)
  obtain ⟨a1_9, rfl, w1_9⟩ := Kt.cell_int (k := .u32) Try.underlying22 (hc1 9 _ 22 rfl rfl)
  clear hc1 hn1
  clear hA0 hval0
  have g0 := h0
  obtain ⟨fuel0, hf0⟩ := g0
  obtain ⟨ps, ao, cap, e0, hS⟩ := St.open_parts hf0
  simp only [Value.slice.injEq] at e0
  obtain ⟨rfl, rfl, rfl⟩ := e0
  refine (St.precise_walk ps _ _ (St.rof a1_0 a1_1 a1_2 a1_3 a1_4 a1_5 a1_6 a1_7) a1_8 a1_9 W hS (St.rof_ok w1_0 w1_1 w1_2 w1_3 w1_4 w1_5 w1_6 w1_7) (Kt.bd_u32 w1_8).1 (Kt.bd_u32 w1_8).2 (Kt.bd_u32 w1_9).1 (Kt.bd_u32 w1_9).2).mono fun e W' ⟨he, bel⟩ => ?_
  subst he
  exact ⟨_, rfl, _, _, _, [], _, [], hW', trodAll_mk1 (shut_bool Try.underlying4 _), (trodAll_cons_mk (Below.trod laidOut (by kernel_rfl) (of_decide_eq_true (by kernel_rfl)) k0 bel lt0) (trodAll_cons_mk (Below.trod laidOut (by kernel_rfl) (of_decide_eq_true (by kernel_rfl)) k1 bel lt1) trodAll_mk0)), rfl, bel.frame _, fun h => by cases h⟩
theorem over : Rows.stepPreciseRow.holds Try.pinned (OpenSpec.ofChange Rows.stepPreciseSpec) :=
  OpenClaim.holds_of_wide 7 Try.f7 rfl rfl rfl rfl rfl rfl rfl ⟨rfl, rfl, rfl, rfl, rfl⟩ rfl rfl rfl rfl rfl (by kernel_rfl) Try.func7 (by kernel_rfl)
    (of_decide_eq_true (by kernel_rfl)) (by unfold Func.isWrapper; first | (rw [if_pos (by decide +kernel)]; kernel_rfl) | (rw [if_neg (by decide +kernel)]; exact ⟨rfl, rfl⟩))
    (fun os started H enc _ => lifted os started H enc)
theorem proved : Rows.StepPreciseSaid := over
#print axioms proved
end Go.Proofs.Ytcjcmnnhmajocab.stepPrecise
