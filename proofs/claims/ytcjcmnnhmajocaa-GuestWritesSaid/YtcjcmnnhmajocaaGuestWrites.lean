/- Proved: GuestWrites returns true for every input and leaves all memory as it was. No condition. -/
import Derived.Test.YtcjcmnnhmajocaaRows
import Derived.Test.YtcjcmnnhmajocaaGuX
import Derived.Test.YtcjcmnnhmajocaaOpen
import Derived.WalkKit
import Derived.ProofKit
import Derived.OpenShut
import Derived.ShutString
import Derived.ChangeOld
import Derived.Below
namespace Go.Proofs.Ytcjcmnnhmajocaa.guestWrites
open Go.ChangeShapes Go.WideShapes Go.ChangeAt Go.RowKit
set_option linter.unusedVariables false
theorem own : ownKnob Try.prog.godebug = none := by kernel_rfl
theorem laidOut : laidOutB Try.prog = true := by kernel_rfl
set_option maxRecDepth 100000 in
theorem lifted (os : Os) (started : os.Started) (H : Type) (enc : TypeId × Value → H) :
    ReturnsInHanded {} Try.checked os 10 .any (Rows.guestWritesSpec.pre6 enc Try.prog Try.f10 Rows.guestWritesRow.domain false) (Rows.guestWritesSpec.post enc Try.prog Try.f10 false true false false) := by
  refine returnsInHanded_of_change (C := Try.checked) own started (by kernel_rfl) Try.func10
    (ChangeSpec.witness6 (enc := enc) (C := Try.checked) false ⟨#[], #[.agg #[.int .i64 0, .int .i64 0, .int .i64 0, .int .i64 0, .int .u32 0]], []⟩ 8 (by kernel_rfl) (by kernel_rfl) (by kernel_rfl) (by kernel_rfl)) ?_
  intro W base args ds gs before hval0 hW hcnd _
  have hval : ∀ (j : Nat) t v, Try.f10.params[j]? = some t → args[j]? = some v → Value.okWide Try.prog W .any base t v := hval0
  have hW' := hW
  obtain ⟨p, q, hA0, hV, rfl, hfz, hnd⟩ := hW
  have hA : DataW.TrodAll enc Try.prog W 0 (fun _ => true) true Try.f10.params.toList args.toList ds p := hA0
  rw [Try.params10] at hA hval
  obtain ⟨v0, vs0, d0, ds0, p0, q0, hargs, rfl, rfl, h0, r0⟩ := trodAll_cons hA
  obtain ⟨rfl, rfl, rfl⟩ := trodAll_nil r0
  obtain rfl : args = #[v0] := by cases args; simp_all
  obtain ⟨rfl, rfl⟩ := trodVars_none hV
  have k0 := h0
  have lt0 : ∀ x ∈ p0, x.block < W.heap.size := by obtain ⟨m, hm⟩ := k0; exact DataW.trod_lt m _ _ _ hm
  obtain ⟨cs0, rfl, hn0, hc0⟩ := Kt.okWide_cells (n := 5) (ts := [3, 3, 3, 3, 25]) (by kernel_rfl) (by kernel_rfl) (by kernel_rfl) (hval 0 57 v0 rfl rfl)
  obtain ⟨x0_0, x0_1, x0_2, x0_3, x0_4, rfl⟩ := Kt.size5 hn0
  obtain ⟨a0_0, rfl, w0_0⟩ := Kt.cell_int (k := .i64) Try.underlying3 (hc0 0 _ 3 rfl rfl)
  obtain ⟨a0_1, rfl, w0_1⟩ := Kt.cell_int (k := .i64) Try.underlying3 (hc0 1 _ 3 rfl rfl)
  obtain ⟨a0_2, rfl, w0_2⟩ := Kt.cell_int (k := .i64) Try.underlying3 (hc0 2 _ 3 rfl rfl)
  obtain ⟨a0_3, rfl, w0_3⟩ := Kt.cell_int (k := .i64) Try.underlying3 (hc0 3 _ 3 rfl rfl)
  obtain ⟨a0_4, rfl, w0_4⟩ := Kt.cell_int (k := .u32) Try.underlying25 (hc0 4 _ 25 rfl rfl)
  clear hc0 hn0
  clear hA0 hval0
  refine (Gu.guestwrites_walk a0_0 a0_1 a0_2 a0_3 a0_4 (Kt.bd_u32 w0_4) W).mono fun e W' ⟨he, bel⟩ => ?_
  subst he
  exact ⟨_, rfl, _, _, _, [], _, [], hW', trodAll_mk1 (shut_bool Try.underlying4 _), (trodAll_cons_mk (Below.trod laidOut (by kernel_rfl) (of_decide_eq_true (by kernel_rfl)) k0 bel lt0) trodAll_mk0), rfl, bel.frame _, fun h => by cases h⟩
theorem over : Rows.guestWritesRow.holds Try.pinned (OpenSpec.ofChange Rows.guestWritesSpec) :=
  OpenClaim.holds_of_wide 10 Try.f10 rfl rfl rfl rfl rfl rfl rfl ⟨rfl, rfl, rfl, rfl, rfl⟩ rfl rfl rfl rfl rfl (by kernel_rfl) Try.func10 (by kernel_rfl)
    (of_decide_eq_true (by kernel_rfl)) (by unfold Func.isWrapper; first | (rw [if_pos (by decide +kernel)]; kernel_rfl) | (rw [if_neg (by decide +kernel)]; exact ⟨rfl, rfl⟩))
    (fun os started H enc _ => lifted os started H enc)
theorem proved : Rows.GuestWritesSaid := over
#print axioms proved
end Go.Proofs.Ytcjcmnnhmajocaa.guestWrites
