/- Proved: HostRuns returns true and leaves all memory as it was. Condition: what comes in is of bulk at most 1048576 (the statement's own second form). -/
import Derived.Test.YtcjcmnnhmajocabRows
import Derived.WalkKit
import Derived.ProofKit
import Derived.SizedLaws
import Derived.ChangeSlices
import Derived.OpenShut
import Derived.ShutString
import Derived.ChangeOld
import Derived.Below
import Derived.JoinedCond
import Derived.Deep.CondSized
import Derived.Test.YtcjcmnnhmajocabPhah
import Derived.Test.YtcjcmnnhmajocabPhbw
import Derived.Test.YtcjcmnnhmajocabPhbx
set_option linter.unusedVariables false
set_option linter.unusedSimpArgs false
set_option maxRecDepth 100000
set_option maxHeartbeats 16000000
namespace Go.Proofs.Ytcjcmnnhmajocab.hostRuns
open Go.ChangeShapes Go.WideShapes Go.ChangeAt Go.RowKit
theorem own : ownKnob Try.prog.godebug = none := by kernel_rfl
theorem laidOut : laidOutB Try.prog = true := by kernel_rfl
theorem lifted (os : Os) (started : os.Started) (H : Type) (enc : TypeId × Value → H) (F : Stop.Interp) :
  ReturnsInHanded {} Try.checked os 9 .any ((Rows.OpenSpec.upto Rows.hostRunsSpec).pre6 enc Try.prog Try.f9 Rows.hostRunsUptoRow.domain false) (((Rows.OpenSpec.upto Rows.hostRunsSpec).at F).post enc Try.prog Try.f9 false true false false) := by
 refine returnsInHanded_of_cond (C := Try.checked) (s := Rows.OpenSpec.upto Rows.hostRunsSpec) (k := Rows.uptoSmall) rfl own started (by kernel_rfl) Try.func9
  (OpenSpec.witness (enc := enc) (C := Try.checked) (s := Rows.OpenSpec.upto Rows.hostRunsSpec) (k := Rows.uptoSmall) rfl false ⟨#[], #[.slice none 0 0, .int .i64 0, .agg #[.int .u32 0, .int .u32 0, .int .u32 0, .int .u32 0, .int .u32 0, .int .u32 0, .int .u32 0, .int .u32 0, .int .u32 0, .int .u32 0, .int .u32 0, .int .u32 0], .slice none 0 0, .slice none 0 0, .int .i64 0, .slice none 0 0], []⟩ 8 (by kernel_rfl) (by kernel_rfl) (by kernel_rfl)
   (x := ([.nil, .lit (.int .i64 0), .agg [.lit (.int .u32 0), .lit (.int .u32 0), .lit (.int .u32 0), .lit (.int .u32 0), .lit (.int .u32 0), .lit (.int .u32 0), .lit (.int .u32 0), .lit (.int .u32 0), .lit (.int .u32 0), .lit (.int .u32 0), .lit (.int .u32 0), .lit (.int .u32 0)], .nil, .nil, .lit (.int .i64 0), .nil], [], [])) (by kernel_rfl) rfl (by kernel_rfl)) ?_
 intro W base args ds gs before hval0 hW _ hk _
 have hbulk := bulks.of_small hk
 have hval : ∀ (j : Nat) t v, Try.f9.params[j]? = some t → args[j]? = some v → Value.okWide Try.prog W .any base t v := hval0
 have hW' := hW
 obtain ⟨p, q, hA0, hV, rfl, hfz, hnd⟩ := hW
 have hA : DataW.TrodAll enc Try.prog W 0 (fun _ => true) true Try.f9.params.toList args.toList ds p := hA0
 rw [Try.params9] at hA hval
 obtain ⟨v0, vs0, d0, ds0, p0, q0, hargs, rfl, rfl, h0, r0⟩ := trodAll_cons hA
 obtain ⟨v1, vs1, d1, ds1, p1, q1, rfl, rfl, rfl, h1, r1⟩ := trodAll_cons r0
 obtain ⟨v2, vs2, d2, ds2, p2, q2, rfl, rfl, rfl, h2, r2⟩ := trodAll_cons r1
 obtain ⟨v3, vs3, d3, ds3, p3, q3, rfl, rfl, rfl, h3, r3⟩ := trodAll_cons r2
 obtain ⟨v4, vs4, d4, ds4, p4, q4, rfl, rfl, rfl, h4, r4⟩ := trodAll_cons r3
 obtain ⟨v5, vs5, d5, ds5, p5, q5, rfl, rfl, rfl, h5, r5⟩ := trodAll_cons r4
 obtain ⟨v6, vs6, d6, ds6, p6, q6, rfl, rfl, rfl, h6, r6⟩ := trodAll_cons r5
 obtain ⟨rfl, rfl, rfl⟩ := trodAll_nil r6
 obtain rfl : args = #[v0, v1, v2, v3, v4, v5, v6] := by cases args; simp_all
 obtain ⟨rfl, rfl⟩ := trodVars_none hV
 have k0 := h0
 have lt0 : ∀ x ∈ p0, x.block < W.heap.size := by obtain ⟨m, hm⟩ := k0; exact DataW.trod_lt m _ _ _ hm
 have k1 := h1
 have lt1 : ∀ x ∈ p1, x.block < W.heap.size := by obtain ⟨m, hm⟩ := k1; exact DataW.trod_lt m _ _ _ hm
 have k2 := h2
 have lt2 : ∀ x ∈ p2, x.block < W.heap.size := by obtain ⟨m, hm⟩ := k2; exact DataW.trod_lt m _ _ _ hm
 have k3 := h3
 have lt3 : ∀ x ∈ p3, x.block < W.heap.size := by obtain ⟨m, hm⟩ := k3; exact DataW.trod_lt m _ _ _ hm
 have k4 := h4
 have lt4 : ∀ x ∈ p4, x.block < W.heap.size := by obtain ⟨m, hm⟩ := k4; exact DataW.trod_lt m _ _ _ hm
 have k5 := h5
 have lt5 : ∀ x ∈ p5, x.block < W.heap.size := by obtain ⟨m, hm⟩ := k5; exact DataW.trod_lt m _ _ _ hm
 have k6 := h6
 have lt6 : ∀ x ∈ p6, x.block < W.heap.size := by obtain ⟨m, hm⟩ := k6; exact DataW.trod_lt m _ _ _ hm
 obtain ⟨a0, l0, c0, rfl⟩ := okWide_slice Try.underlying26 (hval 0 26 v0 rfl rfl)
 obtain ⟨a1, rfl, w1⟩ : ∃ n, v1 = .int .i64 n ∧ (Lit.int .i64 n).wf = true := Kt.value_int Try.underlying3 (hval 1 3 v1 rfl rfl)
 obtain ⟨cx2, rfl, hcx2⟩ := Hr.open_ctx (hval 2 37 v2 rfl rfl)
 obtain ⟨a3, l3, c3, rfl⟩ := okWide_slice Try.underlying38 (hval 3 38 v3 rfl rfl)
 obtain ⟨a4, l4, c4, rfl⟩ := okWide_slice Try.underlying39 (hval 4 39 v4 rfl rfl)
 obtain ⟨a5, rfl, w5⟩ : ∃ n, v5 = .int .i64 n ∧ (Lit.int .i64 n).wf = true := Kt.value_int Try.underlying3 (hval 5 3 v5 rfl rfl)
 obtain ⟨a6, l6, c6, rfl⟩ := okWide_slice Try.underlying89 (hval 6 89 v6 rfl rfl)
 clear hA0 hval0
 have g0 := h0
 obtain ⟨fuel0, hf0⟩ := g0
 obtain ⟨ps0, ao0, cap0, e0, hS0, hu0, hb0⟩ := Hr.open_words hf0
 simp only [Value.slice.injEq] at e0
 obtain ⟨rfl, rfl, rfl⟩ := e0
 have g3 := h3
 obtain ⟨fuel3, hf3⟩ := g3
 obtain ⟨ps3, ao3, cap3, e3, hS3⟩ := Ev.open_parts hf3
 simp only [Value.slice.injEq] at e3
 obtain ⟨rfl, rfl, rfl⟩ := e3
 have g4 := h4
 obtain ⟨fuel4, hf4⟩ := g4
 obtain ⟨ps4, ao4, cap4, e4, hS4⟩ := Ev.open_nums hf4
 simp only [Value.slice.injEq] at e4
 obtain ⟨rfl, rfl, rfl⟩ := e4
 have g6 := h6
 obtain ⟨fuel6, hf6⟩ := g6
 obtain ⟨ps6, ao6, cap6, e6, hS6, hb6⟩ := Hr.open_entries hf6
 simp only [Value.slice.injEq] at e6
 obtain ⟨rfl, rfl, rfl⟩ := e6
 have hl0 : ps0.length ≤ 1048576 := Nat.le_trans hb0 (Nat.le_trans (bulks.mem_le (by simp)) hbulk)
 have hl6 : ps6.length ≤ 1048576 := Nat.le_trans hb6 (Nat.le_trans (bulks.mem_le (by simp)) hbulk)
 refine (Hr.hostruns_walk ps0 _ _ a1 cx2 ps3 _ _ ps4 _ _ a5 ps6 _ _ W hS0 hS6 hu0 hl0 hl6 hcx2 hS3 hS4).mono fun e W' ⟨he, bel⟩ => ?_
 subst he
 exact ⟨_, rfl, _, _, _, [], _, [], hW', trodAll_mk1 (shut_bool Try.underlying4 _), (trodAll_cons_mk (Below.trod laidOut (by kernel_rfl) (of_decide_eq_true (by kernel_rfl)) k0 bel lt0) (trodAll_cons_mk (Below.trod laidOut (by kernel_rfl) (of_decide_eq_true (by kernel_rfl)) k1 bel lt1) (trodAll_cons_mk (Below.trod laidOut (by kernel_rfl) (of_decide_eq_true (by kernel_rfl)) k2 bel lt2) (trodAll_cons_mk (Below.trod laidOut (by kernel_rfl) (of_decide_eq_true (by kernel_rfl)) k3 bel lt3) (trodAll_cons_mk (Below.trod laidOut (by kernel_rfl) (of_decide_eq_true (by kernel_rfl)) k4 bel lt4) (trodAll_cons_mk (Below.trod laidOut (by kernel_rfl) (of_decide_eq_true (by kernel_rfl)) k5 bel lt5) (trodAll_cons_mk (Below.trod laidOut (by kernel_rfl) (of_decide_eq_true (by kernel_rfl)) k6 bel lt6) trodAll_mk0))))))), rfl, bel.frame _, fun h => by cases h⟩
theorem over : Rows.hostRunsUptoRow.holds Try.pinned (Rows.OpenSpec.upto Rows.hostRunsSpec) :=
 OpenClaim.holds_of_cond 9 Try.f9 rfl rfl rfl rfl rfl rfl rfl ⟨rfl, rfl, rfl, rfl, rfl⟩ rfl rfl rfl rfl rfl (by kernel_rfl) Try.func9 (by kernel_rfl)
  (of_decide_eq_true (by kernel_rfl)) (by unfold Func.isWrapper; first | (rw [if_pos (by decide +kernel)]; kernel_rfl) | (rw [if_neg (by decide +kernel)]; exact ⟨rfl, rfl⟩))
  (fun os started H enc _ F => lifted os started H enc F)
theorem proved : Rows.HostRunsUptoSaid := over
#print axioms proved
end Go.Proofs.Ytcjcmnnhmajocab.hostRuns
