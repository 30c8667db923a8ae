/- Proved: EngineNews returns true for every input and leaves all memory as it was. No condition. -/
import Derived.Test.YtcjcmnnhmajocacRows
import Derived.Test.YtcjcmnnhmajocacEnD
import Derived.Test.YtcjcmnnhmajocacOpen
import Derived.WalkKit
import Derived.ProofKit
import Derived.OpenShut
import Derived.ShutString
import Derived.ChangeOld
import Derived.Below
namespace Go.Proofs.Ytcjcmnnhmajocac.engineNews
open Go.ChangeShapes Go.WideShapes Go.ChangeAt Go.RowKit
set_option linter.unusedVariables false
theorem own : ownKnob Try.prog.godebug = none := by kernel_rfl
theorem laidOut : laidOutB Try.prog = true := by kernel_rfl
theorem news_any (a b c d e : Int) (o h n : Bool) (w : World) : Calls Try.prog 5 #[.agg #[.int .i64 a, .int .i64 b, .int .i64 c, .int .i64 d, .int .i64 e, .bool o, .bool h], .bool n] w fun e w' => e = .returned (.bool true) ∧ Below w.heap.size w w' := by
  cases n
  · by_cases hn : En.opOk a b c d e
    · exact En.news_ok a b c d e o h w hn
    · exact En.news_bad a b c d e o h w hn
  · exact En.news_nil a b c d e o h w
set_option maxRecDepth 100000 in
theorem lifted (os : Os) (started : os.Started) (H : Type) (enc : TypeId × Value → H) :
    ReturnsInHanded {} Try.checked os 5 .any (Rows.engineNewsSpec.pre6 enc Try.prog Try.f5 Rows.engineNewsRow.domain false) (Rows.engineNewsSpec.post enc Try.prog Try.f5 false true false false) := by
  refine returnsInHanded_of_change (C := Try.checked) own started (by kernel_rfl) Try.func5
    (ChangeSpec.witness6 (enc := enc) (C := Try.checked) false ⟨#[], #[.agg #[.int .i64 0, .int .i64 0, .int .i64 0, .int .i64 0, .int .i64 0, .bool false, .bool false], .bool false], []⟩ 8 (by kernel_rfl) (by kernel_rfl) (by kernel_rfl) (by kernel_rfl)) ?_
  intro W base args ds gs before hval0 hW hcnd _
  have hval : ∀ (j : Nat) t v, Try.f5.params[j]? = some t → args[j]? = some v → Value.okWide Try.prog W .any base t v := hval0
  have hW' := hW
  obtain ⟨p, q, hA0, hV, rfl, hfz, hnd⟩ := hW
  have hA : DataW.TrodAll enc Try.prog W 0 (fun _ => true) true Try.f5.params.toList args.toList ds p := hA0
  rw [Try.params5] at hA hval
  obtain ⟨v0, vs0, d0, ds0, p0, q0, hargs, rfl, rfl, h0, r0⟩ := trodAll_cons hA
  obtain ⟨v1, vs1, d1, ds1, p1, q1, rfl, rfl, rfl, h1, r1⟩ := trodAll_cons r0
  obtain ⟨rfl, rfl, rfl⟩ := trodAll_nil r1
  obtain rfl : args = #[v0, v1] := by cases args; simp_all
  obtain ⟨rfl, rfl⟩ := trodVars_none hV
  have k0 := h0
  have lt0 : ∀ x ∈ p0, x.block < W.heap.size := by obtain ⟨m, hm⟩ := k0; exact DataW.trod_lt m _ _ _ hm
  have k1 := h1
  have lt1 : ∀ x ∈ p1, x.block < W.heap.size := by obtain ⟨m, hm⟩ := k1; exact DataW.trod_lt m _ _ _ hm
  obtain ⟨cs0, rfl, hn0, hc0⟩ := Kt.okWide_cells (n := 7) (ts := [3, 3, 3, 3, 3, 4, 4]) (by kernel_rfl) (by kernel_rfl) (by kernel_rfl) (hval 0 51 v0 rfl rfl)
  obtain ⟨x0_0, x0_1, x0_2, x0_3, x0_4, x0_5, x0_6, rfl⟩ := Kt.size7 hn0
  obtain ⟨a0_0, rfl, w0_0⟩ := Kt.cell_int (k := .i64) Try.underlying3 (hc0 0 _ 3 rfl rfl)
  obtain ⟨a0_1, rfl, w0_1⟩ := Kt.cell_int (k := .i64) Try.underlying3 (hc0 1 _ 3 rfl rfl)
  obtain ⟨a0_2, rfl, w0_2⟩ := Kt.cell_int (k := .i64) Try.underlying3 (hc0 2 _ 3 rfl rfl)
  obtain ⟨a0_3, rfl, w0_3⟩ := Kt.cell_int (k := .i64) Try.underlying3 (hc0 3 _ 3 rfl rfl)
  obtain ⟨a0_4, rfl, w0_4⟩ := Kt.cell_int (k := .i64) Try.underlying3 (hc0 4 _ 3 rfl rfl)
  obtain ⟨a0_5, rfl⟩ := Kt.cell_bool Try.underlying4 (hc0 5 _ 4 rfl rfl)
  obtain ⟨a0_6, rfl⟩ := Kt.cell_bool Try.underlying4 (hc0 6 _ 4 rfl rfl)
  clear hc0 hn0
  obtain ⟨b1, rfl⟩ : ∃ b, v1 = .bool b := by
    have h := hval 1 4 v1 rfl rfl
    simp only [Value.okWide, Try.underlying4] at h
    exact Kt.cell_bool Try.underlying4 h
  clear hA0 hval0
  refine (news_any a0_0 a0_1 a0_2 a0_3 a0_4 a0_5 a0_6 b1 W).mono fun e W' ⟨he, bel⟩ => ?_
  subst he
  exact ⟨_, rfl, _, _, _, [], _, [], hW', trodAll_mk1 (shut_bool Try.underlying4 _), (trodAll_cons_mk (Below.trod laidOut (by kernel_rfl) (of_decide_eq_true (by kernel_rfl)) k0 bel lt0) (trodAll_cons_mk (Below.trod laidOut (by kernel_rfl) (of_decide_eq_true (by kernel_rfl)) k1 bel lt1) trodAll_mk0)), rfl, bel.frame _, fun h => by cases h⟩
theorem over : Rows.engineNewsRow.holds Try.pinned (OpenSpec.ofChange Rows.engineNewsSpec) :=
  OpenClaim.holds_of_wide 5 Try.f5 rfl rfl rfl rfl rfl rfl rfl ⟨rfl, rfl, rfl, rfl, rfl⟩ rfl rfl rfl rfl rfl (by kernel_rfl) Try.func5 (by kernel_rfl)
    (of_decide_eq_true (by kernel_rfl)) (by unfold Func.isWrapper; first | (rw [if_pos (by decide +kernel)]; kernel_rfl) | (rw [if_neg (by decide +kernel)]; exact ⟨rfl, rfl⟩))
    (fun os started H enc _ => lifted os started H enc)
theorem proved : Rows.EngineNewsSaid := over
#print axioms proved
end Go.Proofs.Ytcjcmnnhmajocac.engineNews
