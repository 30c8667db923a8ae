/- Proved: FlagsOrder returns true for every input and leaves all memory as it was. No condition. -/
import Derived.Test.YtcjcmnnhmajocaaRows
import Derived.Test.YtcjcmnnhmajocaaFlagsO
import Derived.Test.YtcjcmnnhmajocaaPost
import Derived.WalkKit
import Derived.ProofKit
import Derived.OpenShut
import Derived.ShutString
namespace Go.Proofs.Ytcjcmnnhmajocaa.flagsOrder
open Go.ChangeShapes Go.WideShapes Go.ChangeAt Go.RowKit
open Go.ChangeMaps (open_string shut_string)
set_option linter.unusedVariables false      -- a walk need not use every 'w<i>' (that an integer argument fits its kind)

theorem own : ownKnob Try.prog.godebug = none := by kernel_rfl

/-! ### STEP 1: THE WALK: the Go text returns true. 'Grown w w'': the world has at most new blocks (Derived/RowKit3.lean). Part the cases AHEAD of 'go_enter' where a test parts the walk; take each callee by a contract of your own. -/
set_option maxRecDepth 100000 in
set_option maxHeartbeats 4000000 in
theorem walk (a0 : Int) (a1 : Int) (a2 : Int) (a3 : Int) (w0 : (Lit.int .u32 a0).wf = true) (w1 : (Lit.int .u32 a1).wf = true) (w2 : (Lit.int .u32 a2).wf = true) (w3 : (Lit.int .u32 a3).wf = true) (w : World) :
    Calls Try.prog 13 #[.int .u32 a0, .int .u32 a1, .int .u32 a2, .int .u32 a3] w fun e w' => e = .returned (.bool true) ∧ Below w.heap.size w w' := by
  have b0 := Kt.bd_u32 w0
  have b1 := Kt.bd_u32 w1
  have b2 := Kt.bd_u32 w2
  have b3 := Kt.bd_u32 w3
  clear w0 w1 w2 w3
  obtain ⟨k2, k4, k6, k10, k12, k13⟩ := Fl.cmp_hd a0 a1 b0.1 b0.2 b1.1 b1.2
  have kf : Fl.rkf 7 a0 a1 0 = Fl.fl 3 a0 a1 0 := rfl
  have kv : Fl.rkv 7 a0 a1 0 = a0 := rfl
  have ko : Fl.rko 7 a1 = true := rfl
  have s0 := Fl.wrap32_sg a0 b0.1 b0.2
  have s1 := Fl.wrap32_sg a1 b1.1 b1.2
  have o1 := Fl.or_hi a0 a1 b0.1 b0.2 b1.1 b1.2
  have o2 := Fl.or_hi a2 a3 b2.1 b2.2 b3.1 b3.2
  have fb := Fl.fSub_lt a0 a1 0
  have fb' : 0 ≤ Fl.fl 3 a0 a1 0 ∧ Fl.fl 3 a0 a1 0 < 16 := fb
  have g0 : Fl.rkf 0 a0 a2 0 = Fl.fl 1 a0 a2 0 := rfl
  have g2 : Fl.rkf 2 a0 a2 0 = Fl.fl 3 a0 a2 0 := rfl
  have fa : 0 ≤ Fl.fl 1 a0 a2 0 ∧ Fl.fl 1 a0 a2 0 < 16 := Fl.fAdd_lt a0 a2 0
  have fs : 0 ≤ Fl.fl 3 a0 a2 0 ∧ Fl.fl 3 a0 a2 0 < 16 := Fl.fSub_lt a0 a2 0
  have v0 : Fl.rkv 0 a0 a2 0 = (a0 + a2) % 4294967296 := rfl
  have v2 : Fl.rkv 2 a0 a2 0 = (a0 - a2) % 4294967296 := rfl
  obtain ⟨c, hc⟩ : ∃ c, c = (a0 + a2) / 4294967296 := ⟨_, rfl⟩
  obtain ⟨d, hd⟩ : ∃ d : Int, d = if a0 < a2 then 1 else 0 := ⟨_, rfl⟩
  have v1 : Fl.rkv 1 a1 a3 (Fl.fl 1 a0 a2 0) = (a1 + a3 + c) % 4294967296 := by
    rw [hc, ← Fl.add_carry a0 a2 b0.1 b0.2 b2.1 b2.2]; rfl
  have v3 : Fl.rkv 3 a1 a3 (Fl.fl 3 a0 a2 0) = (a1 - a3 - d) % 4294967296 := by
    rw [hd, ← Fl.sub_carry a0 a2 b0.1 b0.2 b2.1 b2.2]; rfl
  have o3 := Fl.or_hi ((a0 + a2) % 4294967296) ((a1 + a3 + c) % 4294967296) (by omega) (by omega) (by omega) (by omega)
  have o4 := Fl.or_hi ((a0 - a2) % 4294967296) ((a1 - a3 - d) % 4294967296) (by omega) (by omega) (by omega) (by omega)
  have t1 : IntKind.u64.wrap (a1 * 4294967296 + a0 + (a3 * 4294967296 + a2)) = (a1 + a3 + c) % 4294967296 * 4294967296 + (a0 + a2) % 4294967296 := by rw [IntKind.wrap_u64]; omega
  have t2 : IntKind.u64.wrap (a1 * 4294967296 + a0 - (a3 * 4294967296 + a2)) = (a1 - a3 - d) % 4294967296 * 4294967296 + (a0 - a2) % 4294967296 := by rw [IntKind.wrap_u64]; split at hd <;> omega
  have hb := Below.refl w.heap.size w
  clear hc hd
  go_enter Try.func13, Try.ntmps13
  go_wp2_with (first
    | (go_at_call 44; refine (Fl.reckon_any _ _ _ _ _ (by omega) (by omega) (by omega) (by omega) (by omega) (by omega)).mono ?_; rintro e x1 ⟨rfl, hx1⟩; replace hb := Kt.chain hb hx1; clear hx1)
    | (go_at_call 48; refine (Fl.holds_any _ _ _ (by omega) (by omega) (by omega) (by omega)).mono ?_; rintro e x4 ⟨rfl, hx4⟩; replace hb := Kt.chain hb hx4; clear hx4))
  go_ret
  exact ⟨rfl, hb⟩

/-! ### THE ROW's STEP: WRITTEN OUT: LEAVE IT -/
set_option maxRecDepth 100000 in
theorem lifted (os : Os) (started : os.Started) (H : Type) (enc : TypeId × Value → H) :
    ReturnsInHanded {} Try.checked os 13 .any (Rows.flagsOrderSpec.pre6 enc Try.prog Try.f13 Rows.flagsOrderRow.domain false) (Rows.flagsOrderSpec.post enc Try.prog Try.f13 false true false false) := by
  refine returnsInHanded_of_change (C := Try.checked) own started (by kernel_rfl) Try.func13
    (ChangeSpec.witness6 (enc := enc) (C := Try.checked) false ⟨#[], #[.int .u32 0, .int .u32 0, .int .u32 0, .int .u32 0], []⟩ 8 (by kernel_rfl) (by kernel_rfl) (by kernel_rfl) (by kernel_rfl)) ?_
  intro W base args ds gs before hval0 hW hcnd _
  have hval : ∀ (j : Nat) t v, Try.f13.params[j]? = some t → args[j]? = some v → Value.okWide Try.prog W .any base t v := hval0
  have hW' := hW
  obtain ⟨p, q, hA0, hV, rfl, hfz, hnd⟩ := hW
  have hA : DataW.TrodAll enc Try.prog W 0 (fun _ => true) true Try.f13.params.toList args.toList ds p := hA0
  rw [Try.params13] at hA hval
  obtain ⟨v0, vs0, d0, ds0, p0, q0, hargs, rfl, rfl, h0, r0⟩ := trodAll_cons hA
  obtain ⟨v1, vs1, d1, ds1, p1, q1, rfl, rfl, rfl, h1, r1⟩ := trodAll_cons r0
  obtain ⟨v2, vs2, d2, ds2, p2, q2, rfl, rfl, rfl, h2, r2⟩ := trodAll_cons r1
  obtain ⟨v3, vs3, d3, ds3, p3, q3, rfl, rfl, rfl, h3, r3⟩ := trodAll_cons r2
  obtain ⟨rfl, rfl, rfl⟩ := trodAll_nil r3
  obtain rfl : args = #[v0, v1, v2, v3] := by cases args; simp_all
  obtain ⟨rfl, rfl⟩ := trodVars_none hV
  obtain ⟨a0, rfl, rfl, rfl, w0⟩ := open_int Try.underlying25 (hval 0 25 v0 rfl rfl) h0
  obtain ⟨a1, rfl, rfl, rfl, w1⟩ := open_int Try.underlying25 (hval 1 25 v1 rfl rfl) h1
  obtain ⟨a2, rfl, rfl, rfl, w2⟩ := open_int Try.underlying25 (hval 2 25 v2 rfl rfl) h2
  obtain ⟨a3, rfl, rfl, rfl, w3⟩ := open_int Try.underlying25 (hval 3 25 v3 rfl rfl) h3
  clear hA0 hval0
  simp only [List.append_nil] at hW'
  refine (walk a0 a1 a2 a3 w0 w1 w2 w3 W).mono fun e W' ⟨he, hg⟩ => ?_
  subst he
  exact ⟨_, rfl, Kt.post_of_below (pa := []) (pv := []) hW' (fun _ _ _ => (trodAll_cons_mk (shut_bool Try.underlying4 _) trodAll_mk0)) (fun sp _ => (trodAll_cons_mk (shut_int Try.underlying25 w0) (trodAll_cons_mk (shut_int Try.underlying25 w1) (trodAll_cons_mk (shut_int Try.underlying25 w2) (trodAll_cons_mk (shut_int Try.underlying25 w3) trodAll_mk0))))) (fun _ _ => rfl) rfl
    hg (ok_one (by kernel_rfl) rfl (okWide_bool_mk Try.underlying4 _))⟩

theorem over : Rows.flagsOrderRow.holds Try.pinned (OpenSpec.ofChange Rows.flagsOrderSpec) :=
  OpenClaim.holds_of_wide 13 Try.f13 rfl rfl rfl rfl rfl rfl rfl ⟨rfl, rfl, rfl, rfl, rfl⟩ rfl rfl rfl rfl rfl (by kernel_rfl) Try.func13 (by kernel_rfl)
    (of_decide_eq_true (by kernel_rfl)) (by unfold Func.isWrapper; first | (rw [if_pos (by decide +kernel)]; kernel_rfl) | (rw [if_neg (by decide +kernel)]; exact ⟨rfl, rfl⟩))
    (fun os started H enc _ => lifted os started H enc)

/-- ████ THE STATEMENT ████ -/
theorem proved : Rows.FlagsOrderSaid :=
  over
#print axioms proved
end Go.Proofs.Ytcjcmnnhmajocaa.flagsOrder
