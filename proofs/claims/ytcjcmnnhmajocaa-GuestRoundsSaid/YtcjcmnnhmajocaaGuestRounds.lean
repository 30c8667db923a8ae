/- Proved: GuestRounds returns true for every input and leaves all memory as it was. No condition. -/
import Derived.Test.YtcjcmnnhmajocaaRows
import Derived.Test.YtcjcmnnhmajocaaGuRo
import Derived.Test.YtcjcmnnhmajocaaOpen
import Derived.WalkKit
import Derived.ProofKit
import Derived.SizedLaws
import Derived.ChangeSlices
import Derived.OpenShut
import Derived.ShutString
import Derived.ChangeOld
import Derived.Below
namespace Go.Proofs.Ytcjcmnnhmajocaa.guestRounds
open Go.ChangeShapes Go.WideShapes Go.ChangeAt Go.RowKit
set_option linter.unusedVariables false
theorem own : ownKnob Try.prog.godebug = none := by kernel_rfl
theorem laidOut : laidOutB Try.prog = true := by kernel_rfl
theorem cells1 : Try.prog.cellsOf 5 = 1 := by kernel_rfl
theorem bytes1 : Try.prog.bytesOf 5 = 1 := by kernel_rfl
theorem get_range (zs : List Int) (h : ∀ n ∈ zs, (Lit.int .u8 n).wf = true) (j : Nat) : 0 ≤ zs.getD j 0 ∧ zs.getD j 0 < 256 := by
  rw [List.getD_eq_getElem?_getD]
  cases hz : zs[j]? with
  | none => simp
  | some z => exact Kt.bd_u8 (h z (List.mem_of_getElem? hz))
theorem get_take (zs : List Int) (n j : Nat) (h : j < n) : (zs.take n).getD j 0 = zs.getD j 0 := by
  rw [List.getD_eq_getElem?_getD, List.getD_eq_getElem?_getD, List.getElem?_take, if_pos h]
set_option maxRecDepth 100000 in
theorem lifted (os : Os) (started : os.Started) (H : Type) (enc : TypeId × Value → H) :
    ReturnsInHanded {} Try.checked os 11 .any (Rows.guestRoundsSpec.pre6 enc Try.prog Try.f11 Rows.guestRoundsRow.domain false) (Rows.guestRoundsSpec.post enc Try.prog Try.f11 false true false false) := by
  refine returnsInHanded_of_change_sized (C := Try.checked) own started (by kernel_rfl) Try.func11
    (ChangeSpec.witness6 (enc := enc) (C := Try.checked) false ⟨#[], #[.slice none 0 0, .agg #[.int .i64 0, .int .i64 0, .int .i64 0, .int .i64 0, .int .u32 0]], []⟩ 8 (by kernel_rfl) (by kernel_rfl) (by kernel_rfl) (by kernel_rfl)) ?_
  intro W base args ds gs before hval0 hW _ hsz0 _
  have hsz : (DataW.weightsEach Try.prog (Try.f11.params.toList ++ Rows.guestRoundsSpec.plain.varTypes Try.prog) (ds ++ gs)).all (· ≤ reachBytes) = true := hsz0
  clear hsz0
  have hval : ∀ (j : Nat) t v, Try.f11.params[j]? = some t → args[j]? = some v → Value.okWide Try.prog W .any base t v := hval0
  have hW' := hW
  obtain ⟨p, q, hA0, hV, rfl, hfz, hnd⟩ := hW
  have hA : DataW.TrodAll enc Try.prog W 0 (fun _ => true) true Try.f11.params.toList args.toList ds p := hA0
  rw [Try.params11] at hA hval hsz
  obtain ⟨v0, vs0, d0, ds0, p0, q0, hargs, rfl, rfl, h0, r0⟩ := trodAll_cons hA
  obtain ⟨v1, vs1, d1, ds1, p1, q1, rfl, rfl, rfl, h1, r1⟩ := trodAll_cons r0
  obtain ⟨rfl, rfl, rfl⟩ := trodAll_nil r1
  obtain rfl : args = #[v0, v1] := by cases args; simp_all
  obtain ⟨rfl, rfl⟩ := trodVars_none hV
  have k0 := h0
  have lt0 : ∀ x ∈ p0, x.block < W.heap.size := by obtain ⟨m, hm⟩ := k0; exact DataW.trod_lt m _ _ _ hm
  have k1 := h1
  have lt1 : ∀ x ∈ p1, x.block < W.heap.size := by obtain ⟨m, hm⟩ := k1; exact DataW.trod_lt m _ _ _ hm
  obtain ⟨cs0, rfl, hn0, hc0⟩ := Kt.okWide_cells (n := 5) (ts := [3, 3, 3, 3, 25]) (by kernel_rfl) (by kernel_rfl) (by kernel_rfl) (hval 1 57 v1 rfl rfl)
  obtain ⟨x0_0, x0_1, x0_2, x0_3, x0_4, rfl⟩ := Kt.size5 hn0
  obtain ⟨o, rfl, w0_0⟩ := Kt.cell_int (k := .i64) Try.underlying3 (hc0 0 _ 3 rfl rfl)
  obtain ⟨d, rfl, w0_1⟩ := Kt.cell_int (k := .i64) Try.underlying3 (hc0 1 _ 3 rfl rfl)
  obtain ⟨s, rfl, w0_2⟩ := Kt.cell_int (k := .i64) Try.underlying3 (hc0 2 _ 3 rfl rfl)
  obtain ⟨f, rfl, w0_3⟩ := Kt.cell_int (k := .i64) Try.underlying3 (hc0 3 _ 3 rfl rfl)
  obtain ⟨m, rfl, w0_4⟩ := Kt.cell_int (k := .u32) Try.underlying25 (hc0 4 _ 25 rfl rfl)
  clear hc0 hn0
  obtain ⟨a0, len, cap, rfl⟩ := okWide_slice Try.underlying54 (hval 0 54 v0 rfl rfl)
  have b1 := Kt.bd_u32 w0_4
  clear hA0 hval0
  obtain ⟨fuel, hf⟩ := h0
  have main : ∀ (us : List Int), us.length = len → Gu.Bs us a0 cap W → us.length ≤ 140737488351232 → (∀ j, 0 ≤ us.getD j 0 ∧ us.getD j 0 < 256) → (a0 = none → cap = 0) → Calls Try.checked.prog 11 #[.slice a0 len cap, .agg #[.int .i64 o, .int .i64 d, .int .i64 s, .int .i64 f, .int .u32 m]] W fun e W' => e = .returned (.bool true) ∧ Below W.heap.size W W' := by
    intro us hl hs hr hw hnil
    subst hl
    exact Gu.guestrounds_walk us a0 cap o d s f m W hs hw b1 hr hnil
  have walk : Calls Try.checked.prog 11 #[.slice a0 len cap, .agg #[.int .i64 o, .int .i64 d, .int .i64 s, .int .i64 f, .int .u32 m]] W fun e W' => e = .returned (.bool true) ∧ Below W.heap.size W W' := by
    rcases open_ints Try.underlying54 Try.underlying5 cells1 hf with ⟨hcs, hx⟩ | ⟨a, len', cap', zs, hcs, _, hl, hm, hz, hx, hcell, hwz⟩
    · simp [Value.cells] at hcs
      obtain ⟨rfl, rfl, rfl⟩ := hcs
      exact main [] rfl ⟨Nat.le_refl _, by unfold maxLen; omega, fun h => absurd h (by simp)⟩ (by simp) (by simp) (fun _ => rfl)
    · simp [Value.cells] at hcs
      obtain ⟨rfl, rfl, rfl⟩ := hcs
      simp only [Prod.mk.injEq] at hx
      obtain ⟨rfl, rfl⟩ := hx
      simp only [if_true] at hz
      have hreach : len ≤ 140737488351232 := by
        have := sized_slice hsz (j := 0) (t := 54) (e := 5) rfl rfl Try.underlying54
        rw [bytes1] at this
        simp only [lits, List.length_map, List.length_take, List.length_drop, reachBytes] at this
        omega
      have hlen : (zs.take len).length = len := by rw [List.length_take]; omega
      refine main (zs.take len) hlen ⟨by omega, hm, fun h => ?_⟩ (by rw [hlen]; exact hreach) (get_range _ (fun n hn => hwz n (List.mem_of_mem_take hn))) (fun h => nomatch h)
      rw [hlen] at h
      obtain ⟨b, off, spot⟩ := a
      have hspot : spot = none := by simpa [Addr.add] using World.cell?_spot (hcell 0 (by omega))
      subst hspot
      have hbW : b < W.heap.size := lt0 (.cell b off) (MemPlace.mem_row.2 ⟨0, by omega, by simp⟩)
      refine ⟨b, off, rfl, hbW, fun j hj => ?_⟩
      rw [hlen] at hj
      rw [← Addr.add_lit, hcell j (by omega), get_take _ _ _ hj]
  refine walk.mono fun e W' ⟨he, bel⟩ => ?_
  subst he
  exact ⟨_, rfl, _, _, _, [], _, [], hW', trodAll_mk1 (shut_bool Try.underlying4 _), (trodAll_cons_mk (Below.trod laidOut (by kernel_rfl) (of_decide_eq_true (by kernel_rfl)) k0 bel lt0) (trodAll_cons_mk (Below.trod laidOut (by kernel_rfl) (of_decide_eq_true (by kernel_rfl)) k1 bel lt1) trodAll_mk0)), rfl, bel.frame _, fun h => by cases h⟩
theorem over : Rows.guestRoundsRow.holds Try.pinned (OpenSpec.ofChange Rows.guestRoundsSpec) :=
  OpenClaim.holds_of_wide 11 Try.f11 rfl rfl rfl rfl rfl rfl rfl ⟨rfl, rfl, rfl, rfl, rfl⟩ rfl rfl rfl rfl rfl (by kernel_rfl) Try.func11 (by kernel_rfl)
    (of_decide_eq_true (by kernel_rfl)) (by unfold Func.isWrapper; first | (rw [if_pos (by decide +kernel)]; kernel_rfl) | (rw [if_neg (by decide +kernel)]; exact ⟨rfl, rfl⟩))
    (fun os started H enc _ => lifted os started H enc)
theorem proved : Rows.GuestRoundsSaid := over
#print axioms proved
end Go.Proofs.Ytcjcmnnhmajocaa.guestRounds
