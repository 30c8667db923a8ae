/- Lemmas. -/
import Derived.Lib.Hide
import Derived.Test.YtcjcmnnhmajocabPoas
namespace Go.Proofs.Ytcjcmnnhmajocab.Ic
open Go.RowKit Kt
set_option linter.unusedVariables false
set_option linter.unusedSimpArgs false
set_option maxRecDepth 100000 in
set_option maxHeartbeats 4000000 in
theorem ruleOf_13 (w : World) : Calls Try.prog 157 #[.int .i64 13] w fun e w' => e = .returned (.tuple #[.agg #[.int .i64 8, .bool true, .bool false, .bool false, .bool true, .bool true, .bool false, .bool false], .bool true]) ∧ Below w.heap.size w w' := by
  obtain ⟨i, hi, hzz⟩ := Option.map_eq_some_iff.1 info_rtab
  simp only [Prod.mk.injEq] at hzz
  obtain ⟨hz1, hz2⟩ := hzz
  obtain ⟨z, hz, hzs⟩ := Option.map_eq_some_iff.1 hz1
  have HI := Lib.hid hi
  have HZ := Lib.hid hz
  have HS := Lib.hid hzs
  have HN := Lib.hid hz2
  clear hi hz hzs hz2 hz1
  have r0 : rtab[104]? = some (.int .i64 8) := by kernel_rfl
  have r1 : rtab[105]? = some (.bool true) := by kernel_rfl
  have r2 : rtab[106]? = some (.bool false) := by kernel_rfl
  have r3 : rtab[107]? = some (.bool false) := by kernel_rfl
  have r4 : rtab[108]? = some (.bool true) := by kernel_rfl
  have r5 : rtab[109]? = some (.bool true) := by kernel_rfl
  have r6 : rtab[110]? = some (.bool false) := by kernel_rfl
  have r7 : rtab[111]? = some (.bool false) := by kernel_rfl
  go_enter Try.func157, Try.ntmps157
  go_wp2_with (first
    | ((with_reducible refine wpList_value (o := ⟨some 22, _, _, _, _, _⟩) (v := .agg rtab) ?_ ?_ ?_); (rfl); (kernel_rfl))
    | ((with_reducible refine wpList_lay (o2 := ⟨some 4, _, _, _, _, _⟩) (o3 := ⟨none, _, _, _, _, _⟩) ?_ ?_ 270 ?_ (.tmp 4) (.tmp 22) ?_ ?_ i z HI.out HZ.out 144 HS.out HN.out rtab rtab_size rtab_one ?_ ?_ ?_); (rfl); (rfl); (rfl); (rfl); (rfl); (rfl); (rfl)))
  all_goals refine bodyPost_ret (v := .tuple #[.agg #[.int .i64 8, .bool true, .bool false, .bool false, .bool true, .bool true, .bool false, .bool false], .bool true]) (by simp [results, Try.results157, go_sem]) rfl ⟨rfl, ?_⟩
  all_goals exact ((Below.refl _ _).alloc (Nat.le_refl _) _).alloc (by simp) _
set_option maxRecDepth 100000 in
set_option maxHeartbeats 4000000 in
theorem ruleOf_14 (w : World) : Calls Try.prog 157 #[.int .i64 14] w fun e w' => e = .returned (.tuple #[.agg #[.int .i64 8, .bool false, .bool false, .bool false, .bool true, .bool true, .bool true, .bool true], .bool true]) ∧ Below w.heap.size w w' := by
  obtain ⟨i, hi, hzz⟩ := Option.map_eq_some_iff.1 info_rtab
  simp only [Prod.mk.injEq] at hzz
  obtain ⟨hz1, hz2⟩ := hzz
  obtain ⟨z, hz, hzs⟩ := Option.map_eq_some_iff.1 hz1
  have HI := Lib.hid hi
  have HZ := Lib.hid hz
  have HS := Lib.hid hzs
  have HN := Lib.hid hz2
  clear hi hz hzs hz2 hz1
  have r0 : rtab[112]? = some (.int .i64 8) := by kernel_rfl
  have r1 : rtab[113]? = some (.bool false) := by kernel_rfl
  have r2 : rtab[114]? = some (.bool false) := by kernel_rfl
  have r3 : rtab[115]? = some (.bool false) := by kernel_rfl
  have r4 : rtab[116]? = some (.bool true) := by kernel_rfl
  have r5 : rtab[117]? = some (.bool true) := by kernel_rfl
  have r6 : rtab[118]? = some (.bool true) := by kernel_rfl
  have r7 : rtab[119]? = some (.bool true) := by kernel_rfl
  go_enter Try.func157, Try.ntmps157
  go_wp2_with (first
    | ((with_reducible refine wpList_value (o := ⟨some 22, _, _, _, _, _⟩) (v := .agg rtab) ?_ ?_ ?_); (rfl); (kernel_rfl))
    | ((with_reducible refine wpList_lay (o2 := ⟨some 4, _, _, _, _, _⟩) (o3 := ⟨none, _, _, _, _, _⟩) ?_ ?_ 270 ?_ (.tmp 4) (.tmp 22) ?_ ?_ i z HI.out HZ.out 144 HS.out HN.out rtab rtab_size rtab_one ?_ ?_ ?_); (rfl); (rfl); (rfl); (rfl); (rfl); (rfl); (rfl)))
  all_goals refine bodyPost_ret (v := .tuple #[.agg #[.int .i64 8, .bool false, .bool false, .bool false, .bool true, .bool true, .bool true, .bool true], .bool true]) (by simp [results, Try.results157, go_sem]) rfl ⟨rfl, ?_⟩
  all_goals exact ((Below.refl _ _).alloc (Nat.le_refl _) _).alloc (by simp) _
set_option maxRecDepth 100000 in
set_option maxHeartbeats 4000000 in
theorem ruleOf_15 (w : World) : Calls Try.prog 157 #[.int .i64 15] w fun e w' => e = .returned (.tuple #[.agg #[.int .i64 0, .bool false, .bool false, .bool false, .bool true, .bool true, .bool false, .bool true], .bool true]) ∧ Below w.heap.size w w' := by
  obtain ⟨i, hi, hzz⟩ := Option.map_eq_some_iff.1 info_rtab
  simp only [Prod.mk.injEq] at hzz
  obtain ⟨hz1, hz2⟩ := hzz
  obtain ⟨z, hz, hzs⟩ := Option.map_eq_some_iff.1 hz1
  have HI := Lib.hid hi
  have HZ := Lib.hid hz
  have HS := Lib.hid hzs
  have HN := Lib.hid hz2
  clear hi hz hzs hz2 hz1
  have r0 : rtab[120]? = some (.int .i64 0) := by kernel_rfl
  have r1 : rtab[121]? = some (.bool false) := by kernel_rfl
  have r2 : rtab[122]? = some (.bool false) := by kernel_rfl
  have r3 : rtab[123]? = some (.bool false) := by kernel_rfl
  have r4 : rtab[124]? = some (.bool true) := by kernel_rfl
  have r5 : rtab[125]? = some (.bool true) := by kernel_rfl
  have r6 : rtab[126]? = some (.bool false) := by kernel_rfl
  have r7 : rtab[127]? = some (.bool true) := by kernel_rfl
  go_enter Try.func157, Try.ntmps157
  go_wp2_with (first
    | ((with_reducible refine wpList_value (o := ⟨some 22, _, _, _, _, _⟩) (v := .agg rtab) ?_ ?_ ?_); (rfl); (kernel_rfl))
    | ((with_reducible refine wpList_lay (o2 := ⟨some 4, _, _, _, _, _⟩) (o3 := ⟨none, _, _, _, _, _⟩) ?_ ?_ 270 ?_ (.tmp 4) (.tmp 22) ?_ ?_ i z HI.out HZ.out 144 HS.out HN.out rtab rtab_size rtab_one ?_ ?_ ?_); (rfl); (rfl); (rfl); (rfl); (rfl); (rfl); (rfl)))
  all_goals refine bodyPost_ret (v := .tuple #[.agg #[.int .i64 0, .bool false, .bool false, .bool false, .bool true, .bool true, .bool false, .bool true], .bool true]) (by simp [results, Try.results157, go_sem]) rfl ⟨rfl, ?_⟩
  all_goals exact ((Below.refl _ _).alloc (Nat.le_refl _) _).alloc (by simp) _
set_option maxRecDepth 100000 in
set_option maxHeartbeats 4000000 in
theorem ruleOf_16 (w : World) : Calls Try.prog 157 #[.int .i64 16] w fun e w' => e = .returned (.tuple #[.agg #[.int .i64 0, .bool true, .bool false, .bool false, .bool false, .bool true, .bool false, .bool true], .bool true]) ∧ Below w.heap.size w w' := by
  obtain ⟨i, hi, hzz⟩ := Option.map_eq_some_iff.1 info_rtab
  simp only [Prod.mk.injEq] at hzz
  obtain ⟨hz1, hz2⟩ := hzz
  obtain ⟨z, hz, hzs⟩ := Option.map_eq_some_iff.1 hz1
  have HI := Lib.hid hi
  have HZ := Lib.hid hz
  have HS := Lib.hid hzs
  have HN := Lib.hid hz2
  clear hi hz hzs hz2 hz1
  have r0 : rtab[128]? = some (.int .i64 0) := by kernel_rfl
  have r1 : rtab[129]? = some (.bool true) := by kernel_rfl
  have r2 : rtab[130]? = some (.bool false) := by kernel_rfl
  have r3 : rtab[131]? = some (.bool false) := by kernel_rfl
  have r4 : rtab[132]? = some (.bool false) := by kernel_rfl
  have r5 : rtab[133]? = some (.bool true) := by kernel_rfl
  have r6 : rtab[134]? = some (.bool false) := by kernel_rfl
  have r7 : rtab[135]? = some (.bool true) := by kernel_rfl
  go_enter Try.func157, Try.ntmps157
  go_wp2_with (first
    | ((with_reducible refine wpList_value (o := ⟨some 22, _, _, _, _, _⟩) (v := .agg rtab) ?_ ?_ ?_); (rfl); (kernel_rfl))
    | ((with_reducible refine wpList_lay (o2 := ⟨some 4, _, _, _, _, _⟩) (o3 := ⟨none, _, _, _, _, _⟩) ?_ ?_ 270 ?_ (.tmp 4) (.tmp 22) ?_ ?_ i z HI.out HZ.out 144 HS.out HN.out rtab rtab_size rtab_one ?_ ?_ ?_); (rfl); (rfl); (rfl); (rfl); (rfl); (rfl); (rfl)))
  all_goals refine bodyPost_ret (v := .tuple #[.agg #[.int .i64 0, .bool true, .bool false, .bool false, .bool false, .bool true, .bool false, .bool true], .bool true]) (by simp [results, Try.results157, go_sem]) rfl ⟨rfl, ?_⟩
  all_goals exact ((Below.refl _ _).alloc (Nat.le_refl _) _).alloc (by simp) _
set_option maxRecDepth 100000 in
set_option maxHeartbeats 4000000 in
theorem ruleOf_17 (w : World) : Calls Try.prog 157 #[.int .i64 17] w fun e w' => e = .returned (.tuple #[.agg #[.int .i64 0, .bool false, .bool false, .bool false, .bool false, .bool false, .bool false, .bool false], .bool true]) ∧ Below w.heap.size w w' := by
  obtain ⟨i, hi, hzz⟩ := Option.map_eq_some_iff.1 info_rtab
  simp only [Prod.mk.injEq] at hzz
  obtain ⟨hz1, hz2⟩ := hzz
  obtain ⟨z, hz, hzs⟩ := Option.map_eq_some_iff.1 hz1
  have HI := Lib.hid hi
  have HZ := Lib.hid hz
  have HS := Lib.hid hzs
  have HN := Lib.hid hz2
  clear hi hz hzs hz2 hz1
  have r0 : rtab[136]? = some (.int .i64 0) := by kernel_rfl
  have r1 : rtab[137]? = some (.bool false) := by kernel_rfl
  have r2 : rtab[138]? = some (.bool false) := by kernel_rfl
  have r3 : rtab[139]? = some (.bool false) := by kernel_rfl
  have r4 : rtab[140]? = some (.bool false) := by kernel_rfl
  have r5 : rtab[141]? = some (.bool false) := by kernel_rfl
  have r6 : rtab[142]? = some (.bool false) := by kernel_rfl
  have r7 : rtab[143]? = some (.bool false) := by kernel_rfl
  go_enter Try.func157, Try.ntmps157
  go_wp2_with (first
    | ((with_reducible refine wpList_value (o := ⟨some 22, _, _, _, _, _⟩) (v := .agg rtab) ?_ ?_ ?_); (rfl); (kernel_rfl))
    | ((with_reducible refine wpList_lay (o2 := ⟨some 4, _, _, _, _, _⟩) (o3 := ⟨none, _, _, _, _, _⟩) ?_ ?_ 270 ?_ (.tmp 4) (.tmp 22) ?_ ?_ i z HI.out HZ.out 144 HS.out HN.out rtab rtab_size rtab_one ?_ ?_ ?_); (rfl); (rfl); (rfl); (rfl); (rfl); (rfl); (rfl)))
  all_goals refine bodyPost_ret (v := .tuple #[.agg #[.int .i64 0, .bool false, .bool false, .bool false, .bool false, .bool false, .bool false, .bool false], .bool true]) (by simp [results, Try.results157, go_sem]) rfl ⟨rfl, ?_⟩
  all_goals exact ((Below.refl _ _).alloc (Nat.le_refl _) _).alloc (by simp) _
set_option maxRecDepth 100000 in
set_option maxHeartbeats 4000000 in
theorem ruleOf_low (k : Int) (h : k < 1) (w : World) : Calls Try.prog 157 #[.int .i64 k] w fun e w' => e = .returned (.tuple #[.agg #[.int .i64 0, .bool false, .bool false, .bool false, .bool false, .bool false, .bool false, .bool false], .bool false]) ∧ Below w.heap.size w w' := by
  obtain ⟨i, hi, hzz⟩ := Option.map_eq_some_iff.1 info_rtab
  simp only [Prod.mk.injEq] at hzz
  obtain ⟨hz1, hz2⟩ := hzz
  obtain ⟨z, hz, hzs⟩ := Option.map_eq_some_iff.1 hz1
  have HI := Lib.hid hi
  have HZ := Lib.hid hz
  have HS := Lib.hid hzs
  have HN := Lib.hid hz2
  clear hi hz hzs hz2 hz1
  go_enter Try.func157, Try.ntmps157
  go_wp2_with (first
    | ((with_reducible refine wpList_value (o := ⟨some 22, _, _, _, _, _⟩) (v := .agg rtab) ?_ ?_ ?_); (rfl); (kernel_rfl))
    | ((with_reducible refine wpList_lay (o2 := ⟨some 4, _, _, _, _, _⟩) (o3 := ⟨none, _, _, _, _, _⟩) ?_ ?_ 270 ?_ (.tmp 4) (.tmp 22) ?_ ?_ i z HI.out HZ.out 144 HS.out HN.out rtab rtab_size rtab_one ?_ ?_ ?_); (rfl); (rfl); (rfl); (rfl); (rfl); (rfl); (rfl)))
  all_goals refine bodyPost_ret (v := .tuple #[.agg #[.int .i64 0, .bool false, .bool false, .bool false, .bool false, .bool false, .bool false, .bool false], .bool false]) (by simp [results, Try.results157, go_sem]) rfl ⟨rfl, ?_⟩
  all_goals exact ((Below.refl _ _).alloc (Nat.le_refl _) _).alloc (by simp) _
set_option maxRecDepth 100000 in
set_option maxHeartbeats 4000000 in
theorem ruleOf_high (k : Int) (h : 17 < k) (w : World) : Calls Try.prog 157 #[.int .i64 k] w fun e w' => e = .returned (.tuple #[.agg #[.int .i64 0, .bool false, .bool false, .bool false, .bool false, .bool false, .bool false, .bool false], .bool false]) ∧ Below w.heap.size w w' := by
  obtain ⟨i, hi, hzz⟩ := Option.map_eq_some_iff.1 info_rtab
  simp only [Prod.mk.injEq] at hzz
  obtain ⟨hz1, hz2⟩ := hzz
  obtain ⟨z, hz, hzs⟩ := Option.map_eq_some_iff.1 hz1
  have HI := Lib.hid hi
  have HZ := Lib.hid hz
  have HS := Lib.hid hzs
  have HN := Lib.hid hz2
  clear hi hz hzs hz2 hz1
  have h1 : ¬ k < 1 := by omega
  go_enter Try.func157, Try.ntmps157
  go_wp2_with (first
    | ((with_reducible refine wpList_value (o := ⟨some 22, _, _, _, _, _⟩) (v := .agg rtab) ?_ ?_ ?_); (rfl); (kernel_rfl))
    | ((with_reducible refine wpList_lay (o2 := ⟨some 4, _, _, _, _, _⟩) (o3 := ⟨none, _, _, _, _, _⟩) ?_ ?_ 270 ?_ (.tmp 4) (.tmp 22) ?_ ?_ i z HI.out HZ.out 144 HS.out HN.out rtab rtab_size rtab_one ?_ ?_ ?_); (rfl); (rfl); (rfl); (rfl); (rfl); (rfl); (rfl)))
  all_goals refine bodyPost_ret (v := .tuple #[.agg #[.int .i64 0, .bool false, .bool false, .bool false, .bool false, .bool false, .bool false, .bool false], .bool false]) (by simp [results, Try.results157, go_sem]) rfl ⟨rfl, ?_⟩
  all_goals exact ((Below.refl _ _).alloc (Nat.le_refl _) _).alloc (by simp) _
end Go.Proofs.Ytcjcmnnhmajocab.Ic
