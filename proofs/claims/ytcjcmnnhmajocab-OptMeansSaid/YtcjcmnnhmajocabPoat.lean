/- Lemmas. -/
import Derived.Lib.Hide
import Derived.Test.YtcjcmnnhmajocabPoas
namespace Go.Proofs.Ytcjcmnnhmajocab.Ic
open Go.RowKit Kt
set_option linter.unusedVariables false
set_option linter.unusedSimpArgs false
set_option maxRecDepth 100000 in
set_option maxHeartbeats 4000000 in
theorem ruleOf_1 (w : World) : Calls Try.prog 157 #[.int .i64 1] w fun e w' => e = .returned (.tuple #[.agg #[.int .i64 0, .bool false, .bool false, .bool false, .bool true, .bool false, .bool false, .bool false], .bool true]) ∧ Below w.heap.size w w' := by
  obtain ⟨i, hi, hzz⟩ := Option.map_eq_some_iff.1 info_rtab
  simp only [Prod.mk.injEq] at hzz
  obtain ⟨hz1, hz2⟩ := hzz
  obtain ⟨z, hz, hzs⟩ := Option.map_eq_some_iff.1 hz1
  have HI := Lib.hid hi
  have HZ := Lib.hid hz
  have HS := Lib.hid hzs
  have HN := Lib.hid hz2
  clear hi hz hzs hz2 hz1
  have r0 : rtab[8]? = some (.int .i64 0) := by kernel_rfl
  have r1 : rtab[9]? = some (.bool false) := by kernel_rfl
  have r2 : rtab[10]? = some (.bool false) := by kernel_rfl
  have r3 : rtab[11]? = some (.bool false) := by kernel_rfl
  have r4 : rtab[12]? = some (.bool true) := by kernel_rfl
  have r5 : rtab[13]? = some (.bool false) := by kernel_rfl
  have r6 : rtab[14]? = some (.bool false) := by kernel_rfl
  have r7 : rtab[15]? = some (.bool false) := by kernel_rfl
  go_enter Try.func157, Try.ntmps157
  go_wp2_with (first
    | ((with_reducible refine wpList_value (o := ⟨some 22, _, _, _, _, _⟩) (v := .agg rtab) ?_ ?_ ?_); (rfl); (kernel_rfl))
    | ((with_reducible refine wpList_lay (o2 := ⟨some 4, _, _, _, _, _⟩) (o3 := ⟨none, _, _, _, _, _⟩) ?_ ?_ 270 ?_ (.tmp 4) (.tmp 22) ?_ ?_ i z HI.out HZ.out 144 HS.out HN.out rtab rtab_size rtab_one ?_ ?_ ?_); (rfl); (rfl); (rfl); (rfl); (rfl); (rfl); (rfl)))
  all_goals refine bodyPost_ret (v := .tuple #[.agg #[.int .i64 0, .bool false, .bool false, .bool false, .bool true, .bool false, .bool false, .bool false], .bool true]) (by simp [results, Try.results157, go_sem]) rfl ⟨rfl, ?_⟩
  all_goals exact ((Below.refl _ _).alloc (Nat.le_refl _) _).alloc (by simp) _
set_option maxRecDepth 100000 in
set_option maxHeartbeats 4000000 in
theorem ruleOf_2 (w : World) : Calls Try.prog 157 #[.int .i64 2] w fun e w' => e = .returned (.tuple #[.agg #[.int .i64 12, .bool false, .bool false, .bool false, .bool false, .bool false, .bool false, .bool false], .bool true]) ∧ Below w.heap.size w w' := by
  obtain ⟨i, hi, hzz⟩ := Option.map_eq_some_iff.1 info_rtab
  simp only [Prod.mk.injEq] at hzz
  obtain ⟨hz1, hz2⟩ := hzz
  obtain ⟨z, hz, hzs⟩ := Option.map_eq_some_iff.1 hz1
  have HI := Lib.hid hi
  have HZ := Lib.hid hz
  have HS := Lib.hid hzs
  have HN := Lib.hid hz2
  clear hi hz hzs hz2 hz1
  have r0 : rtab[16]? = some (.int .i64 12) := by kernel_rfl
  have r1 : rtab[17]? = some (.bool false) := by kernel_rfl
  have r2 : rtab[18]? = some (.bool false) := by kernel_rfl
  have r3 : rtab[19]? = some (.bool false) := by kernel_rfl
  have r4 : rtab[20]? = some (.bool false) := by kernel_rfl
  have r5 : rtab[21]? = some (.bool false) := by kernel_rfl
  have r6 : rtab[22]? = some (.bool false) := by kernel_rfl
  have r7 : rtab[23]? = some (.bool false) := by kernel_rfl
  go_enter Try.func157, Try.ntmps157
  go_wp2_with (first
    | ((with_reducible refine wpList_value (o := ⟨some 22, _, _, _, _, _⟩) (v := .agg rtab) ?_ ?_ ?_); (rfl); (kernel_rfl))
    | ((with_reducible refine wpList_lay (o2 := ⟨some 4, _, _, _, _, _⟩) (o3 := ⟨none, _, _, _, _, _⟩) ?_ ?_ 270 ?_ (.tmp 4) (.tmp 22) ?_ ?_ i z HI.out HZ.out 144 HS.out HN.out rtab rtab_size rtab_one ?_ ?_ ?_); (rfl); (rfl); (rfl); (rfl); (rfl); (rfl); (rfl)))
  all_goals refine bodyPost_ret (v := .tuple #[.agg #[.int .i64 12, .bool false, .bool false, .bool false, .bool false, .bool false, .bool false, .bool false], .bool true]) (by simp [results, Try.results157, go_sem]) rfl ⟨rfl, ?_⟩
  all_goals exact ((Below.refl _ _).alloc (Nat.le_refl _) _).alloc (by simp) _
set_option maxRecDepth 100000 in
set_option maxHeartbeats 4000000 in
theorem ruleOf_3 (w : World) : Calls Try.prog 157 #[.int .i64 3] w fun e w' => e = .returned (.tuple #[.agg #[.int .i64 12, .bool true, .bool false, .bool false, .bool false, .bool false, .bool false, .bool false], .bool true]) ∧ Below w.heap.size w w' := by
  obtain ⟨i, hi, hzz⟩ := Option.map_eq_some_iff.1 info_rtab
  simp only [Prod.mk.injEq] at hzz
  obtain ⟨hz1, hz2⟩ := hzz
  obtain ⟨z, hz, hzs⟩ := Option.map_eq_some_iff.1 hz1
  have HI := Lib.hid hi
  have HZ := Lib.hid hz
  have HS := Lib.hid hzs
  have HN := Lib.hid hz2
  clear hi hz hzs hz2 hz1
  have r0 : rtab[24]? = some (.int .i64 12) := by kernel_rfl
  have r1 : rtab[25]? = some (.bool true) := by kernel_rfl
  have r2 : rtab[26]? = some (.bool false) := by kernel_rfl
  have r3 : rtab[27]? = some (.bool false) := by kernel_rfl
  have r4 : rtab[28]? = some (.bool false) := by kernel_rfl
  have r5 : rtab[29]? = some (.bool false) := by kernel_rfl
  have r6 : rtab[30]? = some (.bool false) := by kernel_rfl
  have r7 : rtab[31]? = some (.bool false) := by kernel_rfl
  go_enter Try.func157, Try.ntmps157
  go_wp2_with (first
    | ((with_reducible refine wpList_value (o := ⟨some 22, _, _, _, _, _⟩) (v := .agg rtab) ?_ ?_ ?_); (rfl); (kernel_rfl))
    | ((with_reducible refine wpList_lay (o2 := ⟨some 4, _, _, _, _, _⟩) (o3 := ⟨none, _, _, _, _, _⟩) ?_ ?_ 270 ?_ (.tmp 4) (.tmp 22) ?_ ?_ i z HI.out HZ.out 144 HS.out HN.out rtab rtab_size rtab_one ?_ ?_ ?_); (rfl); (rfl); (rfl); (rfl); (rfl); (rfl); (rfl)))
  all_goals refine bodyPost_ret (v := .tuple #[.agg #[.int .i64 12, .bool true, .bool false, .bool false, .bool false, .bool false, .bool false, .bool false], .bool true]) (by simp [results, Try.results157, go_sem]) rfl ⟨rfl, ?_⟩
  all_goals exact ((Below.refl _ _).alloc (Nat.le_refl _) _).alloc (by simp) _
set_option maxRecDepth 100000 in
set_option maxHeartbeats 4000000 in
theorem ruleOf_4 (w : World) : Calls Try.prog 157 #[.int .i64 4] w fun e w' => e = .returned (.tuple #[.agg #[.int .i64 16, .bool true, .bool true, .bool false, .bool false, .bool false, .bool false, .bool false], .bool true]) ∧ Below w.heap.size w w' := by
  obtain ⟨i, hi, hzz⟩ := Option.map_eq_some_iff.1 info_rtab
  simp only [Prod.mk.injEq] at hzz
  obtain ⟨hz1, hz2⟩ := hzz
  obtain ⟨z, hz, hzs⟩ := Option.map_eq_some_iff.1 hz1
  have HI := Lib.hid hi
  have HZ := Lib.hid hz
  have HS := Lib.hid hzs
  have HN := Lib.hid hz2
  clear hi hz hzs hz2 hz1
  have r0 : rtab[32]? = some (.int .i64 16) := by kernel_rfl
  have r1 : rtab[33]? = some (.bool true) := by kernel_rfl
  have r2 : rtab[34]? = some (.bool true) := by kernel_rfl
  have r3 : rtab[35]? = some (.bool false) := by kernel_rfl
  have r4 : rtab[36]? = some (.bool false) := by kernel_rfl
  have r5 : rtab[37]? = some (.bool false) := by kernel_rfl
  have r6 : rtab[38]? = some (.bool false) := by kernel_rfl
  have r7 : rtab[39]? = some (.bool false) := by kernel_rfl
  go_enter Try.func157, Try.ntmps157
  go_wp2_with (first
    | ((with_reducible refine wpList_value (o := ⟨some 22, _, _, _, _, _⟩) (v := .agg rtab) ?_ ?_ ?_); (rfl); (kernel_rfl))
    | ((with_reducible refine wpList_lay (o2 := ⟨some 4, _, _, _, _, _⟩) (o3 := ⟨none, _, _, _, _, _⟩) ?_ ?_ 270 ?_ (.tmp 4) (.tmp 22) ?_ ?_ i z HI.out HZ.out 144 HS.out HN.out rtab rtab_size rtab_one ?_ ?_ ?_); (rfl); (rfl); (rfl); (rfl); (rfl); (rfl); (rfl)))
  all_goals refine bodyPost_ret (v := .tuple #[.agg #[.int .i64 16, .bool true, .bool true, .bool false, .bool false, .bool false, .bool false, .bool false], .bool true]) (by simp [results, Try.results157, go_sem]) rfl ⟨rfl, ?_⟩
  all_goals exact ((Below.refl _ _).alloc (Nat.le_refl _) _).alloc (by simp) _
set_option maxRecDepth 100000 in
set_option maxHeartbeats 4000000 in
theorem ruleOf_5 (w : World) : Calls Try.prog 157 #[.int .i64 5] w fun e w' => e = .returned (.tuple #[.agg #[.int .i64 7, .bool true, .bool false, .bool false, .bool false, .bool false, .bool false, .bool false], .bool true]) ∧ Below w.heap.size w w' := by
  obtain ⟨i, hi, hzz⟩ := Option.map_eq_some_iff.1 info_rtab
  simp only [Prod.mk.injEq] at hzz
  obtain ⟨hz1, hz2⟩ := hzz
  obtain ⟨z, hz, hzs⟩ := Option.map_eq_some_iff.1 hz1
  have HI := Lib.hid hi
  have HZ := Lib.hid hz
  have HS := Lib.hid hzs
  have HN := Lib.hid hz2
  clear hi hz hzs hz2 hz1
  have r0 : rtab[40]? = some (.int .i64 7) := by kernel_rfl
  have r1 : rtab[41]? = some (.bool true) := by kernel_rfl
  have r2 : rtab[42]? = some (.bool false) := by kernel_rfl
  have r3 : rtab[43]? = some (.bool false) := by kernel_rfl
  have r4 : rtab[44]? = some (.bool false) := by kernel_rfl
  have r5 : rtab[45]? = some (.bool false) := by kernel_rfl
  have r6 : rtab[46]? = some (.bool false) := by kernel_rfl
  have r7 : rtab[47]? = some (.bool false) := by kernel_rfl
  go_enter Try.func157, Try.ntmps157
  go_wp2_with (first
    | ((with_reducible refine wpList_value (o := ⟨some 22, _, _, _, _, _⟩) (v := .agg rtab) ?_ ?_ ?_); (rfl); (kernel_rfl))
    | ((with_reducible refine wpList_lay (o2 := ⟨some 4, _, _, _, _, _⟩) (o3 := ⟨none, _, _, _, _, _⟩) ?_ ?_ 270 ?_ (.tmp 4) (.tmp 22) ?_ ?_ i z HI.out HZ.out 144 HS.out HN.out rtab rtab_size rtab_one ?_ ?_ ?_); (rfl); (rfl); (rfl); (rfl); (rfl); (rfl); (rfl)))
  all_goals refine bodyPost_ret (v := .tuple #[.agg #[.int .i64 7, .bool true, .bool false, .bool false, .bool false, .bool false, .bool false, .bool false], .bool true]) (by simp [results, Try.results157, go_sem]) rfl ⟨rfl, ?_⟩
  all_goals exact ((Below.refl _ _).alloc (Nat.le_refl _) _).alloc (by simp) _
set_option maxRecDepth 100000 in
set_option maxHeartbeats 4000000 in
theorem ruleOf_6 (w : World) : Calls Try.prog 157 #[.int .i64 6] w fun e w' => e = .returned (.tuple #[.agg #[.int .i64 0, .bool true, .bool true, .bool true, .bool false, .bool false, .bool false, .bool false], .bool true]) ∧ Below w.heap.size w w' := by
  obtain ⟨i, hi, hzz⟩ := Option.map_eq_some_iff.1 info_rtab
  simp only [Prod.mk.injEq] at hzz
  obtain ⟨hz1, hz2⟩ := hzz
  obtain ⟨z, hz, hzs⟩ := Option.map_eq_some_iff.1 hz1
  have HI := Lib.hid hi
  have HZ := Lib.hid hz
  have HS := Lib.hid hzs
  have HN := Lib.hid hz2
  clear hi hz hzs hz2 hz1
  have r0 : rtab[48]? = some (.int .i64 0) := by kernel_rfl
  have r1 : rtab[49]? = some (.bool true) := by kernel_rfl
  have r2 : rtab[50]? = some (.bool true) := by kernel_rfl
  have r3 : rtab[51]? = some (.bool true) := by kernel_rfl
  have r4 : rtab[52]? = some (.bool false) := by kernel_rfl
  have r5 : rtab[53]? = some (.bool false) := by kernel_rfl
  have r6 : rtab[54]? = some (.bool false) := by kernel_rfl
  have r7 : rtab[55]? = some (.bool false) := by kernel_rfl
  go_enter Try.func157, Try.ntmps157
  go_wp2_with (first
    | ((with_reducible refine wpList_value (o := ⟨some 22, _, _, _, _, _⟩) (v := .agg rtab) ?_ ?_ ?_); (rfl); (kernel_rfl))
    | ((with_reducible refine wpList_lay (o2 := ⟨some 4, _, _, _, _, _⟩) (o3 := ⟨none, _, _, _, _, _⟩) ?_ ?_ 270 ?_ (.tmp 4) (.tmp 22) ?_ ?_ i z HI.out HZ.out 144 HS.out HN.out rtab rtab_size rtab_one ?_ ?_ ?_); (rfl); (rfl); (rfl); (rfl); (rfl); (rfl); (rfl)))
  all_goals refine bodyPost_ret (v := .tuple #[.agg #[.int .i64 0, .bool true, .bool true, .bool true, .bool false, .bool false, .bool false, .bool false], .bool true]) (by simp [results, Try.results157, go_sem]) rfl ⟨rfl, ?_⟩
  all_goals exact ((Below.refl _ _).alloc (Nat.le_refl _) _).alloc (by simp) _
end Go.Proofs.Ytcjcmnnhmajocab.Ic
