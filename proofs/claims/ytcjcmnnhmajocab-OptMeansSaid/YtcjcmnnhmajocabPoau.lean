/- Lemmas. -/
import Derived.Lib.Hide
import Derived.Test.YtcjcmnnhmajocabPoas
namespace Go.Proofs.Ytcjcmnnhmajocab.Ic
open Go.RowKit Kt
set_option linter.unusedVariables false
set_option linter.unusedSimpArgs false
set_option maxRecDepth 100000 in
set_option maxHeartbeats 4000000 in
theorem ruleOf_7 (w : World) : Calls Try.prog 157 #[.int .i64 7] w fun e w' => e = .returned (.tuple #[.agg #[.int .i64 13, .bool true, .bool true, .bool true, .bool false, .bool false, .bool false, .bool false], .bool true]) ∧ Below w.heap.size w w' := by
  obtain ⟨i, hi, hzz⟩ := Option.map_eq_some_iff.1 info_rtab
  simp only [Prod.mk.injEq] at hzz
  obtain ⟨hz1, hz2⟩ := hzz
  obtain ⟨z, hz, hzs⟩ := Option.map_eq_some_iff.1 hz1
  have HI := Lib.hid hi
  have HZ := Lib.hid hz
  have HS := Lib.hid hzs
  have HN := Lib.hid hz2
  clear hi hz hzs hz2 hz1
  have r0 : rtab[56]? = some (.int .i64 13) := by kernel_rfl
  have r1 : rtab[57]? = some (.bool true) := by kernel_rfl
  have r2 : rtab[58]? = some (.bool true) := by kernel_rfl
  have r3 : rtab[59]? = some (.bool true) := by kernel_rfl
  have r4 : rtab[60]? = some (.bool false) := by kernel_rfl
  have r5 : rtab[61]? = some (.bool false) := by kernel_rfl
  have r6 : rtab[62]? = some (.bool false) := by kernel_rfl
  have r7 : rtab[63]? = some (.bool false) := by kernel_rfl
  go_enter Try.func157, Try.ntmps157
  go_wp2_with (first
    | ((with_reducible refine wpList_value (o := ⟨some 22, _, _, _, _, _⟩) (v := .agg rtab) ?_ ?_ ?_); (rfl); (kernel_rfl))
    | ((with_reducible refine wpList_lay (o2 := ⟨some 4, _, _, _, _, _⟩) (o3 := ⟨none, _, _, _, _, _⟩) ?_ ?_ 270 ?_ (.tmp 4) (.tmp 22) ?_ ?_ i z HI.out HZ.out 144 HS.out HN.out rtab rtab_size rtab_one ?_ ?_ ?_); (rfl); (rfl); (rfl); (rfl); (rfl); (rfl); (rfl)))
  all_goals refine bodyPost_ret (v := .tuple #[.agg #[.int .i64 13, .bool true, .bool true, .bool true, .bool false, .bool false, .bool false, .bool false], .bool true]) (by simp [results, Try.results157, go_sem]) rfl ⟨rfl, ?_⟩
  all_goals exact ((Below.refl _ _).alloc (Nat.le_refl _) _).alloc (by simp) _
set_option maxRecDepth 100000 in
set_option maxHeartbeats 4000000 in
theorem ruleOf_8 (w : World) : Calls Try.prog 157 #[.int .i64 8] w fun e w' => e = .returned (.tuple #[.agg #[.int .i64 16, .bool true, .bool false, .bool false, .bool false, .bool false, .bool false, .bool false], .bool true]) ∧ Below w.heap.size w w' := by
  obtain ⟨i, hi, hzz⟩ := Option.map_eq_some_iff.1 info_rtab
  simp only [Prod.mk.injEq] at hzz
  obtain ⟨hz1, hz2⟩ := hzz
  obtain ⟨z, hz, hzs⟩ := Option.map_eq_some_iff.1 hz1
  have HI := Lib.hid hi
  have HZ := Lib.hid hz
  have HS := Lib.hid hzs
  have HN := Lib.hid hz2
  clear hi hz hzs hz2 hz1
  have r0 : rtab[64]? = some (.int .i64 16) := by kernel_rfl
  have r1 : rtab[65]? = some (.bool true) := by kernel_rfl
  have r2 : rtab[66]? = some (.bool false) := by kernel_rfl
  have r3 : rtab[67]? = some (.bool false) := by kernel_rfl
  have r4 : rtab[68]? = some (.bool false) := by kernel_rfl
  have r5 : rtab[69]? = some (.bool false) := by kernel_rfl
  have r6 : rtab[70]? = some (.bool false) := by kernel_rfl
  have r7 : rtab[71]? = some (.bool false) := by kernel_rfl
  go_enter Try.func157, Try.ntmps157
  go_wp2_with (first
    | ((with_reducible refine wpList_value (o := ⟨some 22, _, _, _, _, _⟩) (v := .agg rtab) ?_ ?_ ?_); (rfl); (kernel_rfl))
    | ((with_reducible refine wpList_lay (o2 := ⟨some 4, _, _, _, _, _⟩) (o3 := ⟨none, _, _, _, _, _⟩) ?_ ?_ 270 ?_ (.tmp 4) (.tmp 22) ?_ ?_ i z HI.out HZ.out 144 HS.out HN.out rtab rtab_size rtab_one ?_ ?_ ?_); (rfl); (rfl); (rfl); (rfl); (rfl); (rfl); (rfl)))
  all_goals refine bodyPost_ret (v := .tuple #[.agg #[.int .i64 16, .bool true, .bool false, .bool false, .bool false, .bool false, .bool false, .bool false], .bool true]) (by simp [results, Try.results157, go_sem]) rfl ⟨rfl, ?_⟩
  all_goals exact ((Below.refl _ _).alloc (Nat.le_refl _) _).alloc (by simp) _
set_option maxRecDepth 100000 in
set_option maxHeartbeats 4000000 in
theorem ruleOf_9 (w : World) : Calls Try.prog 157 #[.int .i64 9] w fun e w' => e = .returned (.tuple #[.agg #[.int .i64 5, .bool true, .bool false, .bool false, .bool true, .bool true, .bool false, .bool false], .bool true]) ∧ Below w.heap.size w w' := by
  obtain ⟨i, hi, hzz⟩ := Option.map_eq_some_iff.1 info_rtab
  simp only [Prod.mk.injEq] at hzz
  obtain ⟨hz1, hz2⟩ := hzz
  obtain ⟨z, hz, hzs⟩ := Option.map_eq_some_iff.1 hz1
  have HI := Lib.hid hi
  have HZ := Lib.hid hz
  have HS := Lib.hid hzs
  have HN := Lib.hid hz2
  clear hi hz hzs hz2 hz1
  have r0 : rtab[72]? = some (.int .i64 5) := by kernel_rfl
  have r1 : rtab[73]? = some (.bool true) := by kernel_rfl
  have r2 : rtab[74]? = some (.bool false) := by kernel_rfl
  have r3 : rtab[75]? = some (.bool false) := by kernel_rfl
  have r4 : rtab[76]? = some (.bool true) := by kernel_rfl
  have r5 : rtab[77]? = some (.bool true) := by kernel_rfl
  have r6 : rtab[78]? = some (.bool false) := by kernel_rfl
  have r7 : rtab[79]? = some (.bool false) := by kernel_rfl
  go_enter Try.func157, Try.ntmps157
  go_wp2_with (first
    | ((with_reducible refine wpList_value (o := ⟨some 22, _, _, _, _, _⟩) (v := .agg rtab) ?_ ?_ ?_); (rfl); (kernel_rfl))
    | ((with_reducible refine wpList_lay (o2 := ⟨some 4, _, _, _, _, _⟩) (o3 := ⟨none, _, _, _, _, _⟩) ?_ ?_ 270 ?_ (.tmp 4) (.tmp 22) ?_ ?_ i z HI.out HZ.out 144 HS.out HN.out rtab rtab_size rtab_one ?_ ?_ ?_); (rfl); (rfl); (rfl); (rfl); (rfl); (rfl); (rfl)))
  all_goals refine bodyPost_ret (v := .tuple #[.agg #[.int .i64 5, .bool true, .bool false, .bool false, .bool true, .bool true, .bool false, .bool false], .bool true]) (by simp [results, Try.results157, go_sem]) rfl ⟨rfl, ?_⟩
  all_goals exact ((Below.refl _ _).alloc (Nat.le_refl _) _).alloc (by simp) _
set_option maxRecDepth 100000 in
set_option maxHeartbeats 4000000 in
theorem ruleOf_10 (w : World) : Calls Try.prog 157 #[.int .i64 10] w fun e w' => e = .returned (.tuple #[.agg #[.int .i64 3, .bool true, .bool true, .bool false, .bool true, .bool true, .bool false, .bool false], .bool true]) ∧ Below w.heap.size w w' := by
  obtain ⟨i, hi, hzz⟩ := Option.map_eq_some_iff.1 info_rtab
  simp only [Prod.mk.injEq] at hzz
  obtain ⟨hz1, hz2⟩ := hzz
  obtain ⟨z, hz, hzs⟩ := Option.map_eq_some_iff.1 hz1
  have HI := Lib.hid hi
  have HZ := Lib.hid hz
  have HS := Lib.hid hzs
  have HN := Lib.hid hz2
  clear hi hz hzs hz2 hz1
  have r0 : rtab[80]? = some (.int .i64 3) := by kernel_rfl
  have r1 : rtab[81]? = some (.bool true) := by kernel_rfl
  have r2 : rtab[82]? = some (.bool true) := by kernel_rfl
  have r3 : rtab[83]? = some (.bool false) := by kernel_rfl
  have r4 : rtab[84]? = some (.bool true) := by kernel_rfl
  have r5 : rtab[85]? = some (.bool true) := by kernel_rfl
  have r6 : rtab[86]? = some (.bool false) := by kernel_rfl
  have r7 : rtab[87]? = some (.bool false) := by kernel_rfl
  go_enter Try.func157, Try.ntmps157
  go_wp2_with (first
    | ((with_reducible refine wpList_value (o := ⟨some 22, _, _, _, _, _⟩) (v := .agg rtab) ?_ ?_ ?_); (rfl); (kernel_rfl))
    | ((with_reducible refine wpList_lay (o2 := ⟨some 4, _, _, _, _, _⟩) (o3 := ⟨none, _, _, _, _, _⟩) ?_ ?_ 270 ?_ (.tmp 4) (.tmp 22) ?_ ?_ i z HI.out HZ.out 144 HS.out HN.out rtab rtab_size rtab_one ?_ ?_ ?_); (rfl); (rfl); (rfl); (rfl); (rfl); (rfl); (rfl)))
  all_goals refine bodyPost_ret (v := .tuple #[.agg #[.int .i64 3, .bool true, .bool true, .bool false, .bool true, .bool true, .bool false, .bool false], .bool true]) (by simp [results, Try.results157, go_sem]) rfl ⟨rfl, ?_⟩
  all_goals exact ((Below.refl _ _).alloc (Nat.le_refl _) _).alloc (by simp) _
set_option maxRecDepth 100000 in
set_option maxHeartbeats 4000000 in
theorem ruleOf_11 (w : World) : Calls Try.prog 157 #[.int .i64 11] w fun e w' => e = .returned (.tuple #[.agg #[.int .i64 0, .bool false, .bool false, .bool false, .bool true, .bool true, .bool false, .bool false], .bool true]) ∧ Below w.heap.size w w' := by
  obtain ⟨i, hi, hzz⟩ := Option.map_eq_some_iff.1 info_rtab
  simp only [Prod.mk.injEq] at hzz
  obtain ⟨hz1, hz2⟩ := hzz
  obtain ⟨z, hz, hzs⟩ := Option.map_eq_some_iff.1 hz1
  have HI := Lib.hid hi
  have HZ := Lib.hid hz
  have HS := Lib.hid hzs
  have HN := Lib.hid hz2
  clear hi hz hzs hz2 hz1
  have r0 : rtab[88]? = some (.int .i64 0) := by kernel_rfl
  have r1 : rtab[89]? = some (.bool false) := by kernel_rfl
  have r2 : rtab[90]? = some (.bool false) := by kernel_rfl
  have r3 : rtab[91]? = some (.bool false) := by kernel_rfl
  have r4 : rtab[92]? = some (.bool true) := by kernel_rfl
  have r5 : rtab[93]? = some (.bool true) := by kernel_rfl
  have r6 : rtab[94]? = some (.bool false) := by kernel_rfl
  have r7 : rtab[95]? = some (.bool false) := by kernel_rfl
  go_enter Try.func157, Try.ntmps157
  go_wp2_with (first
    | ((with_reducible refine wpList_value (o := ⟨some 22, _, _, _, _, _⟩) (v := .agg rtab) ?_ ?_ ?_); (rfl); (kernel_rfl))
    | ((with_reducible refine wpList_lay (o2 := ⟨some 4, _, _, _, _, _⟩) (o3 := ⟨none, _, _, _, _, _⟩) ?_ ?_ 270 ?_ (.tmp 4) (.tmp 22) ?_ ?_ i z HI.out HZ.out 144 HS.out HN.out rtab rtab_size rtab_one ?_ ?_ ?_); (rfl); (rfl); (rfl); (rfl); (rfl); (rfl); (rfl)))
  all_goals refine bodyPost_ret (v := .tuple #[.agg #[.int .i64 0, .bool false, .bool false, .bool false, .bool true, .bool true, .bool false, .bool false], .bool true]) (by simp [results, Try.results157, go_sem]) rfl ⟨rfl, ?_⟩
  all_goals exact ((Below.refl _ _).alloc (Nat.le_refl _) _).alloc (by simp) _
set_option maxRecDepth 100000 in
set_option maxHeartbeats 4000000 in
theorem ruleOf_12 (w : World) : Calls Try.prog 157 #[.int .i64 12] w fun e w' => e = .returned (.tuple #[.agg #[.int .i64 0, .bool true, .bool false, .bool false, .bool true, .bool true, .bool false, .bool false], .bool true]) ∧ Below w.heap.size w w' := by
  obtain ⟨i, hi, hzz⟩ := Option.map_eq_some_iff.1 info_rtab
  simp only [Prod.mk.injEq] at hzz
  obtain ⟨hz1, hz2⟩ := hzz
  obtain ⟨z, hz, hzs⟩ := Option.map_eq_some_iff.1 hz1
  have HI := Lib.hid hi
  have HZ := Lib.hid hz
  have HS := Lib.hid hzs
  have HN := Lib.hid hz2
  clear hi hz hzs hz2 hz1
  have r0 : rtab[96]? = some (.int .i64 0) := by kernel_rfl
  have r1 : rtab[97]? = some (.bool true) := by kernel_rfl
  have r2 : rtab[98]? = some (.bool false) := by kernel_rfl
  have r3 : rtab[99]? = some (.bool false) := by kernel_rfl
  have r4 : rtab[100]? = some (.bool true) := by kernel_rfl
  have r5 : rtab[101]? = some (.bool true) := by kernel_rfl
  have r6 : rtab[102]? = some (.bool false) := by kernel_rfl
  have r7 : rtab[103]? = some (.bool false) := by kernel_rfl
  go_enter Try.func157, Try.ntmps157
  go_wp2_with (first
    | ((with_reducible refine wpList_value (o := ⟨some 22, _, _, _, _, _⟩) (v := .agg rtab) ?_ ?_ ?_); (rfl); (kernel_rfl))
    | ((with_reducible refine wpList_lay (o2 := ⟨some 4, _, _, _, _, _⟩) (o3 := ⟨none, _, _, _, _, _⟩) ?_ ?_ 270 ?_ (.tmp 4) (.tmp 22) ?_ ?_ i z HI.out HZ.out 144 HS.out HN.out rtab rtab_size rtab_one ?_ ?_ ?_); (rfl); (rfl); (rfl); (rfl); (rfl); (rfl); (rfl)))
  all_goals refine bodyPost_ret (v := .tuple #[.agg #[.int .i64 0, .bool true, .bool false, .bool false, .bool true, .bool true, .bool false, .bool false], .bool true]) (by simp [results, Try.results157, go_sem]) rfl ⟨rfl, ?_⟩
  all_goals exact ((Below.refl _ _).alloc (Nat.le_refl _) _).alloc (by simp) _
end Go.Proofs.Ytcjcmnnhmajocab.Ic
