import Derived.Test.YtcjcmnnhmajocabGreatPmaa
set_option linter.unusedVariables false
set_option linter.unusedSimpArgs false
set_option maxRecDepth 100000
set_option maxHeartbeats 16000000
namespace Go.Proofs.YtcjcmnnhmajocabGreat.Ic
open Go.RowKit
theorem QU (w:World):Calls Tryz.prog 59 #[.int .i64 1] w fun e w'=>e= .returned (.tuple #[.agg #[.int .i64 0, .int .i64 1, .string {data:= #[107]}], .bool true])∧Below w.heap.size w w':=by
 go_enter Tryz.func59,Tryz.ntmps59
 go_wp2
 refine bodyPost_ret (v:= .tuple #[.agg #[.int .i64 0, .int .i64 1, .string {data:= #[107]}], .bool true]) (by simp [results,Tryz.results59,go_sem]) rfl ⟨rfl, ?_⟩
 exact((Below.refl _ _).alloc (Nat.le_refl _) _).alloc (by simp) _
theorem QV (w:World):Calls Tryz.prog 59 #[.int .i64 2] w fun e w'=>e= .returned (.tuple #[.agg #[.int .i64 0, .int .i64 12, .string {data:= #[]}], .bool true])∧Below w.heap.size w w':=by
 go_enter Tryz.func59,Tryz.ntmps59
 go_wp2
 refine bodyPost_ret (v:= .tuple #[.agg #[.int .i64 0, .int .i64 12, .string {data:= #[]}], .bool true]) (by simp [results,Tryz.results59,go_sem]) rfl ⟨rfl, ?_⟩
 exact((Below.refl _ _).alloc (Nat.le_refl _) _).alloc (by simp) _
theorem QW (w:World):Calls Tryz.prog 59 #[.int .i64 3] w fun e w'=>e= .returned (.tuple #[.agg #[.int .i64 0, .int .i64 12, .string {data:= #[97]}], .bool true])∧Below w.heap.size w w':=by
 go_enter Tryz.func59,Tryz.ntmps59
 go_wp2
 refine bodyPost_ret (v:= .tuple #[.agg #[.int .i64 0, .int .i64 12, .string {data:= #[97]}], .bool true]) (by simp [results,Tryz.results59,go_sem]) rfl ⟨rfl, ?_⟩
 exact((Below.refl _ _).alloc (Nat.le_refl _) _).alloc (by simp) _
theorem QY (w:World):Calls Tryz.prog 59 #[.int .i64 4] w fun e w'=>e= .returned (.tuple #[.agg #[.int .i64 0, .int .i64 16, .string {data:= #[97,98]}], .bool true])∧Below w.heap.size w w':=by
 go_enter Tryz.func59,Tryz.ntmps59
 go_wp2
 refine bodyPost_ret (v:= .tuple #[.agg #[.int .i64 0, .int .i64 16, .string {data:= #[97,98]}], .bool true]) (by simp [results,Tryz.results59,go_sem]) rfl ⟨rfl, ?_⟩
 exact((Below.refl _ _).alloc (Nat.le_refl _) _).alloc (by simp) _
theorem QZ (w:World):Calls Tryz.prog 59 #[.int .i64 5] w fun e w'=>e= .returned (.tuple #[.agg #[.int .i64 0, .int .i64 7, .string {data:= #[97]}], .bool true])∧Below w.heap.size w w':=by
 go_enter Tryz.func59,Tryz.ntmps59
 go_wp2
 refine bodyPost_ret (v:= .tuple #[.agg #[.int .i64 0, .int .i64 7, .string {data:= #[97]}], .bool true]) (by simp [results,Tryz.results59,go_sem]) rfl ⟨rfl, ?_⟩
 exact((Below.refl _ _).alloc (Nat.le_refl _) _).alloc (by simp) _
theorem Q5 (w:World):Calls Tryz.prog 59 #[.int .i64 6] w fun e w'=>e= .returned (.tuple #[.agg #[.int .i64 0, .int .i64 1, .string {data:= #[97,98,99]}], .bool true])∧Below w.heap.size w w':=by
 go_enter Tryz.func59,Tryz.ntmps59
 go_wp2
 refine bodyPost_ret (v:= .tuple #[.agg #[.int .i64 0, .int .i64 1, .string {data:= #[97,98,99]}], .bool true]) (by simp [results,Tryz.results59,go_sem]) rfl ⟨rfl, ?_⟩
 exact((Below.refl _ _).alloc (Nat.le_refl _) _).alloc (by simp) _
end Go.Proofs.YtcjcmnnhmajocabGreat.Ic
