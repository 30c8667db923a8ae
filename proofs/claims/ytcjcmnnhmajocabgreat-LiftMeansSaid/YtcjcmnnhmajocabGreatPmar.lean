import Derived.Test.YtcjcmnnhmajocabGreatPmaa
set_option linter.unusedVariables false
set_option linter.unusedSimpArgs false
set_option maxRecDepth 100000
set_option maxHeartbeats 16000000
namespace Go.Proofs.YtcjcmnnhmajocabGreat.Ic
open Go.RowKit
theorem Q7 (w:World):Calls Tryz.prog 59 #[.int .i64 7] w fun e w'=>e= .returned (.tuple #[.agg #[.int .i64 0, .int .i64 13, .string {data:= #[97,98,99]}], .bool true])∧Below w.heap.size w w':=by
 go_enter Tryz.func59,Tryz.ntmps59
 go_wp2
 refine bodyPost_ret (v:= .tuple #[.agg #[.int .i64 0, .int .i64 13, .string {data:= #[97,98,99]}], .bool true]) (by simp [results,Tryz.results59,go_sem]) rfl ⟨rfl, ?_⟩
 exact((Below.refl _ _).alloc (Nat.le_refl _) _).alloc (by simp) _
theorem Q8 (w:World):Calls Tryz.prog 59 #[.int .i64 8] w fun e w'=>e= .returned (.tuple #[.agg #[.int .i64 0, .int .i64 16, .string {data:= #[97]}], .bool true])∧Below w.heap.size w w':=by
 go_enter Tryz.func59,Tryz.ntmps59
 go_wp2
 refine bodyPost_ret (v:= .tuple #[.agg #[.int .i64 0, .int .i64 16, .string {data:= #[97]}], .bool true]) (by simp [results,Tryz.results59,go_sem]) rfl ⟨rfl, ?_⟩
 exact((Below.refl _ _).alloc (Nat.le_refl _) _).alloc (by simp) _
theorem Q9 (w:World):Calls Tryz.prog 59 #[.int .i64 9] w fun e w'=>e= .returned (.tuple #[.agg #[.int .i64 0, .int .i64 5, .string {data:= #[97,107,110]}], .bool true])∧Below w.heap.size w w':=by
 go_enter Tryz.func59,Tryz.ntmps59
 go_wp2
 refine bodyPost_ret (v:= .tuple #[.agg #[.int .i64 0, .int .i64 5, .string {data:= #[97,107,110]}], .bool true]) (by simp [results,Tryz.results59,go_sem]) rfl ⟨rfl, ?_⟩
 exact((Below.refl _ _).alloc (Nat.le_refl _) _).alloc (by simp) _
theorem KW (w:World):Calls Tryz.prog 59 #[.int .i64 10] w fun e w'=>e= .returned (.tuple #[.agg #[.int .i64 0, .int .i64 3, .string {data:= #[97,98,107,110]}], .bool true])∧Below w.heap.size w w':=by
 go_enter Tryz.func59,Tryz.ntmps59
 go_wp2
 refine bodyPost_ret (v:= .tuple #[.agg #[.int .i64 0, .int .i64 3, .string {data:= #[97,98,107,110]}], .bool true]) (by simp [results,Tryz.results59,go_sem]) rfl ⟨rfl, ?_⟩
 exact((Below.refl _ _).alloc (Nat.le_refl _) _).alloc (by simp) _
theorem KX (w:World):Calls Tryz.prog 59 #[.int .i64 11] w fun e w'=>e= .returned (.tuple #[.agg #[.int .i64 0, .int .i64 1, .string {data:= #[107,110]}], .bool true])∧Below w.heap.size w w':=by
 go_enter Tryz.func59,Tryz.ntmps59
 go_wp2
 refine bodyPost_ret (v:= .tuple #[.agg #[.int .i64 0, .int .i64 1, .string {data:= #[107,110]}], .bool true]) (by simp [results,Tryz.results59,go_sem]) rfl ⟨rfl, ?_⟩
 exact((Below.refl _ _).alloc (Nat.le_refl _) _).alloc (by simp) _
theorem KY (w:World):Calls Tryz.prog 59 #[.int .i64 12] w fun e w'=>e= .returned (.tuple #[.agg #[.int .i64 0, .int .i64 1, .string {data:= #[97,107,110]}], .bool true])∧Below w.heap.size w w':=by
 go_enter Tryz.func59,Tryz.ntmps59
 go_wp2
 refine bodyPost_ret (v:= .tuple #[.agg #[.int .i64 0, .int .i64 1, .string {data:= #[97,107,110]}], .bool true]) (by simp [results,Tryz.results59,go_sem]) rfl ⟨rfl, ?_⟩
 exact((Below.refl _ _).alloc (Nat.le_refl _) _).alloc (by simp) _
end Go.Proofs.YtcjcmnnhmajocabGreat.Ic
