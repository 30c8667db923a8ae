import Derived.Test.YtcjcmnnhmajocabPmaa
set_option linter.unusedVariables false
set_option linter.unusedSimpArgs false
set_option maxRecDepth 100000
set_option maxHeartbeats 16000000
namespace Go.Proofs.Ytcjcmnnhmajocab.Ic
open Go.RowKit
theorem SA (w:World):Calls Try.prog 49 #[.int .i64 1] w fun e w'=>e= .returned (.tuple #[.agg #[.int .i64 0, .int .i64 1, .string {data:= #[107]}], .bool true])∧Below w.heap.size w w':=by
 go_enter Try.func49,Try.ntmps49
 go_wp2
 refine bodyPost_ret (v:= .tuple #[.agg #[.int .i64 0, .int .i64 1, .string {data:= #[107]}], .bool true]) (by simp [results,Try.results49,go_sem]) rfl ⟨rfl, ?_⟩
 exact((Below.refl _ _).alloc (Nat.le_refl _) _).alloc (by simp) _
theorem SB (w:World):Calls Try.prog 49 #[.int .i64 2] w fun e w'=>e= .returned (.tuple #[.agg #[.int .i64 0, .int .i64 12, .string {data:= #[]}], .bool true])∧Below w.heap.size w w':=by
 go_enter Try.func49,Try.ntmps49
 go_wp2
 refine bodyPost_ret (v:= .tuple #[.agg #[.int .i64 0, .int .i64 12, .string {data:= #[]}], .bool true]) (by simp [results,Try.results49,go_sem]) rfl ⟨rfl, ?_⟩
 exact((Below.refl _ _).alloc (Nat.le_refl _) _).alloc (by simp) _
theorem SC (w:World):Calls Try.prog 49 #[.int .i64 3] w fun e w'=>e= .returned (.tuple #[.agg #[.int .i64 0, .int .i64 12, .string {data:= #[97]}], .bool true])∧Below w.heap.size w w':=by
 go_enter Try.func49,Try.ntmps49
 go_wp2
 refine bodyPost_ret (v:= .tuple #[.agg #[.int .i64 0, .int .i64 12, .string {data:= #[97]}], .bool true]) (by simp [results,Try.results49,go_sem]) rfl ⟨rfl, ?_⟩
 exact((Below.refl _ _).alloc (Nat.le_refl _) _).alloc (by simp) _
theorem SH (w:World):Calls Try.prog 49 #[.int .i64 4] w fun e w'=>e= .returned (.tuple #[.agg #[.int .i64 0, .int .i64 16, .string {data:= #[97,98]}], .bool true])∧Below w.heap.size w w':=by
 go_enter Try.func49,Try.ntmps49
 go_wp2
 refine bodyPost_ret (v:= .tuple #[.agg #[.int .i64 0, .int .i64 16, .string {data:= #[97,98]}], .bool true]) (by simp [results,Try.results49,go_sem]) rfl ⟨rfl, ?_⟩
 exact((Below.refl _ _).alloc (Nat.le_refl _) _).alloc (by simp) _
theorem SI (w:World):Calls Try.prog 49 #[.int .i64 5] w fun e w'=>e= .returned (.tuple #[.agg #[.int .i64 0, .int .i64 7, .string {data:= #[97]}], .bool true])∧Below w.heap.size w w':=by
 go_enter Try.func49,Try.ntmps49
 go_wp2
 refine bodyPost_ret (v:= .tuple #[.agg #[.int .i64 0, .int .i64 7, .string {data:= #[97]}], .bool true]) (by simp [results,Try.results49,go_sem]) rfl ⟨rfl, ?_⟩
 exact((Below.refl _ _).alloc (Nat.le_refl _) _).alloc (by simp) _
theorem SK (w:World):Calls Try.prog 49 #[.int .i64 6] w fun e w'=>e= .returned (.tuple #[.agg #[.int .i64 0, .int .i64 1, .string {data:= #[97,98,99]}], .bool true])∧Below w.heap.size w w':=by
 go_enter Try.func49,Try.ntmps49
 go_wp2
 refine bodyPost_ret (v:= .tuple #[.agg #[.int .i64 0, .int .i64 1, .string {data:= #[97,98,99]}], .bool true]) (by simp [results,Try.results49,go_sem]) rfl ⟨rfl, ?_⟩
 exact((Below.refl _ _).alloc (Nat.le_refl _) _).alloc (by simp) _
theorem SN (w:World):Calls Try.prog 49 #[.int .i64 7] w fun e w'=>e= .returned (.tuple #[.agg #[.int .i64 0, .int .i64 13, .string {data:= #[97,98,99]}], .bool true])∧Below w.heap.size w w':=by
 go_enter Try.func49,Try.ntmps49
 go_wp2
 refine bodyPost_ret (v:= .tuple #[.agg #[.int .i64 0, .int .i64 13, .string {data:= #[97,98,99]}], .bool true]) (by simp [results,Try.results49,go_sem]) rfl ⟨rfl, ?_⟩
 exact((Below.refl _ _).alloc (Nat.le_refl _) _).alloc (by simp) _
theorem SQ (w:World):Calls Try.prog 49 #[.int .i64 8] w fun e w'=>e= .returned (.tuple #[.agg #[.int .i64 0, .int .i64 16, .string {data:= #[97]}], .bool true])∧Below w.heap.size w w':=by
 go_enter Try.func49,Try.ntmps49
 go_wp2
 refine bodyPost_ret (v:= .tuple #[.agg #[.int .i64 0, .int .i64 16, .string {data:= #[97]}], .bool true]) (by simp [results,Try.results49,go_sem]) rfl ⟨rfl, ?_⟩
 exact((Below.refl _ _).alloc (Nat.le_refl _) _).alloc (by simp) _
theorem SS (w:World):Calls Try.prog 49 #[.int .i64 9] w fun e w'=>e= .returned (.tuple #[.agg #[.int .i64 0, .int .i64 5, .string {data:= #[97,107,110]}], .bool true])∧Below w.heap.size w w':=by
 go_enter Try.func49,Try.ntmps49
 go_wp2
 refine bodyPost_ret (v:= .tuple #[.agg #[.int .i64 0, .int .i64 5, .string {data:= #[97,107,110]}], .bool true]) (by simp [results,Try.results49,go_sem]) rfl ⟨rfl, ?_⟩
 exact((Below.refl _ _).alloc (Nat.le_refl _) _).alloc (by simp) _
theorem NM (w:World):Calls Try.prog 49 #[.int .i64 10] w fun e w'=>e= .returned (.tuple #[.agg #[.int .i64 0, .int .i64 3, .string {data:= #[97,98,107,110]}], .bool true])∧Below w.heap.size w w':=by
 go_enter Try.func49,Try.ntmps49
 go_wp2
 refine bodyPost_ret (v:= .tuple #[.agg #[.int .i64 0, .int .i64 3, .string {data:= #[97,98,107,110]}], .bool true]) (by simp [results,Try.results49,go_sem]) rfl ⟨rfl, ?_⟩
 exact((Below.refl _ _).alloc (Nat.le_refl _) _).alloc (by simp) _
theorem NQ (w:World):Calls Try.prog 49 #[.int .i64 11] w fun e w'=>e= .returned (.tuple #[.agg #[.int .i64 0, .int .i64 1, .string {data:= #[107,110]}], .bool true])∧Below w.heap.size w w':=by
 go_enter Try.func49,Try.ntmps49
 go_wp2
 refine bodyPost_ret (v:= .tuple #[.agg #[.int .i64 0, .int .i64 1, .string {data:= #[107,110]}], .bool true]) (by simp [results,Try.results49,go_sem]) rfl ⟨rfl, ?_⟩
 exact((Below.refl _ _).alloc (Nat.le_refl _) _).alloc (by simp) _
theorem NR (w:World):Calls Try.prog 49 #[.int .i64 12] w fun e w'=>e= .returned (.tuple #[.agg #[.int .i64 0, .int .i64 1, .string {data:= #[97,107,110]}], .bool true])∧Below w.heap.size w w':=by
 go_enter Try.func49,Try.ntmps49
 go_wp2
 refine bodyPost_ret (v:= .tuple #[.agg #[.int .i64 0, .int .i64 1, .string {data:= #[97,107,110]}], .bool true]) (by simp [results,Try.results49,go_sem]) rfl ⟨rfl, ?_⟩
 exact((Below.refl _ _).alloc (Nat.le_refl _) _).alloc (by simp) _
theorem NU (w:World):Calls Try.prog 49 #[.int .i64 13] w fun e w'=>e= .returned (.tuple #[.agg #[.int .i64 1, .int .i64 7, .string {data:= #[97,107,110]}], .bool true])∧Below w.heap.size w w':=by
 go_enter Try.func49,Try.ntmps49
 go_wp2
 refine bodyPost_ret (v:= .tuple #[.agg #[.int .i64 1, .int .i64 7, .string {data:= #[97,107,110]}], .bool true]) (by simp [results,Try.results49,go_sem]) rfl ⟨rfl, ?_⟩
 exact((Below.refl _ _).alloc (Nat.le_refl _) _).alloc (by simp) _
theorem NV (w:World):Calls Try.prog 49 #[.int .i64 14] w fun e w'=>e= .returned (.tuple #[.agg #[.int .i64 1, .int .i64 7, .string {data:= #[103,107,110]}], .bool true])∧Below w.heap.size w w':=by
 go_enter Try.func49,Try.ntmps49
 go_wp2
 refine bodyPost_ret (v:= .tuple #[.agg #[.int .i64 1, .int .i64 7, .string {data:= #[103,107,110]}], .bool true]) (by simp [results,Try.results49,go_sem]) rfl ⟨rfl, ?_⟩
 exact((Below.refl _ _).alloc (Nat.le_refl _) _).alloc (by simp) _
theorem NY (w:World):Calls Try.prog 49 #[.int .i64 15] w fun e w'=>e= .returned (.tuple #[.agg #[.int .i64 0, .int .i64 1, .string {data:= #[107,110]}], .bool true])∧Below w.heap.size w w':=by
 go_enter Try.func49,Try.ntmps49
 go_wp2
 refine bodyPost_ret (v:= .tuple #[.agg #[.int .i64 0, .int .i64 1, .string {data:= #[107,110]}], .bool true]) (by simp [results,Try.results49,go_sem]) rfl ⟨rfl, ?_⟩
 exact((Below.refl _ _).alloc (Nat.le_refl _) _).alloc (by simp) _
theorem NZ (w:World):Calls Try.prog 49 #[.int .i64 16] w fun e w'=>e= .returned (.tuple #[.agg #[.int .i64 0, .int .i64 1, .string {data:= #[97,110]}], .bool true])∧Below w.heap.size w w':=by
 go_enter Try.func49,Try.ntmps49
 go_wp2
 refine bodyPost_ret (v:= .tuple #[.agg #[.int .i64 0, .int .i64 1, .string {data:= #[97,110]}], .bool true]) (by simp [results,Try.results49,go_sem]) rfl ⟨rfl, ?_⟩
 exact((Below.refl _ _).alloc (Nat.le_refl _) _).alloc (by simp) _
theorem N7 (w:World):Calls Try.prog 49 #[.int .i64 17] w fun e w'=>e= .returned (.tuple #[.agg #[.int .i64 0, .int .i64 1, .string {data:= #[]}], .bool true])∧Below w.heap.size w w':=by
 go_enter Try.func49,Try.ntmps49
 go_wp2
 refine bodyPost_ret (v:= .tuple #[.agg #[.int .i64 0, .int .i64 1, .string {data:= #[]}], .bool true]) (by simp [results,Try.results49,go_sem]) rfl ⟨rfl, ?_⟩
 exact((Below.refl _ _).alloc (Nat.le_refl _) _).alloc (by simp) _
theorem IW (k:Int) (h:k<1) (w:World):Calls Try.prog 49 #[.int .i64 k] w fun e w'=>e= .returned (.tuple #[.agg #[.int .i64 0, .int .i64 0, .string {data:= #[]}], .bool false])∧Below w.heap.size w w':=by
 go_enter Try.func49,Try.ntmps49
 go_wp2
 refine bodyPost_ret (v:= .tuple #[.agg #[.int .i64 0, .int .i64 0, .string {data:= #[]}], .bool false]) (by simp [results,Try.results49,go_sem]) rfl ⟨rfl, ?_⟩
 exact((Below.refl _ _).alloc (Nat.le_refl _) _).alloc (by simp) _
theorem Et (k:Int) (h:17<k) (w:World):Calls Try.prog 49 #[.int .i64 k] w fun e w'=>e= .returned (.tuple #[.agg #[.int .i64 0, .int .i64 0, .string {data:= #[]}], .bool false])∧Below w.heap.size w w':=by
 have h1:¬k<1:=by omega
 have h2:(18:Int)≤k:=by omega
 go_enter Try.func49,Try.ntmps49
 go_wp2
 refine bodyPost_ret (v:= .tuple #[.agg #[.int .i64 0, .int .i64 0, .string {data:= #[]}], .bool false]) (by simp [results,Try.results49,go_sem]) rfl ⟨rfl, ?_⟩
 exact((Below.refl _ _).alloc (Nat.le_refl _) _).alloc (by simp) _
end Go.Proofs.Ytcjcmnnhmajocab.Ic
