import Derived.Test.YtcjcmnnhmajocabGreatPmaa
set_option linter.unusedVariables false
set_option linter.unusedSimpArgs false
set_option maxRecDepth 100000
set_option maxHeartbeats 16000000
namespace Go.Proofs.YtcjcmnnhmajocabGreat.Ic
open Go.RowKit
theorem KZ (w:World):Calls Tryz.prog 59 #[.int .i64 13] w fun e w'=>e= .returned (.tuple #[.agg #[.int .i64 1, .int .i64 7, .string {data:= #[97,107,110]}], .bool true])∧Below w.heap.size w w':=by
 go_enter Tryz.func59,Tryz.ntmps59
 go_wp2
 refine bodyPost_ret (v:= .tuple #[.agg #[.int .i64 1, .int .i64 7, .string {data:= #[97,107,110]}], .bool true]) (by simp [results,Tryz.results59,go_sem]) rfl ⟨rfl, ?_⟩
 exact((Below.refl _ _).alloc (Nat.le_refl _) _).alloc (by simp) _
theorem La (w:World):Calls Tryz.prog 59 #[.int .i64 14] w fun e w'=>e= .returned (.tuple #[.agg #[.int .i64 1, .int .i64 7, .string {data:= #[103,107,110]}], .bool true])∧Below w.heap.size w w':=by
 go_enter Tryz.func59,Tryz.ntmps59
 go_wp2
 refine bodyPost_ret (v:= .tuple #[.agg #[.int .i64 1, .int .i64 7, .string {data:= #[103,107,110]}], .bool true]) (by simp [results,Tryz.results59,go_sem]) rfl ⟨rfl, ?_⟩
 exact((Below.refl _ _).alloc (Nat.le_refl _) _).alloc (by simp) _
theorem Lc (w:World):Calls Tryz.prog 59 #[.int .i64 15] w fun e w'=>e= .returned (.tuple #[.agg #[.int .i64 0, .int .i64 1, .string {data:= #[107,110]}], .bool true])∧Below w.heap.size w w':=by
 go_enter Tryz.func59,Tryz.ntmps59
 go_wp2
 refine bodyPost_ret (v:= .tuple #[.agg #[.int .i64 0, .int .i64 1, .string {data:= #[107,110]}], .bool true]) (by simp [results,Tryz.results59,go_sem]) rfl ⟨rfl, ?_⟩
 exact((Below.refl _ _).alloc (Nat.le_refl _) _).alloc (by simp) _
theorem Ld (w:World):Calls Tryz.prog 59 #[.int .i64 16] w fun e w'=>e= .returned (.tuple #[.agg #[.int .i64 0, .int .i64 1, .string {data:= #[97,110]}], .bool true])∧Below w.heap.size w w':=by
 go_enter Tryz.func59,Tryz.ntmps59
 go_wp2
 refine bodyPost_ret (v:= .tuple #[.agg #[.int .i64 0, .int .i64 1, .string {data:= #[97,110]}], .bool true]) (by simp [results,Tryz.results59,go_sem]) rfl ⟨rfl, ?_⟩
 exact((Below.refl _ _).alloc (Nat.le_refl _) _).alloc (by simp) _
theorem Le (w:World):Calls Tryz.prog 59 #[.int .i64 17] w fun e w'=>e= .returned (.tuple #[.agg #[.int .i64 0, .int .i64 1, .string {data:= #[]}], .bool true])∧Below w.heap.size w w':=by
 go_enter Tryz.func59,Tryz.ntmps59
 go_wp2
 refine bodyPost_ret (v:= .tuple #[.agg #[.int .i64 0, .int .i64 1, .string {data:= #[]}], .bool true]) (by simp [results,Tryz.results59,go_sem]) rfl ⟨rfl, ?_⟩
 exact((Below.refl _ _).alloc (Nat.le_refl _) _).alloc (by simp) _
theorem Hz (k:Int) (h:k<1) (w:World):Calls Tryz.prog 59 #[.int .i64 k] w fun e w'=>e= .returned (.tuple #[.agg #[.int .i64 0, .int .i64 0, .string {data:= #[]}], .bool false])∧Below w.heap.size w w':=by
 go_enter Tryz.func59,Tryz.ntmps59
 go_wp2
 refine bodyPost_ret (v:= .tuple #[.agg #[.int .i64 0, .int .i64 0, .string {data:= #[]}], .bool false]) (by simp [results,Tryz.results59,go_sem]) rfl ⟨rfl, ?_⟩
 exact((Below.refl _ _).alloc (Nat.le_refl _) _).alloc (by simp) _
theorem DX (k:Int) (h:17<k) (w:World):Calls Tryz.prog 59 #[.int .i64 k] w fun e w'=>e= .returned (.tuple #[.agg #[.int .i64 0, .int .i64 0, .string {data:= #[]}], .bool false])∧Below w.heap.size w w':=by
 have h1:¬k<1:=by omega
 have h2:(18:Int)≤k:=by omega
 go_enter Tryz.func59,Tryz.ntmps59
 go_wp2
 refine bodyPost_ret (v:= .tuple #[.agg #[.int .i64 0, .int .i64 0, .string {data:= #[]}], .bool false]) (by simp [results,Tryz.results59,go_sem]) rfl ⟨rfl, ?_⟩
 exact((Below.refl _ _).alloc (Nat.le_refl _) _).alloc (by simp) _
end Go.Proofs.YtcjcmnnhmajocabGreat.Ic
