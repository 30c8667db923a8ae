/- crossgrainref1.forms, find. -/
import Derived.Test.YtcjcmnnhmajocabGreatProg
import Derived.Lib.Hide
import Derived.Handy
import Derived.Deep.LoopGhost
set_option linter.unusedVariables false
set_option linter.unusedSimpArgs false
set_option maxRecDepth 100000
set_option maxHeartbeats 16000000
namespace Go.Proofs.YtcjcmnnhmajocabGreat.Gu
open Go.RowKit
structure Fm where
 first : Int
 n : Int
 inn : ByteArray
 beh : ByteArray
def Fm.cells (f : Fm) : List Value := [.int .i64 f.first, .int .i64 f.n, .string f.inn, .string f.beh]
def fms : List Fm := [⟨0, 1, { data := #[] }, { data := #[] }⟩, ⟨1, 1, { data := #[] }, { data := #[] }⟩, ⟨2, 1, { data := #[] }, { data := #[] }⟩, ⟨3, 1, { data := #[] }, { data := #[] }⟩, ⟨4, 1, { data := #[] }, { data := #[] }⟩, ⟨5, 1, { data := #[] }, { data := #[98] }⟩, ⟨6, 1, { data := #[] }, { data := #[115] }⟩, ⟨7, 1, { data := #[] }, { data := #[119] }⟩, ⟨8, 1, { data := #[] }, { data := #[119] }⟩, ⟨9, 1, { data := #[] }, { data := #[101] }⟩, ⟨10, 1, { data := #[] }, { data := #[101] }⟩, ⟨11, 1, { data := #[] }, { data := #[101, 115] }⟩, ⟨16, 16, { data := #[79] }, { data := #[115] }⟩, ⟨32, 16, { data := #[79] }, { data := #[119] }⟩, ⟨48, 8, { data := #[83] }, { data := #[] }⟩, ⟨56, 8, { data := #[68] }, { data := #[] }⟩, ⟨64, 8, { data := #[68] }, { data := #[119] }⟩, ⟨72, 8, { data := #[68] }, { data := #[] }⟩, ⟨80, 8, { data := #[68] }, { data := #[] }⟩, ⟨88, 8, { data := #[68] }, { data := #[] }⟩, ⟨96, 8, { data := #[68] }, { data := #[] }⟩, ⟨104, 1, { data := #[] }, { data := #[99] }⟩, ⟨105, 1, { data := #[] }, { data := #[112] }⟩, ⟨106, 1, { data := #[] }, { data := #[112, 115] }⟩, ⟨107, 1, { data := #[] }, { data := #[112, 115] }⟩, ⟨108, 1, { data := #[] }, { data := #[112, 115] }⟩, ⟨109, 1, { data := #[] }, { data := #[112, 115] }⟩, ⟨112, 16, { data := #[79] }, { data := #[112] }⟩, ⟨128, 16, { data := #[79] }, { data := #[100, 119] }⟩, ⟨144, 16, { data := #[79] }, { data := #[100, 115] }⟩, ⟨160, 5, { data := #[79] }, { data := #[112, 115] }⟩, ⟨165, 3, { data := #[79] }, { data := #[112, 115] }⟩]
def ftab : Array Value := #[.int .i64 0, .int .i64 1, .string { data := #[] }, .string { data := #[] }, .int .i64 1, .int .i64 1, .string { data := #[] }, .string { data := #[] }, .int .i64 2, .int .i64 1, .string { data := #[] }, .string { data := #[] }, .int .i64 3, .int .i64 1, .string { data := #[] }, .string { data := #[] }, .int .i64 4, .int .i64 1, .string { data := #[] }, .string { data := #[] }, .int .i64 5, .int .i64 1, .string { data := #[] }, .string { data := #[98] }, .int .i64 6, .int .i64 1, .string { data := #[] }, .string { data := #[115] }, .int .i64 7, .int .i64 1, .string { data := #[] }, .string { data := #[119] }, .int .i64 8, .int .i64 1, .string { data := #[] }, .string { data := #[119] }, .int .i64 9, .int .i64 1, .string { data := #[] }, .string { data := #[101] }, .int .i64 10, .int .i64 1, .string { data := #[] }, .string { data := #[101] }, .int .i64 11, .int .i64 1, .string { data := #[] }, .string { data := #[101, 115] }, .int .i64 16, .int .i64 16, .string { data := #[79] }, .string { data := #[115] }, .int .i64 32, .int .i64 16, .string { data := #[79] }, .string { data := #[119] }, .int .i64 48, .int .i64 8, .string { data := #[83] }, .string { data := #[] }, .int .i64 56, .int .i64 8, .string { data := #[68] }, .string { data := #[] }, .int .i64 64, .int .i64 8, .string { data := #[68] }, .string { data := #[119] }, .int .i64 72, .int .i64 8, .string { data := #[68] }, .string { data := #[] }, .int .i64 80, .int .i64 8, .string { data := #[68] }, .string { data := #[] }, .int .i64 88, .int .i64 8, .string { data := #[68] }, .string { data := #[] }, .int .i64 96, .int .i64 8, .string { data := #[68] }, .string { data := #[] }, .int .i64 104, .int .i64 1, .string { data := #[] }, .string { data := #[99] }, .int .i64 105, .int .i64 1, .string { data := #[] }, .string { data := #[112] }, .int .i64 106, .int .i64 1, .string { data := #[] }, .string { data := #[112, 115] }, .int .i64 107, .int .i64 1, .string { data := #[] }, .string { data := #[112, 115] }, .int .i64 108, .int .i64 1, .string { data := #[] }, .string { data := #[112, 115] }, .int .i64 109, .int .i64 1, .string { data := #[] }, .string { data := #[112, 115] }, .int .i64 112, .int .i64 16, .string { data := #[79] }, .string { data := #[112] }, .int .i64 128, .int .i64 16, .string { data := #[79] }, .string { data := #[100, 119] }, .int .i64 144, .int .i64 16, .string { data := #[79] }, .string { data := #[100, 115] }, .int .i64 160, .int .i64 5, .string { data := #[79] }, .string { data := #[112, 115] }, .int .i64 165, .int .i64 3, .string { data := #[79] }, .string { data := #[112, 115] }]
theorem ftab_eq : ftab.toList = fms.flatMap Fm.cells := by kernel_rfl
theorem forms_any (w : World) : Calls Tryz.prog 99 #[] w fun e w' => e = .returned (.slice (some ⟨w.heap.size, 0, none⟩) 32 32) ∧ w.alloc (.cells ftab 180) = w' := by
 unfold ftab
 go_enter Tryz.func99, Tryz.ntmps99
 go_wp2
 go_ret
 exact ⟨rfl, rfl⟩
end Go.Proofs.YtcjcmnnhmajocabGreat.Gu
