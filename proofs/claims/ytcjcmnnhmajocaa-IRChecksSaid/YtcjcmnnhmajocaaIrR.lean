/- ir.ruleOf: what a kind of operations has. -/
import Derived.Test.YtcjcmnnhmajocaaIrC
import Derived.Test.YtcjcmnnhmajocaaKit
import Derived.Lib.Hide
namespace Go.Proofs.Ytcjcmnnhmajocaa.Ic
open Go.RowKit Kt
set_option linter.unusedVariables false
set_option linter.unusedSimpArgs false
def rrow : Nat → Array Value
  | 0 => #[.int .i64 0, .bool false, .bool false, .bool false, .bool false, .bool false, .bool false, .bool false]
  | 1 => #[.int .i64 0, .bool false, .bool false, .bool false, .bool true, .bool false, .bool false, .bool false]
  | 2 => #[.int .i64 12, .bool false, .bool false, .bool false, .bool false, .bool false, .bool false, .bool false]
  | 3 => #[.int .i64 12, .bool true, .bool false, .bool false, .bool false, .bool false, .bool false, .bool false]
  | 4 => #[.int .i64 16, .bool true, .bool true, .bool false, .bool false, .bool false, .bool false, .bool false]
  | 5 => #[.int .i64 7, .bool true, .bool false, .bool false, .bool false, .bool false, .bool false, .bool false]
  | 6 => #[.int .i64 0, .bool true, .bool true, .bool true, .bool false, .bool false, .bool false, .bool false]
  | 7 => #[.int .i64 13, .bool true, .bool true, .bool true, .bool false, .bool false, .bool false, .bool false]
  | 8 => #[.int .i64 16, .bool true, .bool false, .bool false, .bool false, .bool false, .bool false, .bool false]
  | 9 => #[.int .i64 5, .bool true, .bool false, .bool false, .bool true, .bool true, .bool false, .bool false]
  | 10 => #[.int .i64 3, .bool true, .bool true, .bool false, .bool true, .bool true, .bool false, .bool false]
  | 11 => #[.int .i64 0, .bool false, .bool false, .bool false, .bool true, .bool true, .bool false, .bool false]
  | 12 => #[.int .i64 0, .bool true, .bool false, .bool false, .bool true, .bool true, .bool false, .bool false]
  | 13 => #[.int .i64 8, .bool true, .bool false, .bool false, .bool true, .bool true, .bool false, .bool false]
  | 14 => #[.int .i64 8, .bool false, .bool false, .bool false, .bool true, .bool true, .bool true, .bool true]
  | 15 => #[.int .i64 0, .bool false, .bool false, .bool false, .bool true, .bool true, .bool false, .bool true]
  | 16 => #[.int .i64 0, .bool true, .bool false, .bool false, .bool false, .bool true, .bool false, .bool true]
  | 17 => #[.int .i64 0, .bool false, .bool false, .bool false, .bool false, .bool false, .bool false, .bool false]
  | _ => #[.int .i64 0, .bool false, .bool false, .bool false, .bool false, .bool false, .bool false, .bool false]
def rtab : Array Value := #[.int .i64 0, .bool false, .bool false, .bool false, .bool false, .bool false, .bool false, .bool false, .int .i64 0, .bool false, .bool false, .bool false, .bool true, .bool false, .bool false, .bool false, .int .i64 12, .bool false, .bool false, .bool false, .bool false, .bool false, .bool false, .bool false, .int .i64 12, .bool true, .bool false, .bool false, .bool false, .bool false, .bool false, .bool false, .int .i64 16, .bool true, .bool true, .bool false, .bool false, .bool false, .bool false, .bool false, .int .i64 7, .bool true, .bool false, .bool false, .bool false, .bool false, .bool false, .bool false, .int .i64 0, .bool true, .bool true, .bool true, .bool false, .bool false, .bool false, .bool false, .int .i64 13, .bool true, .bool true, .bool true, .bool false, .bool false, .bool false, .bool false, .int .i64 16, .bool true, .bool false, .bool false, .bool false, .bool false, .bool false, .bool false, .int .i64 5, .bool true, .bool false, .bool false, .bool true, .bool true, .bool false, .bool false, .int .i64 3, .bool true, .bool true, .bool false, .bool true, .bool true, .bool false, .bool false, .int .i64 0, .bool false, .bool false, .bool false, .bool true, .bool true, .bool false, .bool false, .int .i64 0, .bool true, .bool false, .bool false, .bool true, .bool true, .bool false, .bool false, .int .i64 8, .bool true, .bool false, .bool false, .bool true, .bool true, .bool false, .bool false, .int .i64 8, .bool false, .bool false, .bool false, .bool true, .bool true, .bool true, .bool true, .int .i64 0, .bool false, .bool false, .bool false, .bool true, .bool true, .bool false, .bool true, .int .i64 0, .bool true, .bool false, .bool false, .bool false, .bool true, .bool false, .bool true, .int .i64 0, .bool false, .bool false, .bool false, .bool false, .bool false, .bool false, .bool false]
theorem rtab_size : rtab.size = 144 := by kernel_rfl
theorem rtab_one : rtab.all (·.oneCell') = true := by kernel_rfl
theorem info_rtab : (Try.prog.info? 172).map (fun i => (i.zero.map (·.cells.size), i.size)) = some (some 144, 144) := by kernel_rfl
end Go.Proofs.Ytcjcmnnhmajocaa.Ic
