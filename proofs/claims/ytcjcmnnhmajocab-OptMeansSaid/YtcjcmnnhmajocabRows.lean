/-
  No cell of these rows narrows 'for every input' (looked for: loops, veiled, ifaces, maps, wideKeys, modest, calm, conditions, laid).
  DERIVED. THE GIVEN ROWS OF THIS SEAT. 8 by the template 'for every input the law returns true; each argument reads behind the call as it read before'; 0 by the template 'total and deterministic' (their statements: YtcjcmnnhmajocabTotals.lean).
  GIVEN WITH THE SEED: the statements are not yours to turn. If you find one false, say at which input.
  Laid BY PROGRAM, IN A SANDBOX (cutbox-rows.mjs): the forced cells as the released guide's own fill.sh prints them over the translation 3559128334fad2b0… (all of the seat's roots in one cut). By AI agents, Wed Nov 11 2026. No macro, syntax, notation, axiom, sorry.
-/
import Derived.Test.YtcjcmnnhmajocabChecked
import GoSem.Claim
import GoSem.ClaimJoined
import GoSem.ClaimMapViews
import Derived.JoinedTies
import Derived.KernelRfl
namespace Go.Proofs.Ytcjcmnnhmajocab
/- THE CELL 'sum', in the pinned program and in every row, IS THE sha256 OF THE DUMP (.gsa) THAT YtcjcmnnhmajocabProg.lean LOADS. Nothing in Lean hashes anything: it is a label: what it is worth is what the hold of that sum in a sandbox is worth. -/
noncomputable def Try.pinned : Pinned := { name := "ytcjcmnnhmajocab", sum := "3559128334fad2b0ab666ded9bc1aeddfd3444ede74469bb5bbf7a0e485f21bc", checked := Try.checked }
namespace Rows
def none {H : Type} : Left H := { results := [], args := [] }

/-- 'crossgrainlaw3.GenShapes': WHATEVER THE INPUT: true; the input reads as it did. -/
def genShapesSpec : ChangeSpec := { name := "genShapes", fn := fun _ => fun
  | [d1, d2] => { results := [.lit (.bool true)], args := [d1, d2] }
  | _ => none }
def genShapesRow : OpenClaim := { program := "ytcjcmnnhmajocab", sum := "3559128334fad2b0ab666ded9bc1aeddfd3444ede74469bb5bbf7a0e485f21bc", func := "crossgrain/crossgrainlaw3.GenShapes", spec := "genShapes", unfollowed := true, recurses := true, plainKeys := false, apart := false }
def GenShapesSaid : Prop := genShapesRow.holds Try.pinned (OpenSpec.ofChange genShapesSpec)

/-- ITS FALSE NEIGHBOUR: 'it returns false'. Refute it at one input. -/
def genShapesWrong : ChangeSpec := { name := "genShapes", fn := fun _ => fun
  | [d1, d2] => { results := [.lit (.bool false)], args := [d1, d2] }
  | _ => none }
def GenShapesWrongFalsely : Prop := genShapesRow.holds Try.pinned (OpenSpec.ofChange genShapesWrong)

/-- 'crossgrainlaw3.GenMeans': WHATEVER THE INPUT: true; the input reads as it did. -/
def genMeansSpec : ChangeSpec := { name := "genMeans", fn := fun _ => fun
  | [d1, d2, d3, d4, d5] => { results := [.lit (.bool true)], args := [d1, d2, d3, d4, d5] }
  | _ => none }
def genMeansRow : OpenClaim := { program := "ytcjcmnnhmajocab", sum := "3559128334fad2b0ab666ded9bc1aeddfd3444ede74469bb5bbf7a0e485f21bc", func := "crossgrain/crossgrainlaw3.GenMeans", spec := "genMeans", unfollowed := true, recurses := true, plainKeys := false, apart := false }
def GenMeansSaid : Prop := genMeansRow.holds Try.pinned (OpenSpec.ofChange genMeansSpec)

/-- ITS FALSE NEIGHBOUR: 'it returns false'. Refute it at one input. -/
def genMeansWrong : ChangeSpec := { name := "genMeans", fn := fun _ => fun
  | [d1, d2, d3, d4, d5] => { results := [.lit (.bool false)], args := [d1, d2, d3, d4, d5] }
  | _ => none }
def GenMeansWrongFalsely : Prop := genMeansRow.holds Try.pinned (OpenSpec.ofChange genMeansWrong)

/-- 'crossgrainlaw2.IREvals': WHATEVER THE INPUT: true; the input reads as it did. -/
def iREvalsSpec : ChangeSpec := { name := "iREvals", fn := fun _ => fun
  | [d1, d2, d3, d4] => { results := [.lit (.bool true)], args := [d1, d2, d3, d4] }
  | _ => none }
def iREvalsRow : OpenClaim := { program := "ytcjcmnnhmajocab", sum := "3559128334fad2b0ab666ded9bc1aeddfd3444ede74469bb5bbf7a0e485f21bc", func := "crossgrain/crossgrainlaw2.IREvals", spec := "iREvals", plainKeys := false, apart := false }
def IREvalsSaid : Prop := iREvalsRow.holds Try.pinned (OpenSpec.ofChange iREvalsSpec)

/-- ITS FALSE NEIGHBOUR: 'it returns false'. Refute it at one input. -/
def iREvalsWrong : ChangeSpec := { name := "iREvals", fn := fun _ => fun
  | [d1, d2, d3, d4] => { results := [.lit (.bool false)], args := [d1, d2, d3, d4] }
  | _ => none }
def IREvalsWrongFalsely : Prop := iREvalsRow.holds Try.pinned (OpenSpec.ofChange iREvalsWrong)

/-- 'crossgrainlaw2.OptClean': WHATEVER THE INPUT: true; the input reads as it did. -/
def optCleanSpec : ChangeSpec := { name := "optClean", fn := fun _ => fun
  | [d] => { results := [.lit (.bool true)], args := [d] }
  | _ => none }
def optCleanRow : OpenClaim := { program := "ytcjcmnnhmajocab", sum := "3559128334fad2b0ab666ded9bc1aeddfd3444ede74469bb5bbf7a0e485f21bc", func := "crossgrain/crossgrainlaw2.OptClean", spec := "optClean", unfollowed := true, recurses := true, plainKeys := false, apart := false }
def OptCleanSaid : Prop := optCleanRow.holds Try.pinned (OpenSpec.ofChange optCleanSpec)

/-- ITS FALSE NEIGHBOUR: 'it returns false'. Refute it at one input. -/
def optCleanWrong : ChangeSpec := { name := "optClean", fn := fun _ => fun
  | [d] => { results := [.lit (.bool false)], args := [d] }
  | _ => none }
def OptCleanWrongFalsely : Prop := optCleanRow.holds Try.pinned (OpenSpec.ofChange optCleanWrong)

/-- 'crossgrainlaw1.StepPrecise': WHATEVER THE INPUT: true; the input reads as it did. -/
def stepPreciseSpec : ChangeSpec := { name := "stepPrecise", fn := fun _ => fun
  | [d1, d2] => { results := [.lit (.bool true)], args := [d1, d2] }
  | _ => none }
def stepPreciseRow : OpenClaim := { program := "ytcjcmnnhmajocab", sum := "3559128334fad2b0ab666ded9bc1aeddfd3444ede74469bb5bbf7a0e485f21bc", func := "crossgrain/crossgrainlaw1.StepPrecise", spec := "stepPrecise", unfollowed := true, recurses := true, plainKeys := false, apart := false }
def StepPreciseSaid : Prop := stepPreciseRow.holds Try.pinned (OpenSpec.ofChange stepPreciseSpec)

/-- ITS FALSE NEIGHBOUR: 'it returns false'. Refute it at one input. -/
def stepPreciseWrong : ChangeSpec := { name := "stepPrecise", fn := fun _ => fun
  | [d1, d2] => { results := [.lit (.bool false)], args := [d1, d2] }
  | _ => none }
def StepPreciseWrongFalsely : Prop := stepPreciseRow.holds Try.pinned (OpenSpec.ofChange stepPreciseWrong)

/-- 'crossgrainlaw1.StepMeans': WHATEVER THE INPUT: true; the input reads as it did. -/
def stepMeansSpec : ChangeSpec := { name := "stepMeans", fn := fun _ => fun
  | [d1, d2, d3] => { results := [.lit (.bool true)], args := [d1, d2, d3] }
  | _ => none }
def stepMeansRow : OpenClaim := { program := "ytcjcmnnhmajocab", sum := "3559128334fad2b0ab666ded9bc1aeddfd3444ede74469bb5bbf7a0e485f21bc", func := "crossgrain/crossgrainlaw1.StepMeans", spec := "stepMeans", unfollowed := true, recurses := true, plainKeys := false, apart := false }
def StepMeansSaid : Prop := stepMeansRow.holds Try.pinned (OpenSpec.ofChange stepMeansSpec)

/-- ITS FALSE NEIGHBOUR: 'it returns false'. Refute it at one input. -/
def stepMeansWrong : ChangeSpec := { name := "stepMeans", fn := fun _ => fun
  | [d1, d2, d3] => { results := [.lit (.bool false)], args := [d1, d2, d3] }
  | _ => none }
def StepMeansWrongFalsely : Prop := stepMeansRow.holds Try.pinned (OpenSpec.ofChange stepMeansWrong)

/-- 'crossgrainlaw3.HostRuns': WHATEVER THE INPUT: true; the input reads as it did. -/
def hostRunsSpec : ChangeSpec := { name := "hostRuns", fn := fun _ => fun
  | [d1, d2, d3, d4, d5, d6, d7] => { results := [.lit (.bool true)], args := [d1, d2, d3, d4, d5, d6, d7] }
  | _ => none }
def hostRunsRow : OpenClaim := { program := "ytcjcmnnhmajocab", sum := "3559128334fad2b0ab666ded9bc1aeddfd3444ede74469bb5bbf7a0e485f21bc", func := "crossgrain/crossgrainlaw3.HostRuns", spec := "hostRuns", unfollowed := true, recurses := true, plainKeys := false, apart := false }
def HostRunsSaid : Prop := hostRunsRow.holds Try.pinned (OpenSpec.ofChange hostRunsSpec)

/-- ITS FALSE NEIGHBOUR: 'it returns false'. Refute it at one input. -/
def hostRunsWrong : ChangeSpec := { name := "hostRuns", fn := fun _ => fun
  | [d1, d2, d3, d4, d5, d6, d7] => { results := [.lit (.bool false)], args := [d1, d2, d3, d4, d5, d6, d7] }
  | _ => none }
def HostRunsWrongFalsely : Prop := hostRunsRow.holds Try.pinned (OpenSpec.ofChange hostRunsWrong)

/-- 'crossgrainlaw2.OptMeans': WHATEVER THE INPUT: true; the input reads as it did. -/
def optMeansSpec : ChangeSpec := { name := "optMeans", fn := fun _ => fun
  | [d1, d2, d3, d4] => { results := [.lit (.bool true)], args := [d1, d2, d3, d4] }
  | _ => none }
def optMeansRow : OpenClaim := { program := "ytcjcmnnhmajocab", sum := "3559128334fad2b0ab666ded9bc1aeddfd3444ede74469bb5bbf7a0e485f21bc", func := "crossgrain/crossgrainlaw2.OptMeans", spec := "optMeans", unfollowed := true, recurses := true, plainKeys := false, apart := false }
def OptMeansSaid : Prop := optMeansRow.holds Try.pinned (OpenSpec.ofChange optMeansSpec)

/-- ITS FALSE NEIGHBOUR: 'it returns false'. Refute it at one input. -/
def optMeansWrong : ChangeSpec := { name := "optMeans", fn := fun _ => fun
  | [d1, d2, d3, d4] => { results := [.lit (.bool false)], args := [d1, d2, d3, d4] }
  | _ => none }
def OptMeansWrongFalsely : Prop := optMeansRow.holds Try.pinned (OpenSpec.ofChange optMeansWrong)

/- THE SECOND FORM. 'bulk': how many values and letters a reading holds, each counted each time it is reached (what is shared counts as often as it is met; a slice's spare places count too). A statement '..UptoSaid' is the law's where the arguments, and the package variables that the reading takes, are together of bulk at most 1048576: NARROWER than '..Said'. Prove '..Said' where nothing that the law and all that it calls make is longer than what came in: it says more and counts as full. Else prove '..UptoSaid'. A law counts once. -/
mutual
def uptoBulk {H : Type} : DataW H → Nat
  | .lit (.string bytes) => bytes.length + 1
  | .lit _ => 1
  | .nil => 1
  | .ptr d => uptoBulk d + 1
  | .slice elems spare => uptoBulkAll elems + uptoBulkAll spare + 1
  | .agg parts => uptoBulkAll parts + 1
  | .iface _ d => uptoBulk d + 1
  | .map entries => uptoBulkEntries entries + 1
  | .held _ => 1
def uptoBulkAll {H : Type} : List (DataW H) → Nat
  | [] => 0
  | d :: r => uptoBulk d + uptoBulkAll r
def uptoBulkEntries {H : Type} : List (Lit × DataW H) → Nat
  | [] => 0
  | x :: r => uptoBulkEntry x + uptoBulkEntries r
def uptoBulkEntry {H : Type} : Lit × DataW H → Nat
  | (.string bytes, d) => bytes.length + uptoBulk d + 1
  | (_, d) => uptoBulk d + 1
 end
def uptoSmall : (H : Type) → List (DataW H) → Bool := fun _ ds => decide (uptoBulkAll ds ≤ 1048576)
def OpenSpec.upto (s : _root_.Go.ChangeSpec) : _root_.Go.OpenSpec := { _root_.Go.OpenSpec.ofChange s with cond := some uptoSmall }

/-- 'crossgrainlaw3.GenShapes', WHERE WHAT IT READS IS OF BULK AT MOST 1048576: true; the input reads as it did. -/
def genShapesUptoRow : OpenClaim := { program := "ytcjcmnnhmajocab", sum := "3559128334fad2b0ab666ded9bc1aeddfd3444ede74469bb5bbf7a0e485f21bc", func := "crossgrain/crossgrainlaw3.GenShapes", spec := "genShapes", unfollowed := true, recurses := true, plainKeys := false, apart := false, narrowed := true }
def GenShapesUptoSaid : Prop := genShapesUptoRow.holds Try.pinned (OpenSpec.upto genShapesSpec)

/-- 'crossgrainlaw3.GenMeans', WHERE WHAT IT READS IS OF BULK AT MOST 1048576: true; the input reads as it did. -/
def genMeansUptoRow : OpenClaim := { program := "ytcjcmnnhmajocab", sum := "3559128334fad2b0ab666ded9bc1aeddfd3444ede74469bb5bbf7a0e485f21bc", func := "crossgrain/crossgrainlaw3.GenMeans", spec := "genMeans", unfollowed := true, recurses := true, plainKeys := false, apart := false, narrowed := true }
def GenMeansUptoSaid : Prop := genMeansUptoRow.holds Try.pinned (OpenSpec.upto genMeansSpec)

/-- 'crossgrainlaw2.IREvals', WHERE WHAT IT READS IS OF BULK AT MOST 1048576: true; the input reads as it did. -/
def iREvalsUptoRow : OpenClaim := { program := "ytcjcmnnhmajocab", sum := "3559128334fad2b0ab666ded9bc1aeddfd3444ede74469bb5bbf7a0e485f21bc", func := "crossgrain/crossgrainlaw2.IREvals", spec := "iREvals", plainKeys := false, apart := false, narrowed := true }
def IREvalsUptoSaid : Prop := iREvalsUptoRow.holds Try.pinned (OpenSpec.upto iREvalsSpec)

/-- 'crossgrainlaw2.OptClean', WHERE WHAT IT READS IS OF BULK AT MOST 1048576: true; the input reads as it did. -/
def optCleanUptoRow : OpenClaim := { program := "ytcjcmnnhmajocab", sum := "3559128334fad2b0ab666ded9bc1aeddfd3444ede74469bb5bbf7a0e485f21bc", func := "crossgrain/crossgrainlaw2.OptClean", spec := "optClean", unfollowed := true, recurses := true, plainKeys := false, apart := false, narrowed := true }
def OptCleanUptoSaid : Prop := optCleanUptoRow.holds Try.pinned (OpenSpec.upto optCleanSpec)

/-- 'crossgrainlaw1.StepPrecise', WHERE WHAT IT READS IS OF BULK AT MOST 1048576: true; the input reads as it did. -/
def stepPreciseUptoRow : OpenClaim := { program := "ytcjcmnnhmajocab", sum := "3559128334fad2b0ab666ded9bc1aeddfd3444ede74469bb5bbf7a0e485f21bc", func := "crossgrain/crossgrainlaw1.StepPrecise", spec := "stepPrecise", unfollowed := true, recurses := true, plainKeys := false, apart := false, narrowed := true }
def StepPreciseUptoSaid : Prop := stepPreciseUptoRow.holds Try.pinned (OpenSpec.upto stepPreciseSpec)

/-- 'crossgrainlaw1.StepMeans', WHERE WHAT IT READS IS OF BULK AT MOST 1048576: true; the input reads as it did. -/
def stepMeansUptoRow : OpenClaim := { program := "ytcjcmnnhmajocab", sum := "3559128334fad2b0ab666ded9bc1aeddfd3444ede74469bb5bbf7a0e485f21bc", func := "crossgrain/crossgrainlaw1.StepMeans", spec := "stepMeans", unfollowed := true, recurses := true, plainKeys := false, apart := false, narrowed := true }
def StepMeansUptoSaid : Prop := stepMeansUptoRow.holds Try.pinned (OpenSpec.upto stepMeansSpec)

/-- 'crossgrainlaw3.HostRuns', WHERE WHAT IT READS IS OF BULK AT MOST 1048576: true; the input reads as it did. -/
def hostRunsUptoRow : OpenClaim := { program := "ytcjcmnnhmajocab", sum := "3559128334fad2b0ab666ded9bc1aeddfd3444ede74469bb5bbf7a0e485f21bc", func := "crossgrain/crossgrainlaw3.HostRuns", spec := "hostRuns", unfollowed := true, recurses := true, plainKeys := false, apart := false, narrowed := true }
def HostRunsUptoSaid : Prop := hostRunsUptoRow.holds Try.pinned (OpenSpec.upto hostRunsSpec)

/-- 'crossgrainlaw2.OptMeans', WHERE WHAT IT READS IS OF BULK AT MOST 1048576: true; the input reads as it did. -/
def optMeansUptoRow : OpenClaim := { program := "ytcjcmnnhmajocab", sum := "3559128334fad2b0ab666ded9bc1aeddfd3444ede74469bb5bbf7a0e485f21bc", func := "crossgrain/crossgrainlaw2.OptMeans", spec := "optMeans", unfollowed := true, recurses := true, plainKeys := false, apart := false, narrowed := true }
def OptMeansUptoSaid : Prop := optMeansUptoRow.holds Try.pinned (OpenSpec.upto optMeansSpec)

end Rows
end Go.Proofs.Ytcjcmnnhmajocab
