/-
  No cell of these rows narrows 'for every input' (looked for: loops, veiled, ifaces, maps, wideKeys, modest, calm, conditions, laid).
  DERIVED. THE GIVEN ROWS OF THIS SEAT. 4 by the template 'for every input the law returns true; each argument reads behind the call as it read before'; 0 by the template 'total and deterministic' (their statements: YtcjcmnnhmajocabGreatTotals.lean).
  GIVEN WITH THE SEED: the statements are not yours to turn. If you find one false, say at which input.
  Laid BY PROGRAM, IN A SANDBOX (cutbox-rows.mjs): the forced cells as the released guide's own fill.sh prints them over the translation 003b3ee865dfbede… (all of the seat's roots in one cut). By AI agents, Wed Nov 11 2026. No macro, syntax, notation, axiom, sorry.
-/
import Derived.Test.YtcjcmnnhmajocabGreatChecked
import GoSem.Claim
import GoSem.ClaimJoined
import GoSem.ClaimMapViews
import Derived.JoinedTies
import Derived.KernelRfl
namespace Go.Proofs.YtcjcmnnhmajocabGreat
/- THE CELL 'sum', in the pinned program and in every row, IS THE sha256 OF THE DUMP (.gsa) THAT YtcjcmnnhmajocabGreatProg.lean LOADS. Nothing in Lean hashes anything: it is a label: what it is worth is what the hold of that sum in a sandbox is worth. -/
noncomputable def Tryz.pinned : Pinned := { name := "ytcjcmnnhmajocabgreat", sum := "003b3ee865dfbede78a667a0e1047f3dc3c2dd708fd8f37176eb2a3bd12e4652", checked := Tryz.checked }
namespace Rows
def none {H : Type} : Left H := { results := [], args := [] }

/-- 'crossgraintop.SelfMade': WHATEVER THE INPUT: true; the input reads as it did. -/
def selfMadeSpec : ChangeSpec := { name := "selfMade", fn := fun _ => fun
  | [d1, d2, d3] => { results := [.lit (.bool true)], args := [d1, d2, d3] }
  | _ => none }
def selfMadeRow : OpenClaim := { program := "ytcjcmnnhmajocabgreat", sum := "003b3ee865dfbede78a667a0e1047f3dc3c2dd708fd8f37176eb2a3bd12e4652", func := "crossgrain/crossgraintop.SelfMade", spec := "selfMade", unfollowed := true, recurses := true, plainKeys := false, apart := false }
def SelfMadeSaid : Prop := selfMadeRow.holds Tryz.pinned (OpenSpec.ofChange selfMadeSpec)

/-- ITS FALSE NEIGHBOUR: 'it returns false'. Refute it at one input. -/
def selfMadeWrong : ChangeSpec := { name := "selfMade", fn := fun _ => fun
  | [d1, d2, d3] => { results := [.lit (.bool false)], args := [d1, d2, d3] }
  | _ => none }
def SelfMadeWrongFalsely : Prop := selfMadeRow.holds Tryz.pinned (OpenSpec.ofChange selfMadeWrong)

/-- 'crossgrainlaw2.LiftMeans': WHATEVER THE INPUT: true; the input reads as it did. -/
def liftMeansSpec : ChangeSpec := { name := "liftMeans", fn := fun _ => fun
  | [d1, d2, d3, d4, d5] => { results := [.lit (.bool true)], args := [d1, d2, d3, d4, d5] }
  | _ => none }
def liftMeansRow : OpenClaim := { program := "ytcjcmnnhmajocabgreat", sum := "003b3ee865dfbede78a667a0e1047f3dc3c2dd708fd8f37176eb2a3bd12e4652", func := "crossgrain/crossgrainlaw2.LiftMeans", spec := "liftMeans", unfollowed := true, recurses := true, plainKeys := false, apart := false }
def LiftMeansSaid : Prop := liftMeansRow.holds Tryz.pinned (OpenSpec.ofChange liftMeansSpec)

/-- ITS FALSE NEIGHBOUR: 'it returns false'. Refute it at one input. -/
def liftMeansWrong : ChangeSpec := { name := "liftMeans", fn := fun _ => fun
  | [d1, d2, d3, d4, d5] => { results := [.lit (.bool false)], args := [d1, d2, d3, d4, d5] }
  | _ => none }
def LiftMeansWrongFalsely : Prop := liftMeansRow.holds Tryz.pinned (OpenSpec.ofChange liftMeansWrong)

/-- 'crossgrainlaw2.LiftShapes': WHATEVER THE INPUT: true; the input reads as it did. -/
def liftShapesSpec : ChangeSpec := { name := "liftShapes", fn := fun _ => fun
  | [d1, d2, d3] => { results := [.lit (.bool true)], args := [d1, d2, d3] }
  | _ => none }
def liftShapesRow : OpenClaim := { program := "ytcjcmnnhmajocabgreat", sum := "003b3ee865dfbede78a667a0e1047f3dc3c2dd708fd8f37176eb2a3bd12e4652", func := "crossgrain/crossgrainlaw2.LiftShapes", spec := "liftShapes", unfollowed := true, recurses := true, plainKeys := false, apart := false }
def LiftShapesSaid : Prop := liftShapesRow.holds Tryz.pinned (OpenSpec.ofChange liftShapesSpec)

/-- ITS FALSE NEIGHBOUR: 'it returns false'. Refute it at one input. -/
def liftShapesWrong : ChangeSpec := { name := "liftShapes", fn := fun _ => fun
  | [d1, d2, d3] => { results := [.lit (.bool false)], args := [d1, d2, d3] }
  | _ => none }
def LiftShapesWrongFalsely : Prop := liftShapesRow.holds Tryz.pinned (OpenSpec.ofChange liftShapesWrong)

/-- 'crossgraintop.Recurs': WHATEVER THE INPUT: true; the input reads as it did. -/
def recursSpec : ChangeSpec := { name := "recurs", fn := fun _ => fun
  | [d1, d2, d3] => { results := [.lit (.bool true)], args := [d1, d2, d3] }
  | _ => none }
def recursRow : OpenClaim := { program := "ytcjcmnnhmajocabgreat", sum := "003b3ee865dfbede78a667a0e1047f3dc3c2dd708fd8f37176eb2a3bd12e4652", func := "crossgrain/crossgraintop.Recurs", spec := "recurs", unfollowed := true, recurses := true, plainKeys := false, apart := false }
def RecursSaid : Prop := recursRow.holds Tryz.pinned (OpenSpec.ofChange recursSpec)

/-- ITS FALSE NEIGHBOUR: 'it returns false'. Refute it at one input. -/
def recursWrong : ChangeSpec := { name := "recurs", fn := fun _ => fun
  | [d1, d2, d3] => { results := [.lit (.bool false)], args := [d1, d2, d3] }
  | _ => none }
def RecursWrongFalsely : Prop := recursRow.holds Tryz.pinned (OpenSpec.ofChange recursWrong)

/- THE SECOND FORM. 'bulk': how many values and letters a reading holds, each counted each time it is reached (what is shared counts as often as it is met; a slice's spare places count too). A statement '..UptoSaid' is the law's where the arguments, and the package variables that the reading takes, are together of bulk at most 1048576: NARROWER than '..Said'. Prove '..Said' where nothing that the law and all that it calls make is longer than what came in: it says more and counts as full. Else prove '..UptoSaid'. A law counts once. -/
mutual
def uptoBulk {H : Type} : DataW H → Nat
  | .lit (.string bytes) => bytes.length + 1
  | .lit _ => 1
  | .nil => 1
  | .ptr d => uptoBulk d + 1
  | .slice elems spare => uptoBulkAll elems + uptoBulkAll spare + 1
  | .agg parts => uptoBulkAll parts + 1
  | .iface _ d => uptoBulk d + 1
  | .map entries => uptoBulkEntries entries + 1
  | .held _ => 1
def uptoBulkAll {H : Type} : List (DataW H) → Nat
  | [] => 0
  | d :: r => uptoBulk d + uptoBulkAll r
def uptoBulkEntries {H : Type} : List (Lit × DataW H) → Nat
  | [] => 0
  | x :: r => uptoBulkEntry x + uptoBulkEntries r
def uptoBulkEntry {H : Type} : Lit × DataW H → Nat
  | (.string bytes, d) => bytes.length + uptoBulk d + 1
  | (_, d) => uptoBulk d + 1
 end
def uptoSmall : (H : Type) → List (DataW H) → Bool := fun _ ds => decide (uptoBulkAll ds ≤ 1048576)
def OpenSpec.upto (s : _root_.Go.ChangeSpec) : _root_.Go.OpenSpec := { _root_.Go.OpenSpec.ofChange s with cond := some uptoSmall }

/-- 'crossgraintop.SelfMade', WHERE WHAT IT READS IS OF BULK AT MOST 1048576: true; the input reads as it did. -/
def selfMadeUptoRow : OpenClaim := { program := "ytcjcmnnhmajocabgreat", sum := "003b3ee865dfbede78a667a0e1047f3dc3c2dd708fd8f37176eb2a3bd12e4652", func := "crossgrain/crossgraintop.SelfMade", spec := "selfMade", unfollowed := true, recurses := true, plainKeys := false, apart := false, narrowed := true }
def SelfMadeUptoSaid : Prop := selfMadeUptoRow.holds Tryz.pinned (OpenSpec.upto selfMadeSpec)

/-- 'crossgrainlaw2.LiftMeans', WHERE WHAT IT READS IS OF BULK AT MOST 1048576: true; the input reads as it did. -/
def liftMeansUptoRow : OpenClaim := { program := "ytcjcmnnhmajocabgreat", sum := "003b3ee865dfbede78a667a0e1047f3dc3c2dd708fd8f37176eb2a3bd12e4652", func := "crossgrain/crossgrainlaw2.LiftMeans", spec := "liftMeans", unfollowed := true, recurses := true, plainKeys := false, apart := false, narrowed := true }
def LiftMeansUptoSaid : Prop := liftMeansUptoRow.holds Tryz.pinned (OpenSpec.upto liftMeansSpec)

/-- 'crossgrainlaw2.LiftShapes', WHERE WHAT IT READS IS OF BULK AT MOST 1048576: true; the input reads as it did. -/
def liftShapesUptoRow : OpenClaim := { program := "ytcjcmnnhmajocabgreat", sum := "003b3ee865dfbede78a667a0e1047f3dc3c2dd708fd8f37176eb2a3bd12e4652", func := "crossgrain/crossgrainlaw2.LiftShapes", spec := "liftShapes", unfollowed := true, recurses := true, plainKeys := false, apart := false, narrowed := true }
def LiftShapesUptoSaid : Prop := liftShapesUptoRow.holds Tryz.pinned (OpenSpec.upto liftShapesSpec)

/-- 'crossgraintop.Recurs', WHERE WHAT IT READS IS OF BULK AT MOST 1048576: true; the input reads as it did. -/
def recursUptoRow : OpenClaim := { program := "ytcjcmnnhmajocabgreat", sum := "003b3ee865dfbede78a667a0e1047f3dc3c2dd708fd8f37176eb2a3bd12e4652", func := "crossgrain/crossgraintop.Recurs", spec := "recurs", unfollowed := true, recurses := true, plainKeys := false, apart := false, narrowed := true }
def RecursUptoSaid : Prop := recursUptoRow.holds Tryz.pinned (OpenSpec.upto recursSpec)

end Rows
end Go.Proofs.YtcjcmnnhmajocabGreat
