/-
  No cell of these rows narrows 'for every input' (looked for: loops, veiled, ifaces, maps, wideKeys, modest, calm, conditions, laid).
  DERIVED. THE GIVEN ROWS OF THIS SEAT. 11 by the template 'for every input the law returns true; each argument reads behind the call as it read before'; 0 by the template 'total and deterministic' (their statements: YtcjcmnnhmajocaaTotals.lean).
  GIVEN WITH THE SEED: the statements are not yours to turn. If you find one false, say at which input.
  Laid BY PROGRAM, IN A SANDBOX (cutbox-rows.mjs): the forced cells as the released guide's own fill.sh prints them over the translation 006ad7899b49ab24… (all of the seat's roots in one cut). By AI agents, Wed Nov 11 2026. No macro, syntax, notation, axiom, sorry.
-/
import Derived.Test.YtcjcmnnhmajocaaChecked
import GoSem.Claim
import GoSem.ClaimJoined
import GoSem.ClaimMapViews
import Derived.JoinedTies
import Derived.KernelRfl
namespace Go.Proofs.Ytcjcmnnhmajocaa
/- THE CELL 'sum', in the pinned program and in every row, IS THE sha256 OF THE DUMP (.gsa) THAT YtcjcmnnhmajocaaProg.lean LOADS. Nothing in Lean hashes anything: it is a label: what it is worth is what the hold of that sum in a sandbox is worth. -/
noncomputable def Try.pinned : Pinned := { name := "ytcjcmnnhmajocaa", sum := "006ad7899b49ab24af327436d7c37114b98534ff293df6e0b81580317f2688bb", checked := Try.checked }
namespace Rows
def none {H : Type} : Left H := { results := [], args := [] }

/-- 'crossgrainlaw1.Names': WHATEVER THE INPUT: true; the input reads as it did. -/
def namesSpec : ChangeSpec := { name := "names", fn := fun _ => fun
  | [] => { results := [.lit (.bool true)], args := [] }
  | _ => none }
def namesRow : OpenClaim := { program := "ytcjcmnnhmajocaa", sum := "006ad7899b49ab24af327436d7c37114b98534ff293df6e0b81580317f2688bb", func := "crossgrain/crossgrainlaw1.Names", spec := "names", apart := false }
def NamesSaid : Prop := namesRow.holds Try.pinned (OpenSpec.ofChange namesSpec)

/-- ITS FALSE NEIGHBOUR: 'it returns false'. Refute it at one input. -/
def namesWrong : ChangeSpec := { name := "names", fn := fun _ => fun
  | [] => { results := [.lit (.bool false)], args := [] }
  | _ => none }
def NamesWrongFalsely : Prop := namesRow.holds Try.pinned (OpenSpec.ofChange namesWrong)

/-- 'crossgrainlaw2.IRChecks': WHATEVER THE INPUT: true; the input reads as it did. -/
def iRChecksSpec : ChangeSpec := { name := "iRChecks", fn := fun _ => fun
  | [d1, d2] => { results := [.lit (.bool true)], args := [d1, d2] }
  | _ => none }
def iRChecksRow : OpenClaim := { program := "ytcjcmnnhmajocaa", sum := "006ad7899b49ab24af327436d7c37114b98534ff293df6e0b81580317f2688bb", func := "crossgrain/crossgrainlaw2.IRChecks", spec := "iRChecks", apart := false }
def IRChecksSaid : Prop := iRChecksRow.holds Try.pinned (OpenSpec.ofChange iRChecksSpec)

/-- ITS FALSE NEIGHBOUR: 'it returns false'. Refute it at one input. -/
def iRChecksWrong : ChangeSpec := { name := "iRChecks", fn := fun _ => fun
  | [d1, d2] => { results := [.lit (.bool false)], args := [d1, d2] }
  | _ => none }
def IRChecksWrongFalsely : Prop := iRChecksRow.holds Try.pinned (OpenSpec.ofChange iRChecksWrong)

/-- 'crossgrainlaw2.IRStates': WHATEVER THE INPUT: true; the input reads as it did. -/
def iRStatesSpec : ChangeSpec := { name := "iRStates", fn := fun _ => fun
  | [d1, d2, d3] => { results := [.lit (.bool true)], args := [d1, d2, d3] }
  | _ => none }
def iRStatesRow : OpenClaim := { program := "ytcjcmnnhmajocaa", sum := "006ad7899b49ab24af327436d7c37114b98534ff293df6e0b81580317f2688bb", func := "crossgrain/crossgrainlaw2.IRStates", spec := "iRStates", apart := false }
def IRStatesSaid : Prop := iRStatesRow.holds Try.pinned (OpenSpec.ofChange iRStatesSpec)

/-- ITS FALSE NEIGHBOUR: 'it returns false'. Refute it at one input. -/
def iRStatesWrong : ChangeSpec := { name := "iRStates", fn := fun _ => fun
  | [d1, d2, d3] => { results := [.lit (.bool false)], args := [d1, d2, d3] }
  | _ => none }
def IRStatesWrongFalsely : Prop := iRStatesRow.holds Try.pinned (OpenSpec.ofChange iRStatesWrong)

/-- 'crossgrainlaw3.HostReads': WHATEVER THE INPUT: true; the input reads as it did. -/
def hostReadsSpec : ChangeSpec := { name := "hostReads", fn := fun _ => fun
  | [d1, d2] => { results := [.lit (.bool true)], args := [d1, d2] }
  | _ => none }
def hostReadsRow : OpenClaim := { program := "ytcjcmnnhmajocaa", sum := "006ad7899b49ab24af327436d7c37114b98534ff293df6e0b81580317f2688bb", func := "crossgrain/crossgrainlaw3.HostReads", spec := "hostReads", unfollowed := true, recurses := true, apart := false }
def HostReadsSaid : Prop := hostReadsRow.holds Try.pinned (OpenSpec.ofChange hostReadsSpec)

/-- ITS FALSE NEIGHBOUR: 'it returns false'. Refute it at one input. -/
def hostReadsWrong : ChangeSpec := { name := "hostReads", fn := fun _ => fun
  | [d1, d2] => { results := [.lit (.bool false)], args := [d1, d2] }
  | _ => none }
def HostReadsWrongFalsely : Prop := hostReadsRow.holds Try.pinned (OpenSpec.ofChange hostReadsWrong)

/-- 'crossgrainlaw3.HostWrites': WHATEVER THE INPUT: true; the input reads as it did. -/
def hostWritesSpec : ChangeSpec := { name := "hostWrites", fn := fun _ => fun
  | [d] => { results := [.lit (.bool true)], args := [d] }
  | _ => none }
def hostWritesRow : OpenClaim := { program := "ytcjcmnnhmajocaa", sum := "006ad7899b49ab24af327436d7c37114b98534ff293df6e0b81580317f2688bb", func := "crossgrain/crossgrainlaw3.HostWrites", spec := "hostWrites", unfollowed := true, recurses := true, apart := false }
def HostWritesSaid : Prop := hostWritesRow.holds Try.pinned (OpenSpec.ofChange hostWritesSpec)

/-- ITS FALSE NEIGHBOUR: 'it returns false'. Refute it at one input. -/
def hostWritesWrong : ChangeSpec := { name := "hostWrites", fn := fun _ => fun
  | [d] => { results := [.lit (.bool false)], args := [d] }
  | _ => none }
def HostWritesWrongFalsely : Prop := hostWritesRow.holds Try.pinned (OpenSpec.ofChange hostWritesWrong)

/-- 'crossgrainlaw1.GuestReads': WHATEVER THE INPUT: true; the input reads as it did. -/
def guestReadsSpec : ChangeSpec := { name := "guestReads", fn := fun _ => fun
  | [d1, d2, d3] => { results := [.lit (.bool true)], args := [d1, d2, d3] }
  | _ => none }
def guestReadsRow : OpenClaim := { program := "ytcjcmnnhmajocaa", sum := "006ad7899b49ab24af327436d7c37114b98534ff293df6e0b81580317f2688bb", func := "crossgrain/crossgrainlaw1.GuestReads", spec := "guestReads", unfollowed := true, recurses := true, apart := false }
def GuestReadsSaid : Prop := guestReadsRow.holds Try.pinned (OpenSpec.ofChange guestReadsSpec)

/-- ITS FALSE NEIGHBOUR: 'it returns false'. Refute it at one input. -/
def guestReadsWrong : ChangeSpec := { name := "guestReads", fn := fun _ => fun
  | [d1, d2, d3] => { results := [.lit (.bool false)], args := [d1, d2, d3] }
  | _ => none }
def GuestReadsWrongFalsely : Prop := guestReadsRow.holds Try.pinned (OpenSpec.ofChange guestReadsWrong)

/-- 'crossgrainlaw1.MemPlays': WHATEVER THE INPUT: true; the input reads as it did. -/
def memPlaysSpec : ChangeSpec := { name := "memPlays", fn := fun _ => fun
  | [d1, d2] => { results := [.lit (.bool true)], args := [d1, d2] }
  | _ => none }
def memPlaysRow : OpenClaim := { program := "ytcjcmnnhmajocaa", sum := "006ad7899b49ab24af327436d7c37114b98534ff293df6e0b81580317f2688bb", func := "crossgrain/crossgrainlaw1.MemPlays", spec := "memPlays", apart := false }
def MemPlaysSaid : Prop := memPlaysRow.holds Try.pinned (OpenSpec.ofChange memPlaysSpec)

/-- ITS FALSE NEIGHBOUR: 'it returns false'. Refute it at one input. -/
def memPlaysWrong : ChangeSpec := { name := "memPlays", fn := fun _ => fun
  | [d1, d2] => { results := [.lit (.bool false)], args := [d1, d2] }
  | _ => none }
def MemPlaysWrongFalsely : Prop := memPlaysRow.holds Try.pinned (OpenSpec.ofChange memPlaysWrong)

/-- 'crossgrainlaw1.GuestWrites': WHATEVER THE INPUT: true; the input reads as it did. -/
def guestWritesSpec : ChangeSpec := { name := "guestWrites", fn := fun _ => fun
  | [d] => { results := [.lit (.bool true)], args := [d] }
  | _ => none }
def guestWritesRow : OpenClaim := { program := "ytcjcmnnhmajocaa", sum := "006ad7899b49ab24af327436d7c37114b98534ff293df6e0b81580317f2688bb", func := "crossgrain/crossgrainlaw1.GuestWrites", spec := "guestWrites", unfollowed := true, recurses := true, apart := false }
def GuestWritesSaid : Prop := guestWritesRow.holds Try.pinned (OpenSpec.ofChange guestWritesSpec)

/-- ITS FALSE NEIGHBOUR: 'it returns false'. Refute it at one input. -/
def guestWritesWrong : ChangeSpec := { name := "guestWrites", fn := fun _ => fun
  | [d] => { results := [.lit (.bool false)], args := [d] }
  | _ => none }
def GuestWritesWrongFalsely : Prop := guestWritesRow.holds Try.pinned (OpenSpec.ofChange guestWritesWrong)

/-- 'crossgrainlaw1.GuestRounds': WHATEVER THE INPUT: true; the input reads as it did. -/
def guestRoundsSpec : ChangeSpec := { name := "guestRounds", fn := fun _ => fun
  | [d1, d2] => { results := [.lit (.bool true)], args := [d1, d2] }
  | _ => none }
def guestRoundsRow : OpenClaim := { program := "ytcjcmnnhmajocaa", sum := "006ad7899b49ab24af327436d7c37114b98534ff293df6e0b81580317f2688bb", func := "crossgrain/crossgrainlaw1.GuestRounds", spec := "guestRounds", unfollowed := true, recurses := true, apart := false }
def GuestRoundsSaid : Prop := guestRoundsRow.holds Try.pinned (OpenSpec.ofChange guestRoundsSpec)

/-- ITS FALSE NEIGHBOUR: 'it returns false'. Refute it at one input. -/
def guestRoundsWrong : ChangeSpec := { name := "guestRounds", fn := fun _ => fun
  | [d1, d2] => { results := [.lit (.bool false)], args := [d1, d2] }
  | _ => none }
def GuestRoundsWrongFalsely : Prop := guestRoundsRow.holds Try.pinned (OpenSpec.ofChange guestRoundsWrong)

/-- 'crossgrainlaw1.FlagsMade': WHATEVER THE INPUT: true; the input reads as it did. -/
def flagsMadeSpec : ChangeSpec := { name := "flagsMade", fn := fun _ => fun
  | [d1, d2, d3, d4, d5] => { results := [.lit (.bool true)], args := [d1, d2, d3, d4, d5] }
  | _ => none }
def flagsMadeRow : OpenClaim := { program := "ytcjcmnnhmajocaa", sum := "006ad7899b49ab24af327436d7c37114b98534ff293df6e0b81580317f2688bb", func := "crossgrain/crossgrainlaw1.FlagsMade", spec := "flagsMade", apart := false }
def FlagsMadeSaid : Prop := flagsMadeRow.holds Try.pinned (OpenSpec.ofChange flagsMadeSpec)

/-- ITS FALSE NEIGHBOUR: 'it returns false'. Refute it at one input. -/
def flagsMadeWrong : ChangeSpec := { name := "flagsMade", fn := fun _ => fun
  | [d1, d2, d3, d4, d5] => { results := [.lit (.bool false)], args := [d1, d2, d3, d4, d5] }
  | _ => none }
def FlagsMadeWrongFalsely : Prop := flagsMadeRow.holds Try.pinned (OpenSpec.ofChange flagsMadeWrong)

/-- 'crossgrainlaw1.FlagsOrder': WHATEVER THE INPUT: true; the input reads as it did. -/
def flagsOrderSpec : ChangeSpec := { name := "flagsOrder", fn := fun _ => fun
  | [d1, d2, d3, d4] => { results := [.lit (.bool true)], args := [d1, d2, d3, d4] }
  | _ => none }
def flagsOrderRow : OpenClaim := { program := "ytcjcmnnhmajocaa", sum := "006ad7899b49ab24af327436d7c37114b98534ff293df6e0b81580317f2688bb", func := "crossgrain/crossgrainlaw1.FlagsOrder", spec := "flagsOrder", apart := false }
def FlagsOrderSaid : Prop := flagsOrderRow.holds Try.pinned (OpenSpec.ofChange flagsOrderSpec)

/-- ITS FALSE NEIGHBOUR: 'it returns false'. Refute it at one input. -/
def flagsOrderWrong : ChangeSpec := { name := "flagsOrder", fn := fun _ => fun
  | [d1, d2, d3, d4] => { results := [.lit (.bool false)], args := [d1, d2, d3, d4] }
  | _ => none }
def FlagsOrderWrongFalsely : Prop := flagsOrderRow.holds Try.pinned (OpenSpec.ofChange flagsOrderWrong)

/- THE SECOND FORM. 'bulk': how many values and letters a reading holds, each counted each time it is reached (what is shared counts as often as it is met; a slice's spare places count too). A statement '..UptoSaid' is the law's where the arguments, and the package variables that the reading takes, are together of bulk at most 1048576: NARROWER than '..Said'. Prove '..Said' where nothing that the law and all that it calls make is longer than what came in: it says more and counts as full. Else prove '..UptoSaid'. A law counts once. -/
mutual
def uptoBulk {H : Type} : DataW H → Nat
  | .lit (.string bytes) => bytes.length + 1
  | .lit _ => 1
  | .nil => 1
  | .ptr d => uptoBulk d + 1
  | .slice elems spare => uptoBulkAll elems + uptoBulkAll spare + 1
  | .agg parts => uptoBulkAll parts + 1
  | .iface _ d => uptoBulk d + 1
  | .map entries => uptoBulkEntries entries + 1
  | .held _ => 1
def uptoBulkAll {H : Type} : List (DataW H) → Nat
  | [] => 0
  | d :: r => uptoBulk d + uptoBulkAll r
def uptoBulkEntries {H : Type} : List (Lit × DataW H) → Nat
  | [] => 0
  | x :: r => uptoBulkEntry x + uptoBulkEntries r
def uptoBulkEntry {H : Type} : Lit × DataW H → Nat
  | (.string bytes, d) => bytes.length + uptoBulk d + 1
  | (_, d) => uptoBulk d + 1
 end
def uptoSmall : (H : Type) → List (DataW H) → Bool := fun _ ds => decide (uptoBulkAll ds ≤ 1048576)
def OpenSpec.upto (s : _root_.Go.ChangeSpec) : _root_.Go.OpenSpec := { _root_.Go.OpenSpec.ofChange s with cond := some uptoSmall }

/-- 'crossgrainlaw1.Names', WHERE WHAT IT READS IS OF BULK AT MOST 1048576: true; the input reads as it did. -/
def namesUptoRow : OpenClaim := { program := "ytcjcmnnhmajocaa", sum := "006ad7899b49ab24af327436d7c37114b98534ff293df6e0b81580317f2688bb", func := "crossgrain/crossgrainlaw1.Names", spec := "names", apart := false, narrowed := true }
def NamesUptoSaid : Prop := namesUptoRow.holds Try.pinned (OpenSpec.upto namesSpec)

/-- 'crossgrainlaw2.IRChecks', WHERE WHAT IT READS IS OF BULK AT MOST 1048576: true; the input reads as it did. -/
def iRChecksUptoRow : OpenClaim := { program := "ytcjcmnnhmajocaa", sum := "006ad7899b49ab24af327436d7c37114b98534ff293df6e0b81580317f2688bb", func := "crossgrain/crossgrainlaw2.IRChecks", spec := "iRChecks", apart := false, narrowed := true }
def IRChecksUptoSaid : Prop := iRChecksUptoRow.holds Try.pinned (OpenSpec.upto iRChecksSpec)

/-- 'crossgrainlaw2.IRStates', WHERE WHAT IT READS IS OF BULK AT MOST 1048576: true; the input reads as it did. -/
def iRStatesUptoRow : OpenClaim := { program := "ytcjcmnnhmajocaa", sum := "006ad7899b49ab24af327436d7c37114b98534ff293df6e0b81580317f2688bb", func := "crossgrain/crossgrainlaw2.IRStates", spec := "iRStates", apart := false, narrowed := true }
def IRStatesUptoSaid : Prop := iRStatesUptoRow.holds Try.pinned (OpenSpec.upto iRStatesSpec)

/-- 'crossgrainlaw3.HostReads', WHERE WHAT IT READS IS OF BULK AT MOST 1048576: true; the input reads as it did. -/
def hostReadsUptoRow : OpenClaim := { program := "ytcjcmnnhmajocaa", sum := "006ad7899b49ab24af327436d7c37114b98534ff293df6e0b81580317f2688bb", func := "crossgrain/crossgrainlaw3.HostReads", spec := "hostReads", unfollowed := true, recurses := true, apart := false, narrowed := true }
def HostReadsUptoSaid : Prop := hostReadsUptoRow.holds Try.pinned (OpenSpec.upto hostReadsSpec)

/-- 'crossgrainlaw3.HostWrites', WHERE WHAT IT READS IS OF BULK AT MOST 1048576: true; the input reads as it did. -/
def hostWritesUptoRow : OpenClaim := { program := "ytcjcmnnhmajocaa", sum := "006ad7899b49ab24af327436d7c37114b98534ff293df6e0b81580317f2688bb", func := "crossgrain/crossgrainlaw3.HostWrites", spec := "hostWrites", unfollowed := true, recurses := true, apart := false, narrowed := true }
def HostWritesUptoSaid : Prop := hostWritesUptoRow.holds Try.pinned (OpenSpec.upto hostWritesSpec)

/-- 'crossgrainlaw1.GuestReads', WHERE WHAT IT READS IS OF BULK AT MOST 1048576: true; the input reads as it did. -/
def guestReadsUptoRow : OpenClaim := { program := "ytcjcmnnhmajocaa", sum := "006ad7899b49ab24af327436d7c37114b98534ff293df6e0b81580317f2688bb", func := "crossgrain/crossgrainlaw1.GuestReads", spec := "guestReads", unfollowed := true, recurses := true, apart := false, narrowed := true }
def GuestReadsUptoSaid : Prop := guestReadsUptoRow.holds Try.pinned (OpenSpec.upto guestReadsSpec)

/-- 'crossgrainlaw1.MemPlays', WHERE WHAT IT READS IS OF BULK AT MOST 1048576: true; the input reads as it did. -/
def memPlaysUptoRow : OpenClaim := { program := "ytcjcmnnhmajocaa", sum := "006ad7899b49ab24af327436d7c37114b98534ff293df6e0b81580317f2688bb", func := "crossgrain/crossgrainlaw1.MemPlays", spec := "memPlays", apart := false, narrowed := true }
def MemPlaysUptoSaid : Prop := memPlaysUptoRow.holds Try.pinned (OpenSpec.upto memPlaysSpec)

/-- 'crossgrainlaw1.GuestWrites', WHERE WHAT IT READS IS OF BULK AT MOST 1048576: true; the input reads as it did. -/
def guestWritesUptoRow : OpenClaim := { program := "ytcjcmnnhmajocaa", sum := "006ad7899b49ab24af327436d7c37114b98534ff293df6e0b81580317f2688bb", func := "crossgrain/crossgrainlaw1.GuestWrites", spec := "guestWrites", unfollowed := true, recurses := true, apart := false, narrowed := true }
def GuestWritesUptoSaid : Prop := guestWritesUptoRow.holds Try.pinned (OpenSpec.upto guestWritesSpec)

/-- 'crossgrainlaw1.GuestRounds', WHERE WHAT IT READS IS OF BULK AT MOST 1048576: true; the input reads as it did. -/
def guestRoundsUptoRow : OpenClaim := { program := "ytcjcmnnhmajocaa", sum := "006ad7899b49ab24af327436d7c37114b98534ff293df6e0b81580317f2688bb", func := "crossgrain/crossgrainlaw1.GuestRounds", spec := "guestRounds", unfollowed := true, recurses := true, apart := false, narrowed := true }
def GuestRoundsUptoSaid : Prop := guestRoundsUptoRow.holds Try.pinned (OpenSpec.upto guestRoundsSpec)

/-- 'crossgrainlaw1.FlagsMade', WHERE WHAT IT READS IS OF BULK AT MOST 1048576: true; the input reads as it did. -/
def flagsMadeUptoRow : OpenClaim := { program := "ytcjcmnnhmajocaa", sum := "006ad7899b49ab24af327436d7c37114b98534ff293df6e0b81580317f2688bb", func := "crossgrain/crossgrainlaw1.FlagsMade", spec := "flagsMade", apart := false, narrowed := true }
def FlagsMadeUptoSaid : Prop := flagsMadeUptoRow.holds Try.pinned (OpenSpec.upto flagsMadeSpec)

/-- 'crossgrainlaw1.FlagsOrder', WHERE WHAT IT READS IS OF BULK AT MOST 1048576: true; the input reads as it did. -/
def flagsOrderUptoRow : OpenClaim := { program := "ytcjcmnnhmajocaa", sum := "006ad7899b49ab24af327436d7c37114b98534ff293df6e0b81580317f2688bb", func := "crossgrain/crossgrainlaw1.FlagsOrder", spec := "flagsOrder", apart := false, narrowed := true }
def FlagsOrderUptoSaid : Prop := flagsOrderUptoRow.holds Try.pinned (OpenSpec.upto flagsOrderSpec)

end Rows
end Go.Proofs.Ytcjcmnnhmajocaa
