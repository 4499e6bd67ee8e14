/-
  No cell of these rows narrows 'for every input' (looked for: loops, veiled, ifaces, maps, wideKeys, modest, calm, conditions, laid).
  DERIVED. THE GIVEN ROWS OF THIS SEAT. 7 by the template 'for every input the law returns true; each argument reads behind the call as it read before'; 0 by the template 'total and deterministic' (their statements: YteomnodigfcfeaaTotals.lean).
  GIVEN WITH THE SEED: the statements are not yours to turn. If you find one false, say at which input.
  Laid BY PROGRAM, IN A SANDBOX (cutbox-rows.mjs): the forced cells as the released guide's own fill.sh prints them over the translation f8c00e6e81aa33c8… (all of the seat's roots in one cut). By AI agents, Wed Nov 11 2026. No macro, syntax, notation, axiom, sorry.
-/
import Derived.Test.YteomnodigfcfeaaChecked
import GoSem.Claim
import GoSem.ClaimJoined
import GoSem.ClaimMapViews
import Derived.JoinedTies
import Derived.KernelRfl
namespace Go.Proofs.Yteomnodigfcfeaa
/- THE CELL 'sum', in the pinned program and in every row, IS THE sha256 OF THE DUMP (.gsa) THAT YteomnodigfcfeaaProg.lean LOADS. Nothing in Lean hashes anything: it is a label: what it is worth is what the hold of that sum in a sandbox is worth. -/
noncomputable def Try.pinned : Pinned := { name := "yteomnodigfcfeaa", sum := "f8c00e6e81aa33c8a2ff496f7f7fae659dc6491c5e706e65ce372511d940fb34", checked := Try.checked }
namespace Rows
def none {H : Type} : Left H := { results := [], args := [] }

/-- 'interchangelaw12.BeatDues': WHATEVER THE INPUT: true; the input reads as it did. -/
def beatDuesSpec : ChangeSpec := { name := "beatDues", fn := fun _ => fun
  | [d] => { results := [.lit (.bool true)], args := [d] }
  | _ => none }
def beatDuesRow : OpenClaim := { program := "yteomnodigfcfeaa", sum := "f8c00e6e81aa33c8a2ff496f7f7fae659dc6491c5e706e65ce372511d940fb34", func := "interchange/interchangelaw12.BeatDues", spec := "beatDues", unfollowed := true, recurses := true, apart := false }
def BeatDuesSaid : Prop := beatDuesRow.holds Try.pinned (OpenSpec.ofChange beatDuesSpec)

/-- ITS FALSE NEIGHBOUR: 'it returns false'. Refute it at one input. -/
def beatDuesWrong : ChangeSpec := { name := "beatDues", fn := fun _ => fun
  | [d] => { results := [.lit (.bool false)], args := [d] }
  | _ => none }
def BeatDuesWrongFalsely : Prop := beatDuesRow.holds Try.pinned (OpenSpec.ofChange beatDuesWrong)

/-- 'interchangelaw12.BeatTaken': WHATEVER THE INPUT: true; the input reads as it did. -/
def beatTakenSpec : ChangeSpec := { name := "beatTaken", fn := fun _ => fun
  | [d1, d2] => { results := [.lit (.bool true)], args := [d1, d2] }
  | _ => none }
def beatTakenRow : OpenClaim := { program := "yteomnodigfcfeaa", sum := "f8c00e6e81aa33c8a2ff496f7f7fae659dc6491c5e706e65ce372511d940fb34", func := "interchange/interchangelaw12.BeatTaken", spec := "beatTaken", unfollowed := true, recurses := true, apart := false }
def BeatTakenSaid : Prop := beatTakenRow.holds Try.pinned (OpenSpec.ofChange beatTakenSpec)

/-- ITS FALSE NEIGHBOUR: 'it returns false'. Refute it at one input. -/
def beatTakenWrong : ChangeSpec := { name := "beatTaken", fn := fun _ => fun
  | [d1, d2] => { results := [.lit (.bool false)], args := [d1, d2] }
  | _ => none }
def BeatTakenWrongFalsely : Prop := beatTakenRow.holds Try.pinned (OpenSpec.ofChange beatTakenWrong)

/-- 'interchangelaw12.BeatSets': WHATEVER THE INPUT: true; the input reads as it did. -/
def beatSetsSpec : ChangeSpec := { name := "beatSets", fn := fun _ => fun
  | [d1, d2, d3] => { results := [.lit (.bool true)], args := [d1, d2, d3] }
  | _ => none }
def beatSetsRow : OpenClaim := { program := "yteomnodigfcfeaa", sum := "f8c00e6e81aa33c8a2ff496f7f7fae659dc6491c5e706e65ce372511d940fb34", func := "interchange/interchangelaw12.BeatSets", spec := "beatSets", unfollowed := true, recurses := true, apart := false }
def BeatSetsSaid : Prop := beatSetsRow.holds Try.pinned (OpenSpec.ofChange beatSetsSpec)

/-- ITS FALSE NEIGHBOUR: 'it returns false'. Refute it at one input. -/
def beatSetsWrong : ChangeSpec := { name := "beatSets", fn := fun _ => fun
  | [d1, d2, d3] => { results := [.lit (.bool false)], args := [d1, d2, d3] }
  | _ => none }
def BeatSetsWrongFalsely : Prop := beatSetsRow.holds Try.pinned (OpenSpec.ofChange beatSetsWrong)

/-- 'interchangelaw12.BeatNext': WHATEVER THE INPUT: true; the input reads as it did. -/
def beatNextSpec : ChangeSpec := { name := "beatNext", fn := fun _ => fun
  | [d] => { results := [.lit (.bool true)], args := [d] }
  | _ => none }
def beatNextRow : OpenClaim := { program := "yteomnodigfcfeaa", sum := "f8c00e6e81aa33c8a2ff496f7f7fae659dc6491c5e706e65ce372511d940fb34", func := "interchange/interchangelaw12.BeatNext", spec := "beatNext", unfollowed := true, recurses := true, apart := false }
def BeatNextSaid : Prop := beatNextRow.holds Try.pinned (OpenSpec.ofChange beatNextSpec)

/-- ITS FALSE NEIGHBOUR: 'it returns false'. Refute it at one input. -/
def beatNextWrong : ChangeSpec := { name := "beatNext", fn := fun _ => fun
  | [d] => { results := [.lit (.bool false)], args := [d] }
  | _ => none }
def BeatNextWrongFalsely : Prop := beatNextRow.holds Try.pinned (OpenSpec.ofChange beatNextWrong)

/-- 'interchangelaw12.BeatLater': WHATEVER THE INPUT: true; the input reads as it did. -/
def beatLaterSpec : ChangeSpec := { name := "beatLater", fn := fun _ => fun
  | [d1, d2, d3] => { results := [.lit (.bool true)], args := [d1, d2, d3] }
  | _ => none }
def beatLaterRow : OpenClaim := { program := "yteomnodigfcfeaa", sum := "f8c00e6e81aa33c8a2ff496f7f7fae659dc6491c5e706e65ce372511d940fb34", func := "interchange/interchangelaw12.BeatLater", spec := "beatLater", unfollowed := true, recurses := true, apart := false }
def BeatLaterSaid : Prop := beatLaterRow.holds Try.pinned (OpenSpec.ofChange beatLaterSpec)

/-- ITS FALSE NEIGHBOUR: 'it returns false'. Refute it at one input. -/
def beatLaterWrong : ChangeSpec := { name := "beatLater", fn := fun _ => fun
  | [d1, d2, d3] => { results := [.lit (.bool false)], args := [d1, d2, d3] }
  | _ => none }
def BeatLaterWrongFalsely : Prop := beatLaterRow.holds Try.pinned (OpenSpec.ofChange beatLaterWrong)

/-- 'interchangelaw12.BeatSteady': WHATEVER THE INPUT: true; the input reads as it did. -/
def beatSteadySpec : ChangeSpec := { name := "beatSteady", fn := fun _ => fun
  | [d1, d2, d3] => { results := [.lit (.bool true)], args := [d1, d2, d3] }
  | _ => none }
def beatSteadyRow : OpenClaim := { program := "yteomnodigfcfeaa", sum := "f8c00e6e81aa33c8a2ff496f7f7fae659dc6491c5e706e65ce372511d940fb34", func := "interchange/interchangelaw12.BeatSteady", spec := "beatSteady", unfollowed := true, recurses := true, apart := false }
def BeatSteadySaid : Prop := beatSteadyRow.holds Try.pinned (OpenSpec.ofChange beatSteadySpec)

/-- ITS FALSE NEIGHBOUR: 'it returns false'. Refute it at one input. -/
def beatSteadyWrong : ChangeSpec := { name := "beatSteady", fn := fun _ => fun
  | [d1, d2, d3] => { results := [.lit (.bool false)], args := [d1, d2, d3] }
  | _ => none }
def BeatSteadyWrongFalsely : Prop := beatSteadyRow.holds Try.pinned (OpenSpec.ofChange beatSteadyWrong)

/-- 'interchangelaw12.BeatNone': WHATEVER THE INPUT: true; the input reads as it did. -/
def beatNoneSpec : ChangeSpec := { name := "beatNone", fn := fun _ => fun
  | [d1, d2, d3] => { results := [.lit (.bool true)], args := [d1, d2, d3] }
  | _ => none }
def beatNoneRow : OpenClaim := { program := "yteomnodigfcfeaa", sum := "f8c00e6e81aa33c8a2ff496f7f7fae659dc6491c5e706e65ce372511d940fb34", func := "interchange/interchangelaw12.BeatNone", spec := "beatNone", unfollowed := true, recurses := true, apart := false }
def BeatNoneSaid : Prop := beatNoneRow.holds Try.pinned (OpenSpec.ofChange beatNoneSpec)

/-- ITS FALSE NEIGHBOUR: 'it returns false'. Refute it at one input. -/
def beatNoneWrong : ChangeSpec := { name := "beatNone", fn := fun _ => fun
  | [d1, d2, d3] => { results := [.lit (.bool false)], args := [d1, d2, d3] }
  | _ => none }
def BeatNoneWrongFalsely : Prop := beatNoneRow.holds Try.pinned (OpenSpec.ofChange beatNoneWrong)

/- THE SECOND FORM. 'bulk': how many values and letters a reading holds, each counted each time it is reached (what is shared counts as often as it is met; a slice's spare places count too). A statement '..UptoSaid' is the law's where the arguments, and the package variables that the reading takes, are together of bulk at most 1048576: NARROWER than '..Said'. Prove '..Said' where nothing that the law and all that it calls make is longer than what came in: it says more and counts as full. Else prove '..UptoSaid'. A law counts once. -/
mutual
def uptoBulk {H : Type} : DataW H → Nat
  | .lit (.string bytes) => bytes.length + 1
  | .lit _ => 1
  | .nil => 1
  | .ptr d => uptoBulk d + 1
  | .slice elems spare => uptoBulkAll elems + uptoBulkAll spare + 1
  | .agg parts => uptoBulkAll parts + 1
  | .iface _ d => uptoBulk d + 1
  | .map entries => uptoBulkEntries entries + 1
  | .held _ => 1
def uptoBulkAll {H : Type} : List (DataW H) → Nat
  | [] => 0
  | d :: r => uptoBulk d + uptoBulkAll r
def uptoBulkEntries {H : Type} : List (Lit × DataW H) → Nat
  | [] => 0
  | x :: r => uptoBulkEntry x + uptoBulkEntries r
def uptoBulkEntry {H : Type} : Lit × DataW H → Nat
  | (.string bytes, d) => bytes.length + uptoBulk d + 1
  | (_, d) => uptoBulk d + 1
 end
def uptoSmall : (H : Type) → List (DataW H) → Bool := fun _ ds => decide (uptoBulkAll ds ≤ 1048576)
def OpenSpec.upto (s : _root_.Go.ChangeSpec) : _root_.Go.OpenSpec := { _root_.Go.OpenSpec.ofChange s with cond := some uptoSmall }

/-- 'interchangelaw12.BeatDues', WHERE WHAT IT READS IS OF BULK AT MOST 1048576: true; the input reads as it did. -/
def beatDuesUptoRow : OpenClaim := { program := "yteomnodigfcfeaa", sum := "f8c00e6e81aa33c8a2ff496f7f7fae659dc6491c5e706e65ce372511d940fb34", func := "interchange/interchangelaw12.BeatDues", spec := "beatDues", unfollowed := true, recurses := true, apart := false, narrowed := true }
def BeatDuesUptoSaid : Prop := beatDuesUptoRow.holds Try.pinned (OpenSpec.upto beatDuesSpec)

/-- 'interchangelaw12.BeatTaken', WHERE WHAT IT READS IS OF BULK AT MOST 1048576: true; the input reads as it did. -/
def beatTakenUptoRow : OpenClaim := { program := "yteomnodigfcfeaa", sum := "f8c00e6e81aa33c8a2ff496f7f7fae659dc6491c5e706e65ce372511d940fb34", func := "interchange/interchangelaw12.BeatTaken", spec := "beatTaken", unfollowed := true, recurses := true, apart := false, narrowed := true }
def BeatTakenUptoSaid : Prop := beatTakenUptoRow.holds Try.pinned (OpenSpec.upto beatTakenSpec)

/-- 'interchangelaw12.BeatSets', WHERE WHAT IT READS IS OF BULK AT MOST 1048576: true; the input reads as it did. -/
def beatSetsUptoRow : OpenClaim := { program := "yteomnodigfcfeaa", sum := "f8c00e6e81aa33c8a2ff496f7f7fae659dc6491c5e706e65ce372511d940fb34", func := "interchange/interchangelaw12.BeatSets", spec := "beatSets", unfollowed := true, recurses := true, apart := false, narrowed := true }
def BeatSetsUptoSaid : Prop := beatSetsUptoRow.holds Try.pinned (OpenSpec.upto beatSetsSpec)

/-- 'interchangelaw12.BeatNext', WHERE WHAT IT READS IS OF BULK AT MOST 1048576: true; the input reads as it did. -/
def beatNextUptoRow : OpenClaim := { program := "yteomnodigfcfeaa", sum := "f8c00e6e81aa33c8a2ff496f7f7fae659dc6491c5e706e65ce372511d940fb34", func := "interchange/interchangelaw12.BeatNext", spec := "beatNext", unfollowed := true, recurses := true, apart := false, narrowed := true }
def BeatNextUptoSaid : Prop := beatNextUptoRow.holds Try.pinned (OpenSpec.upto beatNextSpec)

/-- 'interchangelaw12.BeatLater', WHERE WHAT IT READS IS OF BULK AT MOST 1048576: true; the input reads as it did. -/
def beatLaterUptoRow : OpenClaim := { program := "yteomnodigfcfeaa", sum := "f8c00e6e81aa33c8a2ff496f7f7fae659dc6491c5e706e65ce372511d940fb34", func := "interchange/interchangelaw12.BeatLater", spec := "beatLater", unfollowed := true, recurses := true, apart := false, narrowed := true }
def BeatLaterUptoSaid : Prop := beatLaterUptoRow.holds Try.pinned (OpenSpec.upto beatLaterSpec)

/-- 'interchangelaw12.BeatSteady', WHERE WHAT IT READS IS OF BULK AT MOST 1048576: true; the input reads as it did. -/
def beatSteadyUptoRow : OpenClaim := { program := "yteomnodigfcfeaa", sum := "f8c00e6e81aa33c8a2ff496f7f7fae659dc6491c5e706e65ce372511d940fb34", func := "interchange/interchangelaw12.BeatSteady", spec := "beatSteady", unfollowed := true, recurses := true, apart := false, narrowed := true }
def BeatSteadyUptoSaid : Prop := beatSteadyUptoRow.holds Try.pinned (OpenSpec.upto beatSteadySpec)

/-- 'interchangelaw12.BeatNone', WHERE WHAT IT READS IS OF BULK AT MOST 1048576: true; the input reads as it did. -/
def beatNoneUptoRow : OpenClaim := { program := "yteomnodigfcfeaa", sum := "f8c00e6e81aa33c8a2ff496f7f7fae659dc6491c5e706e65ce372511d940fb34", func := "interchange/interchangelaw12.BeatNone", spec := "beatNone", unfollowed := true, recurses := true, apart := false, narrowed := true }
def BeatNoneUptoSaid : Prop := beatNoneUptoRow.holds Try.pinned (OpenSpec.upto beatNoneSpec)

end Rows
end Go.Proofs.Yteomnodigfcfeaa
