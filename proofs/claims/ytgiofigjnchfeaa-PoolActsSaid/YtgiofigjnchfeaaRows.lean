/-
  No cell of these rows narrows 'for every input' (looked for: loops, veiled, ifaces, maps, wideKeys, modest, calm, conditions, laid).
  DERIVED. THE GIVEN ROWS OF THIS SEAT. 7 by the template 'for every input the law returns true; each argument reads behind the call as it read before'; 0 by the template 'total and deterministic' (their statements: YtgiofigjnchfeaaTotals.lean).
  GIVEN WITH THE SEED: the statements are not yours to turn. If you find one false, say at which input.
  Laid BY PROGRAM, IN A SANDBOX (cutbox-rows.mjs): the forced cells as the released guide's own fill.sh prints them over the translation c75cd5471c88ae90… (all of the seat's roots in one cut). By AI agents, Wed Nov 11 2026. No macro, syntax, notation, axiom, sorry.
-/
import Derived.Test.YtgiofigjnchfeaaChecked
import GoSem.Claim
import GoSem.ClaimJoined
import GoSem.ClaimMapViews
import Derived.JoinedTies
import Derived.KernelRfl
namespace Go.Proofs.Ytgiofigjnchfeaa
/- THE CELL 'sum', in the pinned program and in every row, IS THE sha256 OF THE DUMP (.gsa) THAT YtgiofigjnchfeaaProg.lean LOADS. Nothing in Lean hashes anything: it is a label: what it is worth is what the hold of that sum in a sandbox is worth. -/
noncomputable def Try.pinned : Pinned := { name := "ytgiofigjnchfeaa", sum := "c75cd5471c88ae9010d280bf4a6d2cf9c182314ee3712c2ab5d9a14abba73080", checked := Try.checked }
namespace Rows
def none {H : Type} : Left H := { results := [], args := [] }

/-- 'interchangelaw13.PoolFewest': WHATEVER THE INPUT: true; the input reads as it did. -/
def poolFewestSpec : ChangeSpec := { name := "poolFewest", fn := fun _ => fun
  | [d1, d2] => { results := [.lit (.bool true)], args := [d1, d2] }
  | _ => none }
def poolFewestRow : OpenClaim := { program := "ytgiofigjnchfeaa", sum := "c75cd5471c88ae9010d280bf4a6d2cf9c182314ee3712c2ab5d9a14abba73080", func := "interchange/interchangelaw13.PoolFewest", spec := "poolFewest", inPlace := ["slices.overlaps[interchange/api.Slot]"], unfollowed := true, recurses := true, apart := false }
def PoolFewestSaid : Prop := poolFewestRow.holds Try.pinned (OpenSpec.ofChange poolFewestSpec)

/-- ITS FALSE NEIGHBOUR: 'it returns false'. Refute it at one input. -/
def poolFewestWrong : ChangeSpec := { name := "poolFewest", fn := fun _ => fun
  | [d1, d2] => { results := [.lit (.bool false)], args := [d1, d2] }
  | _ => none }
def PoolFewestWrongFalsely : Prop := poolFewestRow.holds Try.pinned (OpenSpec.ofChange poolFewestWrong)

/-- 'interchangelaw13.PoolFresh': WHATEVER THE INPUT: true; the input reads as it did. -/
def poolFreshSpec : ChangeSpec := { name := "poolFresh", fn := fun _ => fun
  | [d1, d2] => { results := [.lit (.bool true)], args := [d1, d2] }
  | _ => none }
def poolFreshRow : OpenClaim := { program := "ytgiofigjnchfeaa", sum := "c75cd5471c88ae9010d280bf4a6d2cf9c182314ee3712c2ab5d9a14abba73080", func := "interchange/interchangelaw13.PoolFresh", spec := "poolFresh", inPlace := ["slices.overlaps[interchange/api.Slot]"], unfollowed := true, recurses := true, apart := false }
def PoolFreshSaid : Prop := poolFreshRow.holds Try.pinned (OpenSpec.ofChange poolFreshSpec)

/-- ITS FALSE NEIGHBOUR: 'it returns false'. Refute it at one input. -/
def poolFreshWrong : ChangeSpec := { name := "poolFresh", fn := fun _ => fun
  | [d1, d2] => { results := [.lit (.bool false)], args := [d1, d2] }
  | _ => none }
def PoolFreshWrongFalsely : Prop := poolFreshRow.holds Try.pinned (OpenSpec.ofChange poolFreshWrong)

/-- 'interchangelaw13.PoolDowns': WHATEVER THE INPUT: true; the input reads as it did. -/
def poolDownsSpec : ChangeSpec := { name := "poolDowns", fn := fun _ => fun
  | [d1, d2, d3] => { results := [.lit (.bool true)], args := [d1, d2, d3] }
  | _ => none }
def poolDownsRow : OpenClaim := { program := "ytgiofigjnchfeaa", sum := "c75cd5471c88ae9010d280bf4a6d2cf9c182314ee3712c2ab5d9a14abba73080", func := "interchange/interchangelaw13.PoolDowns", spec := "poolDowns", inPlace := ["slices.overlaps[interchange/api.Slot]"], unfollowed := true, recurses := true, apart := false }
def PoolDownsSaid : Prop := poolDownsRow.holds Try.pinned (OpenSpec.ofChange poolDownsSpec)

/-- ITS FALSE NEIGHBOUR: 'it returns false'. Refute it at one input. -/
def poolDownsWrong : ChangeSpec := { name := "poolDowns", fn := fun _ => fun
  | [d1, d2, d3] => { results := [.lit (.bool false)], args := [d1, d2, d3] }
  | _ => none }
def PoolDownsWrongFalsely : Prop := poolDownsRow.holds Try.pinned (OpenSpec.ofChange poolDownsWrong)

/-- 'interchangelaw13.PoolScrub': WHATEVER THE INPUT: true; the input reads as it did. -/
def poolScrubSpec : ChangeSpec := { name := "poolScrub", fn := fun _ => fun
  | [d] => { results := [.lit (.bool true)], args := [d] }
  | _ => none }
def poolScrubRow : OpenClaim := { program := "ytgiofigjnchfeaa", sum := "c75cd5471c88ae9010d280bf4a6d2cf9c182314ee3712c2ab5d9a14abba73080", func := "interchange/interchangelaw13.PoolScrub", spec := "poolScrub", inPlace := ["slices.overlaps[interchange/api.Slot]"], unfollowed := true, recurses := true, apart := false }
def PoolScrubSaid : Prop := poolScrubRow.holds Try.pinned (OpenSpec.ofChange poolScrubSpec)

/-- ITS FALSE NEIGHBOUR: 'it returns false'. Refute it at one input. -/
def poolScrubWrong : ChangeSpec := { name := "poolScrub", fn := fun _ => fun
  | [d] => { results := [.lit (.bool false)], args := [d] }
  | _ => none }
def PoolScrubWrongFalsely : Prop := poolScrubRow.holds Try.pinned (OpenSpec.ofChange poolScrubWrong)

/-- 'interchangelaw13.PoolSlots': WHATEVER THE INPUT: true; the input reads as it did. -/
def poolSlotsSpec : ChangeSpec := { name := "poolSlots", fn := fun _ => fun
  | [d] => { results := [.lit (.bool true)], args := [d] }
  | _ => none }
def poolSlotsRow : OpenClaim := { program := "ytgiofigjnchfeaa", sum := "c75cd5471c88ae9010d280bf4a6d2cf9c182314ee3712c2ab5d9a14abba73080", func := "interchange/interchangelaw13.PoolSlots", spec := "poolSlots", inPlace := ["slices.overlaps[interchange/api.Slot]"], unfollowed := true, recurses := true, apart := false }
def PoolSlotsSaid : Prop := poolSlotsRow.holds Try.pinned (OpenSpec.ofChange poolSlotsSpec)

/-- ITS FALSE NEIGHBOUR: 'it returns false'. Refute it at one input. -/
def poolSlotsWrong : ChangeSpec := { name := "poolSlots", fn := fun _ => fun
  | [d] => { results := [.lit (.bool false)], args := [d] }
  | _ => none }
def PoolSlotsWrongFalsely : Prop := poolSlotsRow.holds Try.pinned (OpenSpec.ofChange poolSlotsWrong)

/-- 'interchangelaw13.PoolActs': WHATEVER THE INPUT: true; the input reads as it did. -/
def poolActsSpec : ChangeSpec := { name := "poolActs", fn := fun _ => fun
  | [d] => { results := [.lit (.bool true)], args := [d] }
  | _ => none }
def poolActsRow : OpenClaim := { program := "ytgiofigjnchfeaa", sum := "c75cd5471c88ae9010d280bf4a6d2cf9c182314ee3712c2ab5d9a14abba73080", func := "interchange/interchangelaw13.PoolActs", spec := "poolActs", inPlace := ["slices.overlaps[interchange/api.Slot]"], unfollowed := true, recurses := true, apart := false }
def PoolActsSaid : Prop := poolActsRow.holds Try.pinned (OpenSpec.ofChange poolActsSpec)

/-- ITS FALSE NEIGHBOUR: 'it returns false'. Refute it at one input. -/
def poolActsWrong : ChangeSpec := { name := "poolActs", fn := fun _ => fun
  | [d] => { results := [.lit (.bool false)], args := [d] }
  | _ => none }
def PoolActsWrongFalsely : Prop := poolActsRow.holds Try.pinned (OpenSpec.ofChange poolActsWrong)

/-- 'interchangelaw13.PoolStays': WHATEVER THE INPUT: true; the input reads as it did. -/
def poolStaysSpec : ChangeSpec := { name := "poolStays", fn := fun _ => fun
  | [d1, d2] => { results := [.lit (.bool true)], args := [d1, d2] }
  | _ => none }
def poolStaysRow : OpenClaim := { program := "ytgiofigjnchfeaa", sum := "c75cd5471c88ae9010d280bf4a6d2cf9c182314ee3712c2ab5d9a14abba73080", func := "interchange/interchangelaw13.PoolStays", spec := "poolStays", inPlace := ["slices.overlaps[interchange/api.Slot]"], unfollowed := true, recurses := true, apart := false }
def PoolStaysSaid : Prop := poolStaysRow.holds Try.pinned (OpenSpec.ofChange poolStaysSpec)

/-- ITS FALSE NEIGHBOUR: 'it returns false'. Refute it at one input. -/
def poolStaysWrong : ChangeSpec := { name := "poolStays", fn := fun _ => fun
  | [d1, d2] => { results := [.lit (.bool false)], args := [d1, d2] }
  | _ => none }
def PoolStaysWrongFalsely : Prop := poolStaysRow.holds Try.pinned (OpenSpec.ofChange poolStaysWrong)

/- THE SECOND FORM. 'bulk': how many values and letters a reading holds, each counted each time it is reached (what is shared counts as often as it is met; a slice's spare places count too). A statement '..UptoSaid' is the law's where the arguments, and the package variables that the reading takes, are together of bulk at most 1048576: NARROWER than '..Said'. Prove '..Said' where nothing that the law and all that it calls make is longer than what came in: it says more and counts as full. Else prove '..UptoSaid'. A law counts once. -/
mutual
def uptoBulk {H : Type} : DataW H → Nat
  | .lit (.string bytes) => bytes.length + 1
  | .lit _ => 1
  | .nil => 1
  | .ptr d => uptoBulk d + 1
  | .slice elems spare => uptoBulkAll elems + uptoBulkAll spare + 1
  | .agg parts => uptoBulkAll parts + 1
  | .iface _ d => uptoBulk d + 1
  | .map entries => uptoBulkEntries entries + 1
  | .held _ => 1
def uptoBulkAll {H : Type} : List (DataW H) → Nat
  | [] => 0
  | d :: r => uptoBulk d + uptoBulkAll r
def uptoBulkEntries {H : Type} : List (Lit × DataW H) → Nat
  | [] => 0
  | x :: r => uptoBulkEntry x + uptoBulkEntries r
def uptoBulkEntry {H : Type} : Lit × DataW H → Nat
  | (.string bytes, d) => bytes.length + uptoBulk d + 1
  | (_, d) => uptoBulk d + 1
 end
def uptoSmall : (H : Type) → List (DataW H) → Bool := fun _ ds => decide (uptoBulkAll ds ≤ 1048576)
def OpenSpec.upto (s : _root_.Go.ChangeSpec) : _root_.Go.OpenSpec := { _root_.Go.OpenSpec.ofChange s with cond := some uptoSmall }

/-- 'interchangelaw13.PoolFewest', WHERE WHAT IT READS IS OF BULK AT MOST 1048576: true; the input reads as it did. -/
def poolFewestUptoRow : OpenClaim := { program := "ytgiofigjnchfeaa", sum := "c75cd5471c88ae9010d280bf4a6d2cf9c182314ee3712c2ab5d9a14abba73080", func := "interchange/interchangelaw13.PoolFewest", spec := "poolFewest", inPlace := ["slices.overlaps[interchange/api.Slot]"], unfollowed := true, recurses := true, apart := false, narrowed := true }
def PoolFewestUptoSaid : Prop := poolFewestUptoRow.holds Try.pinned (OpenSpec.upto poolFewestSpec)

/-- 'interchangelaw13.PoolFresh', WHERE WHAT IT READS IS OF BULK AT MOST 1048576: true; the input reads as it did. -/
def poolFreshUptoRow : OpenClaim := { program := "ytgiofigjnchfeaa", sum := "c75cd5471c88ae9010d280bf4a6d2cf9c182314ee3712c2ab5d9a14abba73080", func := "interchange/interchangelaw13.PoolFresh", spec := "poolFresh", inPlace := ["slices.overlaps[interchange/api.Slot]"], unfollowed := true, recurses := true, apart := false, narrowed := true }
def PoolFreshUptoSaid : Prop := poolFreshUptoRow.holds Try.pinned (OpenSpec.upto poolFreshSpec)

/-- 'interchangelaw13.PoolDowns', WHERE WHAT IT READS IS OF BULK AT MOST 1048576: true; the input reads as it did. -/
def poolDownsUptoRow : OpenClaim := { program := "ytgiofigjnchfeaa", sum := "c75cd5471c88ae9010d280bf4a6d2cf9c182314ee3712c2ab5d9a14abba73080", func := "interchange/interchangelaw13.PoolDowns", spec := "poolDowns", inPlace := ["slices.overlaps[interchange/api.Slot]"], unfollowed := true, recurses := true, apart := false, narrowed := true }
def PoolDownsUptoSaid : Prop := poolDownsUptoRow.holds Try.pinned (OpenSpec.upto poolDownsSpec)

/-- 'interchangelaw13.PoolScrub', WHERE WHAT IT READS IS OF BULK AT MOST 1048576: true; the input reads as it did. -/
def poolScrubUptoRow : OpenClaim := { program := "ytgiofigjnchfeaa", sum := "c75cd5471c88ae9010d280bf4a6d2cf9c182314ee3712c2ab5d9a14abba73080", func := "interchange/interchangelaw13.PoolScrub", spec := "poolScrub", inPlace := ["slices.overlaps[interchange/api.Slot]"], unfollowed := true, recurses := true, apart := false, narrowed := true }
def PoolScrubUptoSaid : Prop := poolScrubUptoRow.holds Try.pinned (OpenSpec.upto poolScrubSpec)

/-- 'interchangelaw13.PoolSlots', WHERE WHAT IT READS IS OF BULK AT MOST 1048576: true; the input reads as it did. -/
def poolSlotsUptoRow : OpenClaim := { program := "ytgiofigjnchfeaa", sum := "c75cd5471c88ae9010d280bf4a6d2cf9c182314ee3712c2ab5d9a14abba73080", func := "interchange/interchangelaw13.PoolSlots", spec := "poolSlots", inPlace := ["slices.overlaps[interchange/api.Slot]"], unfollowed := true, recurses := true, apart := false, narrowed := true }
def PoolSlotsUptoSaid : Prop := poolSlotsUptoRow.holds Try.pinned (OpenSpec.upto poolSlotsSpec)

/-- 'interchangelaw13.PoolActs', WHERE WHAT IT READS IS OF BULK AT MOST 1048576: true; the input reads as it did. -/
def poolActsUptoRow : OpenClaim := { program := "ytgiofigjnchfeaa", sum := "c75cd5471c88ae9010d280bf4a6d2cf9c182314ee3712c2ab5d9a14abba73080", func := "interchange/interchangelaw13.PoolActs", spec := "poolActs", inPlace := ["slices.overlaps[interchange/api.Slot]"], unfollowed := true, recurses := true, apart := false, narrowed := true }
def PoolActsUptoSaid : Prop := poolActsUptoRow.holds Try.pinned (OpenSpec.upto poolActsSpec)

/-- 'interchangelaw13.PoolStays', WHERE WHAT IT READS IS OF BULK AT MOST 1048576: true; the input reads as it did. -/
def poolStaysUptoRow : OpenClaim := { program := "ytgiofigjnchfeaa", sum := "c75cd5471c88ae9010d280bf4a6d2cf9c182314ee3712c2ab5d9a14abba73080", func := "interchange/interchangelaw13.PoolStays", spec := "poolStays", inPlace := ["slices.overlaps[interchange/api.Slot]"], unfollowed := true, recurses := true, apart := false, narrowed := true }
def PoolStaysUptoSaid : Prop := poolStaysUptoRow.holds Try.pinned (OpenSpec.upto poolStaysSpec)

end Rows
end Go.Proofs.Ytgiofigjnchfeaa
